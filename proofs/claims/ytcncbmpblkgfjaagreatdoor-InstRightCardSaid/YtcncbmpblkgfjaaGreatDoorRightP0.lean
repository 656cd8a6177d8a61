/- Steps of walks: each a theorem whose last argument is a tactic. -/
import Derived.KernelRfl
namespace Go.Av
variable {p : Prop}
theorem Y1d (h:p:=by assumption):p:=h
theorem Y1e (h:p:=by kernel_rfl):p:=h
theorem Y1b (h:p:=by rintro _ ⟨⟩):p:=h
theorem Y1c (h:p:=by simp;omega):p:=h
theorem Y1a (h:p:=by (simp;omega)):p:=h
theorem Y17 (h:p:=by decide +kernel):p:=h
theorem Y18 (h:p:=by simpa using hk):p:=h
theorem Y19 (h:p:=by simpa using hc):p:=h
theorem Y16 (h:p:=by rw [hc];decide):p:=h
theorem Y15 (h:p:=by rw [hc1];decide):p:=h
theorem Y13 (h:p:=by show _≤1;omega):p:=h
theorem Y14 (h:p:=by unfold Lid;omega):p:=h
theorem Y12 (h:p:=by simp [AV.bel,Lid]):p:=h
theorem Y11 (h:p:=by rintro _ ⟨⟩;decide):p:=h
theorem Yy (h:p:=by rw [qn7];omega):p:=h
theorem Yz (h:p:=by rw [qlp];omega):p:=h
theorem Y10 (h:p:=by (simp [q42];done)):p:=h
theorem Yx (h:p:=by rintro _ ⟨⟩;exact hd):p:=h
theorem Yv (h:p:=by exact fun _=>⟨_,rfl⟩):p:=h
theorem Yw (h:p:=by rw [h0] at hr;cases hr):p:=h
theorem Yu (h:p:=by rw [List.map_append];rfl):p:=h
theorem Yt (h:p:=by rw [q4s _ _ hai];exact ha):p:=h
theorem Yq (h:p:=by rw [IntKind.wrap_u64];omega):p:=h
theorem Yr (h:p:=by exact fun _=>⟨_,rfl,rfl⟩):p:=h
theorem Ys (h:p:=by rw [List.length_take];omega):p:=h
theorem Yp (h:p:=by rintro _ ⟨G,rfl⟩;exact h1 G):p:=h
theorem Yn (h:p:=by rw [ok.gen];exact Nat.le_refl _):p:=h
theorem Yo (h:p:=by first | rfl | (simp [get];done)):p:=h
theorem Ym (h:p:=by exact fun _=>⟨_,rfl,rfl,rfl⟩):p:=h
theorem Yl (h:p:=by exact que Y17):p:=h
theorem Yk (h:p:=by simpa [List.filterMap_cons] using h1):p:=h
theorem Yj (h:p:=by rw [List.drop_zero,← hn,List.take_length]):p:=h
theorem Yi (h:p:=by rw [List.drop_zero,← hlen,List.take_length]):p:=h
theorem Yh (h:p:=by rw [e,hy] at hx;exact (Option.some.inj hx).symm):p:=h
theorem Yg (h:p:=by rw [List.drop_zero,List.take_of_length_le (by simp)]):p:=h
theorem Yf (h:p:=by rw [List.take_length,hl,List.take_length] at ht;exact ht):p:=h
theorem Ye (h:p:=by rw [List.drop_zero,List.take_of_length_le Y1c]):p:=h
theorem Yd (h:p:=by intro r hr;simp only [List.mem_singleton] at hr;subst hr;rfl):p:=h
theorem Yc (h:p:=by rw [show i+(j-i-1)+1=j by omega];exact List.getElem?_eq_getElem hj):p:=h
theorem Yb (h:p:=by repeat (first | exact SubX.refl _ _ | refine SubX.at ?_ | refine SubX.put rfl ?_)):p:=h
theorem Ya (h:p:=by have h':j+1+1=i+1:=hi;obtain rfl:i=j+1:=(by omega);exact hb2):p:=h
theorem Y9 (h:p:=by intro o ho r hr;simp only [List.mem_singleton] at ho;subst ho;exact qcl _ _ r hr):p:=h
theorem Y7 (h:p:=by first | rfl | (simp [AV.bel,AV.bels,Lid];done) | (simp [AV.bel,AV.bels,Lid];omega)):p:=h
theorem Y8 (h:p:=by intro o ho r hr;simp only [List.mem_singleton] at ho;subst ho;exact q1y _ _ r hr):p:=h
theorem Y6 (h:p:=by repeat (first | exact Sub.nil | refine Sub.cons Yo ?_)):p:=h
theorem Y4 (h:p:=by rw [show (i:Int)-1=((i-1:Nat):Int) by omega];exact q1b (by omega) (by omega)):p:=h
theorem Y5 (h:p:=by rw [show ((j+1:Nat):Int)-1=(j:Int) by omega];exact q1b (by omega) (by omega)):p:=h
theorem Y3 (h:p:=by intro r hr;simp only [List.mem_singleton] at hr;subst hr;(simp [AV.bels,AV.bel,q42];done)):p:=h
theorem Y2 (h:p:=by rw [hh];exact Y6):p:=h
theorem Y1 (h:p:=by repeat (first | exact EBel.nil | refine EBel.cons Y7 ?_)):p:=h
structure Hid (p : Prop) : Prop where
 o:p
variable {G G' : Prop}
theorem Z1 (k:G') (h:Hid G'→G:=by intro x';(repeat (first | refine qg1 ?_ | refine qg6 ?_ | refine q95 ?_ | refine qjw ?_ | refine qgk ?_ | refine qk5 ?_ | refine qg0 rfl ?_ | refine qfs ?_ | refine qjx ?_ | refine qen ?_ | refine qmi ?_ | refine qdr ?_ | refine qjv ?_ | refine qgn ?_ | refine q33 ?_));exact x'.o):G:=h ⟨k⟩
theorem Z2 (k:G') (h:Hid G'→G:=by intro x';refine Z1 ?_;refine q1k ?_;exact x'.o):G:=h ⟨k⟩
theorem Z3 (k:G') (h:Hid G'→G:=by intro x';refine ao1 (by decide) (q14 (v:=.int _ _) rfl) ?_;exact x'.o):G:=h ⟨k⟩
theorem Z4 (k:G') (h:Hid G'→G:=by intro x';refine Z3 ?_;refine qf ?_;exact x'.o):G:=h ⟨k⟩
theorem Z5 (k:G') (h:Hid G'→G:=by intro x';refine Z2 ?_;refine Z4 ?_;exact x'.o):G:=h ⟨k⟩
theorem Z6 (k:G') (h:Hid G'→G:=by intro x';refine ao1 (by decide) (qd (v:=.str _) rfl) ?_;exact x'.o):G:=h ⟨k⟩
theorem Z7 (k:G') (h:Hid G'→G:=by intro x';refine Z2 ?_;refine Z6 ?_;exact x'.o):G:=h ⟨k⟩
theorem Z8 (k:G') (h:Hid G'→G:=by intro x';refine ao1 (by decide) (qd (v:=.int _ _) rfl) ?_;exact x'.o):G:=h ⟨k⟩
theorem Z9 (k:G') (h:Hid G'→G:=by intro x';refine qf ?_;refine Z1 ?_;exact x'.o):G:=h ⟨k⟩
theorem Za (k:G') (h:Hid G'→G:=by intro x';refine Z3 ?_;refine Z9 ?_;exact x'.o):G:=h ⟨k⟩
theorem Zb (h:G:=by exact q4d hB (q3t rfl .nil) rfl rfl):G:=h
theorem Zc (h:G:=by refine Za ?_;exact Zb):G:=h
theorem Zd (k:G') (h:Hid G'→G:=by intro x';refine ao1 (by decide) (q14 (v:=.bool _) rfl) ?_;exact x'.o):G:=h ⟨k⟩
theorem Ze (k:G') (h:Hid G'→G:=by intro x';refine Zd ?_;refine Z9 ?_;exact x'.o):G:=h ⟨k⟩
theorem Zf (k:G') (h:Hid G'→G:=by intro x';refine Z2 ?_;refine Ze ?_;exact x'.o):G:=h ⟨k⟩
theorem Zg (k:G') (h:Hid G'→G:=by intro x';refine ao1 (by decide) (qqc rfl rfl) ?_;exact x'.o):G:=h ⟨k⟩
theorem Zh (k:G') (h:Hid G'→G:=by intro x';refine ao1 (by decide) (qd (v:=.bool _) rfl) ?_;exact x'.o):G:=h ⟨k⟩
theorem Zi (k:G') (h:Hid G'→G:=by intro x';refine Zg ?_;refine Zh ?_;exact x'.o):G:=h ⟨k⟩
theorem Zj (k:G') (h:Hid G'→G:=by intro x';refine q2n rfl rfl (by decide) (qd (v:=.int _ _) rfl) ?_;exact x'.o):G:=h ⟨k⟩
theorem Zk (k:G') (h:Hid G'→G:=by intro x';refine q2n rfl rfl (by decide) (qsr rfl rfl) ?_;exact x'.o):G:=h ⟨k⟩
theorem Zl (k:G') (h:Hid G'→G:=by intro x';refine Zj ?_;refine Zk ?_;exact x'.o):G:=h ⟨k⟩
theorem Zm (k:G') (h:Hid G'→G:=by intro x';refine ao1 (by decide) (q16 (v:=.bool _) rfl rfl) ?_;exact x'.o):G:=h ⟨k⟩
theorem Zn (k:G') (h:Hid G'→G:=by intro x';refine Zm ?_;refine Zd ?_;exact x'.o):G:=h ⟨k⟩
theorem Zo (h:G:=by exact qf (Out.mk (by (refine congrArg AV.bool ?_;(refine Bool.eq_iff_iff.mpr ?_;simp only [Bool.and_eq_true,Bool.or_eq_true,Bool.not_eq_true',decide_eq_true_eq,decide_eq_false_iff_not,beq_iff_eq,bne_iff_ne,beq_eq_false_iff_ne,Bool.false_eq_true,Bool.true_eq_false,Bool.and_eq_false_iff,Bool.or_eq_false_iff,List.length_map,false_iff,true_iff,iff_true,iff_false] at *;omega))) Yb)):G:=h
theorem Zp (k:G') (h:Hid G'→G:=by intro x';refine qz4 rfl rfl (by decide) ?_;exact x'.o):G:=h ⟨k⟩
theorem Zq (k:G') (h:Hid G'→G:=by intro x';refine Zp ?_;refine Zp ?_;exact x'.o):G:=h ⟨k⟩
theorem Zr (k:G') (h:Hid G'→G:=by intro x';refine ao1 (by decide) (q17 (v:=.bool _) rfl rfl) ?_;exact x'.o):G:=h ⟨k⟩
theorem Zs (k:G') (h:Hid G'→G:=by intro x';refine Zr ?_;refine Zd ?_;exact x'.o):G:=h ⟨k⟩
theorem Zt (k:G') (h:Hid G'→G:=by intro x';refine Zq ?_;refine Zs ?_;exact x'.o):G:=h ⟨k⟩
theorem Zu (k:G') (h:Hid G'→G:=by intro x';refine ao1 (by decide) (qsr rfl rfl) ?_;exact x'.o):G:=h ⟨k⟩
theorem Zv (k:G') (h:Hid G'→G:=by intro x';refine Zu ?_;refine Zh ?_;exact x'.o):G:=h ⟨k⟩
theorem Zw (k:G') (h:Hid G'→G:=by intro x';refine Z8 ?_;refine Zv ?_;exact x'.o):G:=h ⟨k⟩
theorem Zx (k:G') (h:Hid G'→G:=by intro x';refine q2n rfl rfl (by decide) (qqc rfl rfl) ?_;exact x'.o):G:=h ⟨k⟩
theorem Zy (k:G') (h:Hid G'→G:=by intro x';refine Zx ?_;refine Zn ?_;exact x'.o):G:=h ⟨k⟩
theorem Zz (k:G') (h:Hid G'→G:=by intro x';refine Zj ?_;refine Zy ?_;exact x'.o):G:=h ⟨k⟩
theorem Z10 (k:G') (h:Hid G'→G:=by intro x';refine Z2 ?_;refine Za ?_;exact x'.o):G:=h ⟨k⟩
theorem Z11 (h:G:=by exact qf (Out.mk (by rfl) Yb)):G:=h
theorem Z12 (k:G') (h:Hid G'→G:=by intro x';refine Z2 ?_;refine Z8 ?_;exact x'.o):G:=h ⟨k⟩
theorem Z13 (k:G') (h:Hid G'→G:=by intro x';refine ao1 (by decide) (qya rfl rfl) ?_;exact x'.o):G:=h ⟨k⟩
theorem Z14 (k:G') (h:Hid G'→G:=by intro x';refine Z13 ?_;refine Ze ?_;exact x'.o):G:=h ⟨k⟩
theorem Z15 (k:G') (h:Hid G'→G:=by intro x';refine ao1 (by decide) (q1m (v:=.int _ _) rfl rfl) ?_;exact x'.o):G:=h ⟨k⟩
theorem Z16 (k:G') (h:Hid G'→G:=by intro x';refine Z3 ?_;refine Z4 ?_;exact x'.o):G:=h ⟨k⟩
theorem Z17 (k:G') (h:Hid G'→G:=by intro x';refine Z13 ?_;refine Z9 ?_;exact x'.o):G:=h ⟨k⟩
theorem Z18 (k:G') (h:Hid G'→G:=by intro x';refine Z12 ?_;refine Z17 ?_;exact x'.o):G:=h ⟨k⟩
theorem Z19 (h:G:=by refine Z2 ?_;exact Zc):G:=h
theorem Z1a (k:G') (h:Hid G'→G:=by intro x';refine ao1 (by decide) (q8e rfl) ?_;exact x'.o):G:=h ⟨k⟩
theorem Z1b (k:G') (h:Hid G'→G:=by intro x';refine ao1 (by decide) (qv5 rfl) ?_;exact x'.o):G:=h ⟨k⟩
theorem Z1c (k:G') (h:Hid G'→G:=by intro x';refine Z12 ?_;refine Z4 ?_;exact x'.o):G:=h ⟨k⟩
theorem Z1d (k:G') (h:Hid G'→G:=by intro x';(repeat (first | refine qg1 ?_ | refine qg6 ?_ | refine q95 ?_ | refine qjw ?_ | refine qgk ?_ | refine qk5 ?_ | refine qg0 rfl ?_ | refine qfs ?_ | refine qjx ?_ | refine qen ?_ | refine qmi ?_ | refine qdr ?_ | refine qjv ?_ | refine qgn ?_));exact x'.o):G:=h ⟨k⟩
theorem Z1e (k:G') (h:Hid G'→G:=by intro x';refine Z5 ?_;refine Z1d ?_;exact x'.o):G:=h ⟨k⟩
theorem Z1f (k:G') (h:Hid G'→G:=by intro x';refine Zu ?_;refine Z9 ?_;exact x'.o):G:=h ⟨k⟩
theorem Z1g (k:G') (h:Hid G'→G:=by intro x';refine q2y mixed none 999 ?_;exact x'.o):G:=h ⟨k⟩
theorem Z1h (k:G') (h:Hid G'→G:=by intro x';refine Z1 ?_;refine Z1g ?_;exact x'.o):G:=h ⟨k⟩
theorem Z1i (k:G') (h:Hid G'→G:=by intro x';refine aq0 0 rfl Y17 (by decide) (fun _=>qd (v:=.str _) rfl) ?_;exact x'.o):G:=h ⟨k⟩
theorem Z1j (k:G') (h:Hid G'→G:=by intro x';refine aq0 1 rfl Y17 (by decide) (fun _=>qd (v:=.int _ _) rfl) ?_;exact x'.o):G:=h ⟨k⟩
theorem Z1k (k:G') (h:Hid G'→G:=by intro x';refine aq0 4 rfl Y17 (by decide) (fun _=>qd (v:=.int _ _) rfl) ?_;exact x'.o):G:=h ⟨k⟩
theorem Z1l (k:G') (h:Hid G'→G:=by intro x';refine q1i Y17 Yv ?_;exact x'.o):G:=h ⟨k⟩
theorem Z1m (k:G') (h:Hid G'→G:=by intro x';refine Z1l ?_;refine Z1 ?_;exact x'.o):G:=h ⟨k⟩
theorem Z1n (k:G') (h:Hid G'→G:=by intro x';refine aq0 5 rfl Y17 (by decide) (fun _=>qd (v:=.int _ _) rfl) ?_;exact x'.o):G:=h ⟨k⟩
theorem Z1o (k:G') (h:Hid G'→G:=by intro x';refine aq0 8 rfl Y17 (by decide) (fun _=>q14 (v:=.int _ _) rfl) ?_;exact x'.o):G:=h ⟨k⟩
theorem Z1p (k:G') (h:Hid G'→G:=by intro x';refine Z12 ?_;refine Z1f ?_;exact x'.o):G:=h ⟨k⟩
theorem Z1q (k:G') (h:Hid G'→G:=by intro x';refine Zd ?_;refine qf ?_;exact x'.o):G:=h ⟨k⟩
theorem Z1r (k:G') (h:Hid G'→G:=by intro x';refine Z2 ?_;refine Z1q ?_;exact x'.o):G:=h ⟨k⟩
theorem Z1s (k:G') (h:Hid G'→G:=by intro x';refine ao1 (by decide) (qy2 rfl rfl) ?_;exact x'.o):G:=h ⟨k⟩
theorem Z1t (h:G:=by refine Ze ?_;exact Zb):G:=h
theorem Z1u (k:G') (h:Hid G'→G:=by intro x';refine ao1 (by decide) (qd (v:=.fn _ _ _) rfl) ?_;exact x'.o):G:=h ⟨k⟩
theorem Z1v (k:G') (h:Hid G'→G:=by intro x';refine Z2 ?_;refine Z1u ?_;exact x'.o):G:=h ⟨k⟩
theorem Z1w (k:G') (h:Hid G'→G:=by intro x';refine Z12 ?_;refine Za ?_;exact x'.o):G:=h ⟨k⟩
theorem Z1x (k:G') (h:Hid G'→G:=by intro x';refine q2n rfl rfl (by decide) (qd (v:=.str _) rfl) ?_;exact x'.o):G:=h ⟨k⟩
theorem Z1y (k:G') (h:Hid G'→G:=by intro x';refine q2n rfl rfl (by decide) (q8e rfl) ?_;exact x'.o):G:=h ⟨k⟩
theorem Z1z (h:G:=by exact qf (Out.mk (by (refine congrArg AV.bool ?_;(simp_all;done))) Yb)):G:=h
theorem Z20 (k:G') (h:Hid G'→G:=by intro x';refine Zq ?_;refine Zp ?_;exact x'.o):G:=h ⟨k⟩
theorem Z21 (k:G') (h:Hid G'→G:=by intro x';refine Z20 ?_;refine Zs ?_;exact x'.o):G:=h ⟨k⟩
theorem Z22 (h:G:=by refine Z1 ?_;exact Zb):G:=h
theorem Z23 (k:G') (h:Hid G'→G:=by intro x';refine Z1r ?_;refine Z1e ?_;exact x'.o):G:=h ⟨k⟩
theorem Z24 (k:G') (h:Hid G'→G:=by intro x';refine Z1s ?_;refine Zh ?_;exact x'.o):G:=h ⟨k⟩
theorem Z25 (k:G') (h:Hid G'→G:=by intro x';refine q2n rfl rfl (by decide) (q6f rfl rfl (by omega) h1) ?_;exact x'.o):G:=h ⟨k⟩
theorem Z26 (k:G') (h:Hid G'→G:=by intro x';refine Z1a ?_;refine Zh ?_;exact x'.o):G:=h ⟨k⟩
theorem Z27 (k:G') (h:Hid G'→G:=by intro x';refine q2n rfl rfl (by decide) (qy2 rfl rfl) ?_;exact x'.o):G:=h ⟨k⟩
theorem Z28 (k:G') (h:Hid G'→G:=by intro x';refine q2n rfl rfl (by decide) (qd (v:=.bool _) rfl) ?_;exact x'.o):G:=h ⟨k⟩
theorem Z29 (k:G') (h:Hid G'→G:=by intro x';refine q2n rfl rfl (by decide) (q16 (v:=.bool _) rfl rfl) ?_;exact x'.o):G:=h ⟨k⟩
theorem Z2a (k:G') (h:Hid G'→G:=by intro x';refine Z1y ?_;refine Zm ?_;exact x'.o):G:=h ⟨k⟩
theorem Z2b (h:G:=by exact qf (Out.mk (by (refine congrArg AV.bool ?_;simp only [qh5,qe6] at *;grind)) Yb)):G:=h
theorem Z2c (k:G') (h:Hid G'→G:=by intro x';refine Zq ?_;refine Zq ?_;exact x'.o):G:=h ⟨k⟩
theorem Z2d (k:G') (h:Hid G'→G:=by intro x';refine q2n rfl rfl (by decide) (q17 (v:=.bool _) rfl rfl) ?_;exact x'.o):G:=h ⟨k⟩
theorem Z2e (k:G') (h:Hid G'→G:=by intro x';refine qz9 rfl rfl (by decide) ?_;exact x'.o):G:=h ⟨k⟩
theorem Z2f (k:G') (h:Hid G'→G:=by intro x';refine Z2e ?_;refine Z2e ?_;exact x'.o):G:=h ⟨k⟩
theorem Z2g (k:G') (h:Hid G'→G:=by intro x';refine Z2f ?_;refine Z2f ?_;exact x'.o):G:=h ⟨k⟩
theorem Z2h (k:G') (h:Hid G'→G:=by intro x';refine Zq ?_;refine Zr ?_;exact x'.o):G:=h ⟨k⟩
theorem Z2i (k:G') (h:Hid G'→G:=by intro x';refine Z2c ?_;refine Zr ?_;exact x'.o):G:=h ⟨k⟩
theorem Z2j (k:G') (h:Hid G'→G:=by intro x';refine ao1 (by decide) (q5y rfl rfl (q1b (by omega) (by omega))) ?_;exact x'.o):G:=h ⟨k⟩
theorem Z2k (k:G') (h:Hid G'→G:=by intro x';refine Z2j ?_;refine Za ?_;exact x'.o):G:=h ⟨k⟩
theorem Z2l (k:G') (h:Hid G'→G:=by intro x';refine Z12 ?_;refine Z2k ?_;exact x'.o):G:=h ⟨k⟩
theorem Z2m (k:G') (h:Hid G'→G:=by intro x';refine Z5 ?_;refine Z12 ?_;exact x'.o):G:=h ⟨k⟩
theorem Z2n (k:G') (h:Hid G'→G:=by intro x';refine ao1 (by decide) (qyf rfl rfl rfl) ?_;exact x'.o):G:=h ⟨k⟩
theorem Z2o (k:G') (h:Hid G'→G:=by intro x';refine q13 (qpl _ _) rfl (by decide) ?_;exact x'.o):G:=h ⟨k⟩
theorem Z2p (k:G') (h:Hid G'→G:=by intro x';refine ao1 (by decide) (qjz rfl rfl) ?_;exact x'.o):G:=h ⟨k⟩
theorem Z2q (k:G') (h:Hid G'→G:=by intro x';refine Z2p ?_;refine Z9 ?_;exact x'.o):G:=h ⟨k⟩
theorem Z2r (k:G') (h:Hid G'→G:=by intro x';refine q13 (qoe _ _) rfl (by decide) ?_;exact x'.o):G:=h ⟨k⟩
theorem Z2s (k:G') (h:Hid G'→G:=by intro x';refine ao1 (by decide) (q5h rfl (q1b (by omega) (by omega))) ?_;exact x'.o):G:=h ⟨k⟩
theorem Z2t (k:G') (h:Hid G'→G:=by intro x';refine Z12 ?_;refine Z8 ?_;exact x'.o):G:=h ⟨k⟩
theorem Z2u (k:G') (h:Hid G'→G:=by intro x';refine ao1 (by decide) (qpe rfl rfl) ?_;exact x'.o):G:=h ⟨k⟩
theorem Z2v (k:G') (h:Hid G'→G:=by intro x';refine q13 (qr7 _ _) rfl (by decide) ?_;exact x'.o):G:=h ⟨k⟩
theorem Z2w (k:G') (h:Hid G'→G:=by intro x';refine Z2 ?_;refine Zh ?_;exact x'.o):G:=h ⟨k⟩
theorem Z2x (k:G') (h:Hid G'→G:=by intro x';refine Z2w ?_;refine Z9 ?_;exact x'.o):G:=h ⟨k⟩
theorem Z2y (k:G') (h:Hid G'→G:=by intro x';refine Z2t ?_;refine Z1f ?_;exact x'.o):G:=h ⟨k⟩
theorem Z2z (k:G') (h:Hid G'→G:=by intro x';refine Z2t ?_;refine Z2q ?_;exact x'.o):G:=h ⟨k⟩
theorem Z30 (k:G') (h:Hid G'→G:=by intro x';refine Z8 ?_;refine Z8 ?_;exact x'.o):G:=h ⟨k⟩
theorem Z31 (k:G') (h:Hid G'→G:=by intro x';refine ao2 Y11 (qcc (sz:=7) (v:=.agg _) rfl rfl rfl rfl (by decide) rfl) ?_;exact x'.o):G:=h ⟨k⟩
theorem Z32 (k:G') (h:Hid G'→G:=by intro x';refine Z2 ?_;refine Z31 ?_;exact x'.o):G:=h ⟨k⟩
theorem Z33 (k:G') (h:Hid G'→G:=by intro x';(try dsimp only [List.length_nil,put,AV.cells,List.nil_append]);exact x'.o):G:=h ⟨k⟩
theorem Z34 (k:G') (h:Hid G'→G:=by intro x';refine Z1q ?_;refine Z33 ?_;exact x'.o):G:=h ⟨k⟩
theorem Z35 (k:G') (h:Hid G'→G:=by intro x';refine Z34 ?_;refine Z1 ?_;exact x'.o):G:=h ⟨k⟩
theorem Z36 (k:G') (h:Hid G'→G:=by intro x';refine ao1 (by decide) (qc rfl (lk rfl rfl) rfl (by decide)) ?_;exact x'.o):G:=h ⟨k⟩
theorem Z37 (k:G') (h:Hid G'→G:=by intro x';refine Z36 ?_;refine ao1 (by decide) (qi (v:=.int _ _) rfl (lk rfl rfl) rfl rfl rfl) ?_;exact x'.o):G:=h ⟨k⟩
theorem Z38 (k:G') (h:Hid G'→G:=by intro x';refine q2n rfl rfl (by decide) (qc rfl (lk rfl rfl) rfl (by decide)) ?_;exact x'.o):G:=h ⟨k⟩
theorem Z39 (k:G') (h:Hid G'→G:=by intro x';refine Z38 ?_;refine q2n rfl rfl (by decide) (qi (v:=.int _ _) rfl (lk rfl rfl) rfl rfl rfl) ?_;exact x'.o):G:=h ⟨k⟩
theorem Z3a (k:G') (h:Hid G'→G:=by intro x';refine q5b rfl rfl (by decide) (V2.call (qdk _ _ _ _) rfl) ?_;exact x'.o):G:=h ⟨k⟩
theorem Z3b (k:G') (h:Hid G'→G:=by intro x';refine Zm ?_;refine Zh ?_;exact x'.o):G:=h ⟨k⟩
theorem Z3c (h:G:=by exact qf (Out.mk (by (refine congrArg AV.bool ?_;(simp only [qfr] at *;(simp_all;done)))) Yb)):G:=h
theorem Z3d (h:G:=by exact qf (Out.mk (by (refine congrArg AV.bool ?_;(simp only [qfr] at *;(simp_all;omega)))) Yb)):G:=h
theorem Z3e (k:G') (h:Hid G'→G:=by intro x';refine Zr ?_;refine Zh ?_;exact x'.o):G:=h ⟨k⟩
theorem Z3f (k:G') (h:Hid G'→G:=by intro x';refine Z20 ?_;refine Z3e ?_;exact x'.o):G:=h ⟨k⟩
theorem Z3g (k:G') (h:Hid G'→G:=by intro x';refine Z3f ?_;refine Z21 ?_;exact x'.o):G:=h ⟨k⟩
theorem Z3h (k:G') (h:Hid G'→G:=by intro x';refine Z36 ?_;refine ao1 (by decide) (qi (v:=.bool _) rfl (lk rfl rfl) rfl rfl rfl) ?_;exact x'.o):G:=h ⟨k⟩
theorem Z3i (k:G') (h:Hid G'→G:=by intro x';refine qyn rfl rfl (by decide) ?_;exact x'.o):G:=h ⟨k⟩
theorem Z3j (k:G') (h:Hid G'→G:=by intro x';refine Z3i ?_;refine Z3i ?_;exact x'.o):G:=h ⟨k⟩
theorem Z3k (k:G') (h:Hid G'→G:=by intro x';refine Z3j ?_;refine Z3i ?_;exact x'.o):G:=h ⟨k⟩
theorem Z3l (k:G') (h:Hid G'→G:=by intro x';refine Z3k ?_;refine Z3b ?_;exact x'.o):G:=h ⟨k⟩
theorem Z3m (h:G:=by exact qf (Out.mk (by (refine congrArg AV.bool ?_;(simp only [qo1] at *;(simp_all;done)))) Yb)):G:=h
theorem Z3n (k:G') (h:Hid G'→G:=by intro x';refine q2n rfl rfl (by decide) (qjz rfl rfl) ?_;exact x'.o):G:=h ⟨k⟩
theorem Z3o (k:G') (h:Hid G'→G:=by intro x';refine Z3n ?_;refine Z3e ?_;exact x'.o):G:=h ⟨k⟩
theorem Z3p (k:G') (h:Hid G'→G:=by intro x';refine Z39 ?_;refine Z3o ?_;exact x'.o):G:=h ⟨k⟩
theorem Z3q (h:G:=by exact qf (Out.mk (by (refine congrArg AV.bool ?_;(simp only [qo1] at *;(simp_all;omega)))) Yb)):G:=h
theorem Z3r (k:G') (h:Hid G'→G:=by intro x';refine Zh ?_;refine Zh ?_;exact x'.o):G:=h ⟨k⟩
theorem Z3s (k:G') (h:Hid G'→G:=by intro x';refine q2n rfl rfl (by decide) (qi (v:=.str _) rfl (lk rfl rfl) rfl rfl rfl) ?_;exact x'.o):G:=h ⟨k⟩
theorem Z3t (h:G:=by exact qf (Out.mk (by (refine congrArg AV.bool ?_;(simp only [q2m] at *;(simp_all;done)))) Yb)):G:=h
theorem Z3u (h:G:=by exact qf (Out.mk (by (refine congrArg AV.bool ?_;(simp only [q2m] at *;(simp_all;omega)))) Yb)):G:=h
theorem Z3v (k:G') (h:Hid G'→G:=by intro x';refine Z3f ?_;refine Z3g ?_;exact x'.o):G:=h ⟨k⟩
theorem Z3w (k:G') (h:Hid G'→G:=by intro x';refine Z37 ?_;refine Zv ?_;exact x'.o):G:=h ⟨k⟩
theorem Z3x (k:G') (h:Hid G'→G:=by intro x';refine Z3l ?_;refine Z3l ?_;exact x'.o):G:=h ⟨k⟩
theorem Z3y (k:G') (h:Hid G'→G:=by intro x';refine Z3x ?_;refine Z3x ?_;exact x'.o):G:=h ⟨k⟩
theorem Z3z (k:G') (h:Hid G'→G:=by intro x';refine Z3k ?_;refine Zm ?_;exact x'.o):G:=h ⟨k⟩
theorem Z40 (k:G') (h:Hid G'→G:=by intro x';refine Z3l ?_;refine Z3z ?_;exact x'.o):G:=h ⟨k⟩
theorem Z41 (k:G') (h:Hid G'→G:=by intro x';refine Z39 ?_;refine Zk ?_;exact x'.o):G:=h ⟨k⟩
theorem Z42 (k:G') (h:Hid G'→G:=by intro x';refine Z41 ?_;refine Z3e ?_;exact x'.o):G:=h ⟨k⟩
theorem Z43 (k:G') (h:Hid G'→G:=by intro x';refine Z3n ?_;refine Zr ?_;exact x'.o):G:=h ⟨k⟩
theorem Z44 (k:G') (h:Hid G'→G:=by intro x';refine Z13 ?_;refine Zh ?_;exact x'.o):G:=h ⟨k⟩
theorem Z45 (k:G') (h:Hid G'→G:=by intro x';refine Z37 ?_;refine Z44 ?_;exact x'.o):G:=h ⟨k⟩
theorem Z46 (k:G') (h:Hid G'→G:=by intro x';refine q2n rfl rfl (by decide) (qya rfl rfl) ?_;exact x'.o):G:=h ⟨k⟩
theorem Z47 (k:G') (h:Hid G'→G:=by intro x';refine Z39 ?_;refine Z46 ?_;exact x'.o):G:=h ⟨k⟩
theorem Z48 (k:G') (h:Hid G'→G:=by intro x';refine Z47 ?_;refine Z3b ?_;exact x'.o):G:=h ⟨k⟩
theorem Z49 (k:G') (h:Hid G'→G:=by intro x';refine Z20 ?_;refine Zr ?_;exact x'.o):G:=h ⟨k⟩
theorem Z4a (k:G') (h:Hid G'→G:=by intro x';refine Z39 ?_;refine Z27 ?_;exact x'.o):G:=h ⟨k⟩
theorem Z4b (k:G') (h:Hid G'→G:=by intro x';refine ao1 (by decide) (q2h rfl (lk rfl rfl) rfl rfl rfl) ?_;exact x'.o):G:=h ⟨k⟩
theorem Z4c (k:G') (h:Hid G'→G:=by intro x';refine Z2 ?_;refine Z4b ?_;exact x'.o):G:=h ⟨k⟩
theorem Z4d (k:G') (h:Hid G'→G:=by intro x';refine Z1a ?_;refine Z9 ?_;exact x'.o):G:=h ⟨k⟩
theorem Z4e (k:G') (h:Hid G'→G:=by intro x';refine q13 (qhx _ _ _) rfl (by decide) ?_;exact x'.o):G:=h ⟨k⟩
theorem Z4f (k:G') (h:Hid G'→G:=by intro x';(try dsimp only [Nat.reduceAdd]);exact x'.o):G:=h ⟨k⟩
theorem Z4g (k:G') (h:Hid G'→G:=by intro x';refine Z4 ?_;refine Z4f ?_;exact x'.o):G:=h ⟨k⟩
theorem Z4h (k:G') (h:Hid G'→G:=by intro x';refine Z4g ?_;refine Z1 ?_;exact x'.o):G:=h ⟨k⟩
theorem Z4i (k:G') (h:Hid G'→G:=by intro x';refine Z2 ?_;refine Z37 ?_;exact x'.o):G:=h ⟨k⟩
theorem Z4j (k:G') (h:Hid G'→G:=by intro x';refine q13 (qa4 _ _ _) rfl (by decide) ?_;exact x'.o):G:=h ⟨k⟩
theorem Z4k (k:G') (h:Hid G'→G:=by intro x';refine ao1 (by decide) (q14 (v:=.nsl) rfl) ?_;exact x'.o):G:=h ⟨k⟩
theorem Z4l (k:G') (h:Hid G'→G:=by intro x';refine Z2 ?_;refine Z4k ?_;exact x'.o):G:=h ⟨k⟩
theorem Z4m (k:G') (h:Hid G'→G:=by intro x';refine Z4l ?_;refine qf ?_;exact x'.o):G:=h ⟨k⟩
theorem Z4n (k:G') (h:Hid G'→G:=by intro x';refine ao1 (by decide) (qd (v:=.pl _) rfl) ?_;exact x'.o):G:=h ⟨k⟩
theorem Z4o (k:G') (h:Hid G'→G:=by intro x';refine Z2 ?_;refine Z4n ?_;exact x'.o):G:=h ⟨k⟩
theorem Z4p (k:G') (h:Hid G'→G:=by intro x';refine Z4m ?_;refine Z4o ?_;exact x'.o):G:=h ⟨k⟩
theorem Z4q (k:G') (h:Hid G'→G:=by intro x';refine qf ?_;(try dsimp only [put]);exact x'.o):G:=h ⟨k⟩
theorem Z4r (k:G') (h:Hid G'→G:=by intro x';refine Z4q ?_;refine Z1 ?_;exact x'.o):G:=h ⟨k⟩
theorem Z4s (k:G') (h:Hid G'→G:=by intro x';refine Z4m ?_;refine Z1d ?_;exact x'.o):G:=h ⟨k⟩
theorem Z4t (k:G') (h:Hid G'→G:=by intro x';refine Z4s ?_;refine q1c 2 rfl ?_;exact x'.o):G:=h ⟨k⟩
theorem Z4u (k:G') (h:Hid G'→G:=by intro x';refine Z2 ?_;refine ao2 Y11 (q6t) ?_;exact x'.o):G:=h ⟨k⟩
theorem Z4v (k:G') (h:Hid G'→G:=by intro x';refine Z4u ?_;refine Z4n ?_;exact x'.o):G:=h ⟨k⟩
theorem Z4w (k:G') (h:Hid G'→G:=by intro x';refine ao1 (by decide) (q14 (v:=.pl _) rfl) ?_;exact x'.o):G:=h ⟨k⟩
theorem Z4x (k:G') (h:Hid G'→G:=by intro x';refine Z4w ?_;refine Z4q ?_;exact x'.o):G:=h ⟨k⟩
theorem Z4y (h:G:=by refine Z4x ?_;exact Z22):G:=h
theorem Z4z (k:G') (h:Hid G'→G:=by intro x';refine ao2 Y11 (qcc (sz:=13) (v:=.agg _) rfl rfl rfl rfl (by decide) rfl) ?_;exact x'.o):G:=h ⟨k⟩
theorem Z50 (k:G') (h:Hid G'→G:=by intro x';refine Z2 ?_;refine Z4z ?_;exact x'.o):G:=h ⟨k⟩
theorem Z51 (k:G') (h:Hid G'→G:=by intro x';refine ao1 (by decide) (qi (v:=.pl _) rfl (lk rfl rfl) rfl rfl rfl) ?_;exact x'.o):G:=h ⟨k⟩
theorem Z52 (k:G') (h:Hid G'→G:=by intro x';refine Z36 ?_;refine Z51 ?_;exact x'.o):G:=h ⟨k⟩
theorem Z53 (k:G') (h:Hid G'→G:=by intro x';refine Z2 ?_;refine Z52 ?_;exact x'.o):G:=h ⟨k⟩
theorem Z54 (k:G') (h:Hid G'→G:=by intro x';refine ao1 (by decide) (qfg rfl) ?_;exact x'.o):G:=h ⟨k⟩
theorem Z55 (k:G') (h:Hid G'→G:=by intro x';refine qf ?_;refine Z4f ?_;exact x'.o):G:=h ⟨k⟩
theorem Z56 (k:G') (h:Hid G'→G:=by intro x';refine Z55 ?_;refine Z1 ?_;exact x'.o):G:=h ⟨k⟩
theorem Z57 (k:G') (h:Hid G'→G:=by intro x';refine Z54 ?_;refine Z8 ?_;exact x'.o):G:=h ⟨k⟩
theorem Z58 (k:G') (h:Hid G'→G:=by intro x';refine Z57 ?_;refine Z55 ?_;exact x'.o):G:=h ⟨k⟩
theorem Z59 (k:G') (h:Hid G'→G:=by intro x';refine Z58 ?_;refine Z1d ?_;exact x'.o):G:=h ⟨k⟩
theorem Z5a (k:G') (h:Hid G'→G:=by intro x';refine Z2 ?_;refine Z1f ?_;exact x'.o):G:=h ⟨k⟩
theorem Z5b (k:G') (h:Hid G'→G:=by intro x';refine ao1 (by decide) (qe rfl rfl hr rfl) ?_;exact x'.o):G:=h ⟨k⟩
theorem Z5c (k:G') (h:Hid G'→G:=by intro x';refine ao1 (by decide) (qz (v:=.int _ _) rfl hr rfl) ?_;exact x'.o):G:=h ⟨k⟩
theorem Z5d (k:G') (h:Hid G'→G:=by intro x';refine Z5b ?_;refine Z5c ?_;exact x'.o):G:=h ⟨k⟩
theorem Z5e (k:G') (h:Hid G'→G:=by intro x';refine Z2 ?_;refine Z5d ?_;exact x'.o):G:=h ⟨k⟩
theorem Z5f (k:G') (h:Hid G'→G:=by intro x';refine Z3j ?_;refine Z3j ?_;exact x'.o):G:=h ⟨k⟩
theorem Z5g (k:G') (h:Hid G'→G:=by intro x';refine Z5f ?_;refine Zm ?_;exact x'.o):G:=h ⟨k⟩
theorem Z5h (h:G:=by exact qf (Out.mk (by (refine congrArg AV.bool ?_;(rw [hok] at *;simp only [Bool.not_not] at *;(simp_all;done)))) Yb)):G:=h
theorem Z5i (h:G:=by exact qf (Out.mk (by (refine congrArg AV.bool ?_;(rw [hok] at *;simp only [Bool.not_not] at *;(simp_all;omega)))) Yb)):G:=h
theorem Z5j (k:G') (h:Hid G'→G:=by intro x';refine Z2 ?_;refine Z2j ?_;exact x'.o):G:=h ⟨k⟩
theorem Z5k (k:G') (h:Hid G'→G:=by intro x';refine Z5j ?_;refine Z8 ?_;exact x'.o):G:=h ⟨k⟩
theorem Z5l (k:G') (h:Hid G'→G:=by intro x';refine Z5k ?_;refine Z9 ?_;exact x'.o):G:=h ⟨k⟩
theorem Z5m (h:G:=by refine Zf ?_;exact Zb):G:=h
theorem Z5n (k:G') (h:Hid G'→G:=by intro x';refine q13 (qec _ _) rfl (by decide) ?_;exact x'.o):G:=h ⟨k⟩
theorem Z5o (k:G') (h:Hid G'→G:=by intro x';refine Zq ?_;refine Z21 ?_;exact x'.o):G:=h ⟨k⟩
theorem Z5p (k:G') (h:Hid G'→G:=by intro x';refine q2n rfl rfl (by decide) (qux rfl rfl rfl) ?_;exact x'.o):G:=h ⟨k⟩
theorem Z5q (k:G') (h:Hid G'→G:=by intro x';refine Z2 ?_;refine Z14 ?_;exact x'.o):G:=h ⟨k⟩
theorem Z5r (h:G:=by exact qf (Out.mk (by (refine congrArg AV.bool ?_;(simp only [q43,hs] at *;(simp_all;done)))) Yb)):G:=h
theorem Z5s (h:G:=by refine Zn ?_;exact Z5r):G:=h
theorem Z5t (k:G') (h:Hid G'→G:=by intro x';refine Zp ?_;refine Zs ?_;exact x'.o):G:=h ⟨k⟩
theorem Z5u (h:G:=by exact qf (Out.mk (by (refine congrArg AV.bool ?_;(simp only [q43,h0,h1,h2,h3,h4,h5] at *;(simp_all;done)))) Yb)):G:=h
theorem Z5v (k:G') (h:Hid G'→G:=by intro x';refine q2n rfl rfl (by decide) (qcw (cs:=[_,_,_,_,_,_,_]) rfl (lk rfl rfl) rfl rfl rfl rfl) ?_;exact x'.o):G:=h ⟨k⟩
theorem Z5w (k:G') (h:Hid G'→G:=by intro x';refine q5b rfl rfl (by decide) (V2.call (qeg _ _) rfl) ?_;exact x'.o):G:=h ⟨k⟩
theorem Z5x (k:G') (h:Hid G'→G:=by intro x';refine q2n rfl rfl (by decide) (q2h rfl (lk rfl rfl) rfl rfl rfl) ?_;exact x'.o):G:=h ⟨k⟩
theorem Z5y (k:G') (h:Hid G'→G:=by intro x';refine q5b rfl rfl (by decide) (V2.call (qec _ _) rfl) ?_;exact x'.o):G:=h ⟨k⟩
theorem Z5z (h:G:=by exact qf (Out.mk (by (refine congrArg AV.bool ?_;(simp only [q1q,tm] at *;(simp_all;done)))) Yb)):G:=h
theorem Z60 (h:G:=by exact qf (Out.mk (by (refine congrArg AV.bool ?_;(simp only [q1q,tm] at *;(simp_all;omega)))) Yb)):G:=h
theorem Z61 (k:G') (h:Hid G'→G:=by intro x';refine Z3f ?_;refine Zq ?_;exact x'.o):G:=h ⟨k⟩
theorem Z62 (k:G') (h:Hid G'→G:=by intro x';refine Zq ?_;refine Z3e ?_;exact x'.o):G:=h ⟨k⟩
theorem Z63 (k:G') (h:Hid G'→G:=by intro x';refine Z3f ?_;refine Z61 ?_;exact x'.o):G:=h ⟨k⟩
theorem Z64 (k:G') (h:Hid G'→G:=by intro x';refine Z5f ?_;refine Z3b ?_;exact x'.o):G:=h ⟨k⟩
theorem Z65 (k:G') (h:Hid G'→G:=by intro x';refine Z64 ?_;refine Z5g ?_;exact x'.o):G:=h ⟨k⟩
theorem Z66 (k:G') (h:Hid G'→G:=by intro x';refine Z1y ?_;refine Z3e ?_;exact x'.o):G:=h ⟨k⟩
theorem Z67 (k:G') (h:Hid G'→G:=by intro x';refine q2n rfl rfl (by decide) (qi (v:=.pl _) rfl (lk rfl rfl) rfl rfl rfl) ?_;exact x'.o):G:=h ⟨k⟩
theorem Z68 (k:G') (h:Hid G'→G:=by intro x';refine Z38 ?_;refine Z67 ?_;exact x'.o):G:=h ⟨k⟩
theorem Z69 (k:G') (h:Hid G'→G:=by intro x';refine q2n rfl rfl (by decide) (qfg rfl) ?_;exact x'.o):G:=h ⟨k⟩
theorem Z6a (h:G:=by exact qf (Out.mk (by (refine congrArg AV.bool ?_;(simp_all;omega))) Yb)):G:=h
theorem Z6b (k:G') (h:Hid G'→G:=by intro x';refine q5b rfl rfl (by decide) (V2.call (qnc _ _) rfl) ?_;exact x'.o):G:=h ⟨k⟩
theorem Z6c (k:G') (h:Hid G'→G:=by intro x';refine Z1y ?_;refine Zr ?_;exact x'.o):G:=h ⟨k⟩
theorem Z6d (k:G') (h:Hid G'→G:=by intro x';refine Z52 ?_;refine Z54 ?_;exact x'.o):G:=h ⟨k⟩
theorem Z6e (k:G') (h:Hid G'→G:=by intro x';refine Z12 ?_;refine Z6d ?_;exact x'.o):G:=h ⟨k⟩
theorem Z6f (k:G') (h:Hid G'→G:=by intro x';refine Zu ?_;refine Z56 ?_;exact x'.o):G:=h ⟨k⟩
theorem Z6g (k:G') (h:Hid G'→G:=by intro x';(try dsimp only [List.take_succ_cons]);exact x'.o):G:=h ⟨k⟩
theorem Z6h (k:G') (h:Hid G'→G:=by intro x';refine aqp 0 rfl Y17 (by decide) (fun G=>qc rfl (lk rfl rfl) rfl (by decide)) ?_;exact x'.o):G:=h ⟨k⟩
theorem Z6i (k:G') (h:Hid G'→G:=by intro x';refine Z6h ?_;refine aqp 1 rfl Y17 (by decide) (fun G=>qi (v:=.pl _) rfl (lk rfl rfl) rfl rfl rfl) ?_;exact x'.o):G:=h ⟨k⟩
theorem Z6j (k:G') (h:Hid G'→G:=by intro x';refine aq0 2 rfl Y17 (by decide) (fun _=>qd (v:=.int _ _) rfl) ?_;exact x'.o):G:=h ⟨k⟩
theorem Z6k (k:G') (h:Hid G'→G:=by intro x';refine aqp 3 rfl Y17 (by decide) (fun G=>qe rfl rfl hr rfl) ?_;exact x'.o):G:=h ⟨k⟩
theorem Z6l (k:G') (h:Hid G'→G:=by intro x';refine aqp 4 rfl Y17 (by decide) (fun G=>qz (v:=.int _ _) rfl hr rfl) ?_;exact x'.o):G:=h ⟨k⟩
theorem Z6m (k:G') (h:Hid G'→G:=by intro x';refine aq0 5 rfl Y17 (by decide) (fun _=>qsr rfl rfl) ?_;exact x'.o):G:=h ⟨k⟩
theorem Z6n (k:G') (h:Hid G'→G:=by intro x';refine aq0 6 rfl Y17 (by decide) (fun _=>qd (v:=.bool _) rfl) ?_;exact x'.o):G:=h ⟨k⟩
theorem Z6o (k:G') (h:Hid G'→G:=by intro x';refine qr (g:=43) 7 rfl Y17 (by decide) rfl rfl rfl ?_;exact x'.o):G:=h ⟨k⟩
theorem Z6p (k:G') (h:Hid G'→G:=by intro x';refine qr (g:=43) 8 rfl Y17 (by decide) rfl rfl rfl ?_;exact x'.o):G:=h ⟨k⟩
theorem Z6q (k:G') (h:Hid G'→G:=by intro x';refine qr (g:=43) 9 rfl Y17 (by decide) rfl rfl rfl ?_;exact x'.o):G:=h ⟨k⟩
theorem Z6r (k:G') (h:Hid G'→G:=by intro x';refine qr (g:=43) 10 rfl Y17 (by decide) rfl rfl rfl ?_;exact x'.o):G:=h ⟨k⟩
theorem Z6s (k:G') (h:Hid G'→G:=by intro x';refine aq0 15 rfl Y17 (by decide) (fun _=>q16 (v:=.bool _) rfl rfl) ?_;exact x'.o):G:=h ⟨k⟩
theorem Z6t (k:G') (h:Hid G'→G:=by intro x';refine aq0 16 rfl Y17 (by decide) (fun _=>qd (v:=.bool _) rfl) ?_;exact x'.o):G:=h ⟨k⟩
theorem Z6u (k:G') (h:Hid G'→G:=by intro x';refine qr (g:=53) 17 rfl Y17 (by decide) rfl rfl rfl ?_;exact x'.o):G:=h ⟨k⟩
theorem Z6v (k:G') (h:Hid G'→G:=by intro x';refine qr (g:=53) 18 rfl Y17 (by decide) rfl rfl rfl ?_;exact x'.o):G:=h ⟨k⟩
theorem Z6w (k:G') (h:Hid G'→G:=by intro x';refine qr (g:=53) 19 rfl Y17 (by decide) rfl rfl rfl ?_;exact x'.o):G:=h ⟨k⟩
theorem Z6x (k:G') (h:Hid G'→G:=by intro x';refine q2b (g:=56) 20 rfl Y17 (by decide) rfl rfl ?_;exact x'.o):G:=h ⟨k⟩
theorem Z6y (k:G') (h:Hid G'→G:=by intro x';refine q2b (g:=56) 21 rfl Y17 (by decide) rfl rfl ?_;exact x'.o):G:=h ⟨k⟩
theorem Z6z (k:G') (h:Hid G'→G:=by intro x';refine q2b (g:=56) 22 rfl Y17 (by decide) rfl rfl ?_;exact x'.o):G:=h ⟨k⟩
theorem Z70 (k:G') (h:Hid G'→G:=by intro x';refine q2b (g:=56) 23 rfl Y17 (by decide) rfl rfl ?_;exact x'.o):G:=h ⟨k⟩
theorem Z71 (k:G') (h:Hid G'→G:=by intro x';refine q2b (g:=56) 24 rfl Y17 (by decide) rfl rfl ?_;exact x'.o):G:=h ⟨k⟩
theorem Z72 (k:G') (h:Hid G'→G:=by intro x';refine q2b (g:=56) 25 rfl Y17 (by decide) rfl rfl ?_;exact x'.o):G:=h ⟨k⟩
theorem Z73 (k:G') (h:Hid G'→G:=by intro x';refine q2b (g:=56) 26 rfl Y17 (by decide) rfl rfl ?_;exact x'.o):G:=h ⟨k⟩
theorem Z74 (k:G') (h:Hid G'→G:=by intro x';refine q2b (g:=56) 27 rfl Y17 (by decide) rfl rfl ?_;exact x'.o):G:=h ⟨k⟩
theorem Z75 (k:G') (h:Hid G'→G:=by intro x';refine q2b (g:=56) 28 rfl Y17 (by decide) rfl rfl ?_;exact x'.o):G:=h ⟨k⟩
theorem Z76 (k:G') (h:Hid G'→G:=by intro x';refine q2b (g:=56) 29 rfl Y17 (by decide) rfl rfl ?_;exact x'.o):G:=h ⟨k⟩
theorem Z77 (k:G') (h:Hid G'→G:=by intro x';refine q2b (g:=56) 30 rfl Y17 (by decide) rfl rfl ?_;exact x'.o):G:=h ⟨k⟩
theorem Z78 (k:G') (h:Hid G'→G:=by intro x';refine q2b (g:=56) 31 rfl Y17 (by decide) rfl rfl ?_;exact x'.o):G:=h ⟨k⟩
theorem Z79 (k:G') (h:Hid G'→G:=by intro x';refine qr (g:=53) 32 rfl Y17 (by decide) rfl rfl rfl ?_;exact x'.o):G:=h ⟨k⟩
theorem Z7a (k:G') (h:Hid G'→G:=by intro x';refine aq0 33 rfl Y17 (by decide) (fun _=>q16 (v:=.bool _) rfl rfl) ?_;exact x'.o):G:=h ⟨k⟩
theorem Z7b (h:G:=by exact q1i Y17 Yv (Out.mk (by (refine congrArg AV.bool ?_;(rw [hnd];clear hno hnd hjr h1 h2 h3 h4 h5 c1 hr hr1 hm hx hl ht hlt hk hc;clear hB;refine Bool.eq_iff_iff.mpr ?_;simp only [Bool.and_eq_true,Bool.or_eq_true,Bool.not_eq_true',decide_eq_true_eq,decide_eq_false_iff_not,beq_iff_eq,bne_iff_ne,Bool.false_eq_true,Bool.and_eq_false_iff,Bool.or_eq_false_iff,false_iff,true_iff,iff_true,iff_false,Bool.not_true,Bool.not_false,not_true,not_false_iff] at *;omega))) Yb)):G:=h
theorem Z7c (k:G') (h:Hid G'→G:=by intro x';refine aq0 15 rfl Y17 (by decide) (fun _=>q17 (v:=.bool _) rfl rfl) ?_;exact x'.o):G:=h ⟨k⟩
theorem Z7d (k:G') (h:Hid G'→G:=by intro x';refine aq0 33 rfl Y17 (by decide) (fun _=>q17 (v:=.bool _) rfl rfl) ?_;exact x'.o):G:=h ⟨k⟩
theorem Z7e (h:G:=by exact qf (Out.mk (by (refine congrArg AV.bool ?_;grind)) Yb)):G:=h
theorem Z7f (k:G') (h:Hid G'→G:=by intro x';refine Z13 ?_;refine Z1q ?_;exact x'.o):G:=h ⟨k⟩
theorem Z7g (k:G') (h:Hid G'→G:=by intro x';refine Z7f ?_;refine Z4f ?_;exact x'.o):G:=h ⟨k⟩
theorem Z7h (k:G') (h:Hid G'→G:=by intro x';refine Z37 ?_;refine Z37 ?_;exact x'.o):G:=h ⟨k⟩
theorem Z7i (k:G') (h:Hid G'→G:=by intro x';refine Z47 ?_;refine Z28 ?_;exact x'.o):G:=h ⟨k⟩
theorem Z7j (k:G') (h:Hid G'→G:=by intro x';refine Z20 ?_;refine Z2d ?_;exact x'.o):G:=h ⟨k⟩
theorem Z7k (k:G') (h:Hid G'→G:=by intro x';refine Z2f ?_;refine Z2e ?_;exact x'.o):G:=h ⟨k⟩
theorem Z7l (k:G') (h:Hid G'→G:=by intro x';refine Z2 ?_;refine Z3 ?_;exact x'.o):G:=h ⟨k⟩
theorem Z7m (k:G') (h:Hid G'→G:=by intro x';refine Z7l ?_;refine Ze ?_;exact x'.o):G:=h ⟨k⟩
theorem Z7n (k:G') (h:Hid G'→G:=by intro x';refine Z8 ?_;refine Z44 ?_;exact x'.o):G:=h ⟨k⟩
theorem Z7o (k:G') (h:Hid G'→G:=by intro x';refine Zj ?_;refine Z46 ?_;exact x'.o):G:=h ⟨k⟩
theorem Z7p (k:G') (h:Hid G'→G:=by intro x';refine Z7o ?_;refine Zn ?_;exact x'.o):G:=h ⟨k⟩
theorem Z7q (h:G:=by refine Z7p ?_;exact Z7e):G:=h
theorem Z7r (h:G:=by exact q4d hB (q3t rfl (q3t rfl .nil)) rfl rfl):G:=h
theorem Z7s (k:G') (h:Hid G'→G:=by intro x';refine ao1 (by decide) (V1.up (qev (cs:=[.int _ _,.int _ _,.int _ _,.int _ _,.int _ _,.int _ _,.int _ _]) rfl)) ?_;exact x'.o):G:=h ⟨k⟩
theorem Z7t (k:G') (h:Hid G'→G:=by intro x';refine ao2 Y11 (q4n (sz:=13) rfl (by decide) rfl) ?_;exact x'.o):G:=h ⟨k⟩
theorem Z7u (k:G') (h:Hid G'→G:=by intro x';(try dsimp only [List.length_nil,put,AV.cells,List.nil_append,List.length_cons,Nat.reduceAdd,List.cons_append]);exact x'.o):G:=h ⟨k⟩
theorem Z7v (k:G') (h:Hid G'→G:=by intro x';refine q13 (q3a _ _ Y1d) rfl (by decide) ?_;exact x'.o):G:=h ⟨k⟩
theorem Z7w (k:G') (h:Hid G'→G:=by intro x';refine ao2 Y1b (q25 (sz:=1) (v:=.pl _) (r':=[_,_,_,_,_,_,_,_,_,_,_,_,_]) rfl rfl rfl rfl rfl rfl rfl rfl (Nat.le_of_ble_eq_true rfl) rfl) ?_;exact x'.o):G:=h ⟨k⟩
theorem Z7x (k:G') (h:Hid G'→G:=by intro x';(try dsimp only [put,Nat.reduceAdd,List.set_cons_zero]);exact x'.o):G:=h ⟨k⟩
theorem Z7y (k:G') (h:Hid G'→G:=by intro x';refine qf ?_;refine Z7x ?_;exact x'.o):G:=h ⟨k⟩
theorem Z7z (k:G') (h:Hid G'→G:=by intro x';refine Z3j ?_;refine Z3b ?_;exact x'.o):G:=h ⟨k⟩
theorem Z80 (k:G') (h:Hid G'→G:=by intro x';refine Z7z ?_;refine Z7z ?_;exact x'.o):G:=h ⟨k⟩
theorem Z81 (h:G:=by exact qf (Out.mk (by (refine congrArg AV.bool ?_;(simp only [qdv,tm] at *;(simp_all;done)))) Yb)):G:=h
theorem Z82 (k:G') (h:Hid G'→G:=by intro x';refine Zl ?_;refine Z3e ?_;exact x'.o):G:=h ⟨k⟩
theorem Z83 (k:G') (h:Hid G'→G:=by intro x';refine Zj ?_;refine Z3o ?_;exact x'.o):G:=h ⟨k⟩
theorem Z84 (h:G:=by exact qf (Out.mk (by (refine congrArg AV.bool ?_;(simp only [qdv,tm] at *;(simp_all;omega)))) Yb)):G:=h
theorem Z85 (k:G') (h:Hid G'→G:=by intro x';refine ao2 Y1b (q2p (sz:=13) rfl rfl rfl rfl rfl rfl rfl rfl (Nat.le_of_ble_eq_true rfl)) ?_;exact x'.o):G:=h ⟨k⟩
theorem Z86 (k:G') (h:Hid G'→G:=by intro x';refine Z4c ?_;refine Z85 ?_;exact x'.o):G:=h ⟨k⟩
theorem Z87 (k:G') (h:Hid G'→G:=by intro x';refine Z86 ?_;refine Z4 ?_;exact x'.o):G:=h ⟨k⟩
theorem Z88 (k:G') (h:Hid G'→G:=by intro x';(try dsimp only [put,List.set_cons_zero,List.set_cons_succ]);exact x'.o):G:=h ⟨k⟩
theorem Z89 (k:G') (h:Hid G'→G:=by intro x';refine Z88 ?_;refine Z1 ?_;exact x'.o):G:=h ⟨k⟩
theorem Z8a (h:G:=by exact q4d hB (q7h rfl (lk rfl rfl) rfl rfl rfl (q3t rfl .nil)) rfl rfl):G:=h
theorem Z8b (k:G') (h:Hid G'→G:=by intro x';refine Z4i ?_;refine Z8 ?_;exact x'.o):G:=h ⟨k⟩
theorem Z8c (k:G') (h:Hid G'→G:=by intro x';refine ao2 Y11 (V2.call (c4 _) rfl) ?_;exact x'.o):G:=h ⟨k⟩
theorem Z8d (k:G') (h:Hid G'→G:=by intro x';refine ao1 (by decide) (qd (v:=.tup _) rfl) ?_;exact x'.o):G:=h ⟨k⟩
theorem Z8e (k:G') (h:Hid G'→G:=by intro x';refine Z8d ?_;refine Z15 ?_;exact x'.o):G:=h ⟨k⟩
theorem Z8f (k:G') (h:Hid G'→G:=by intro x';refine ao1 (by decide) (q1m (v:=.bool _) rfl rfl) ?_;exact x'.o):G:=h ⟨k⟩
theorem Z8g (k:G') (h:Hid G'→G:=by intro x';refine Z8e ?_;refine Z8f ?_;exact x'.o):G:=h ⟨k⟩
theorem Z8h (k:G') (h:Hid G'→G:=by intro x';refine Z3 ?_;refine Z1q ?_;exact x'.o):G:=h ⟨k⟩
theorem Z8i (k:G') (h:Hid G'→G:=by intro x';refine Z8g ?_;refine Z8h ?_;exact x'.o):G:=h ⟨k⟩
theorem Z8j (k:G') (h:Hid G'→G:=by intro x';(try dsimp only [Nat.reduceAdd,put]);exact x'.o):G:=h ⟨k⟩
theorem Z8k (k:G') (h:Hid G'→G:=by intro x';refine Z2w ?_;refine Z4d ?_;exact x'.o):G:=h ⟨k⟩
theorem Z8l (k:G') (h:Hid G'→G:=by intro x';refine Z36 ?_;refine ao2 Y1b (q25 (sz:=1) (v:=.int _ _) (r':=[_,_,_,_,_,_,_,_,_,_,_,_,_]) rfl rfl rfl rfl rfl rfl rfl rfl (Nat.le_of_ble_eq_true rfl) rfl) ?_;exact x'.o):G:=h ⟨k⟩
theorem Z8m (k:G') (h:Hid G'→G:=by intro x';refine Z8l ?_;refine Z7y ?_;exact x'.o):G:=h ⟨k⟩
theorem Z8n (k:G') (h:Hid G'→G:=by intro x';refine q1k ?_;refine Z8 ?_;exact x'.o):G:=h ⟨k⟩
theorem Z8o (k:G') (h:Hid G'→G:=by intro x';refine q13 (qlx _ _) rfl (by decide) ?_;exact x'.o):G:=h ⟨k⟩
theorem Z8p (h:G:=by refine Z89 ?_;exact Z8a):G:=h
theorem Z8q (h:G:=by refine Z87 ?_;exact Z8p):G:=h
theorem Z8r (k:G') (h:Hid G'→G:=by intro x';refine Z7u ?_;refine Z1 ?_;exact x'.o):G:=h ⟨k⟩
theorem Z8s (k:G') (h:Hid G'→G:=by intro x';refine Z4 ?_;refine Z8r ?_;exact x'.o):G:=h ⟨k⟩
theorem Z8t (k:G') (h:Hid G'→G:=by intro x';refine Zj ?_;refine Z41 ?_;exact x'.o):G:=h ⟨k⟩
theorem Z8u (k:G') (h:Hid G'→G:=by intro x';refine Z4o ?_;refine Z54 ?_;exact x'.o):G:=h ⟨k⟩
theorem Z8v (k:G') (h:Hid G'→G:=by intro x';refine Z1r ?_;refine Z8u ?_;exact x'.o):G:=h ⟨k⟩
theorem Z8w (k:G') (h:Hid G'→G:=by intro x';refine Z4n ?_;refine Z54 ?_;exact x'.o):G:=h ⟨k⟩
theorem Z8x (k:G') (h:Hid G'→G:=by intro x';refine Z2u ?_;refine Z9 ?_;exact x'.o):G:=h ⟨k⟩
theorem Z8y (k:G') (h:Hid G'→G:=by intro x';refine Z12 ?_;refine Z8w ?_;exact x'.o):G:=h ⟨k⟩
theorem Z8z (k:G') (h:Hid G'→G:=by intro x';refine Z8y ?_;refine Z1f ?_;exact x'.o):G:=h ⟨k⟩
theorem Z90 (k:G') (h:Hid G'→G:=by intro x';refine aq0 0 rfl Y17 (by decide) (fun _=>qd (v:=.pl _) rfl) ?_;exact x'.o):G:=h ⟨k⟩
theorem Z91 (k:G') (h:Hid G'→G:=by intro x';refine Z90 ?_;refine Z1j ?_;exact x'.o):G:=h ⟨k⟩
theorem Z92 (k:G') (h:Hid G'→G:=by intro x';refine Z91 ?_;refine aqp 2 rfl Y17 (by decide) (fun G=>qe rfl rfl hr rfl) ?_;exact x'.o):G:=h ⟨k⟩
theorem Z93 (k:G') (h:Hid G'→G:=by intro x';refine aqp 3 rfl Y17 (by decide) (fun G=>qz (v:=.int _ _) rfl hr rfl) ?_;exact x'.o):G:=h ⟨k⟩
theorem Z94 (k:G') (h:Hid G'→G:=by intro x';refine aq0 4 rfl Y17 (by decide) (fun _=>qd (v:=.pl _) rfl) ?_;exact x'.o):G:=h ⟨k⟩
theorem Z95 (k:G') (h:Hid G'→G:=by intro x';refine Z94 ?_;refine Z1n ?_;exact x'.o):G:=h ⟨k⟩
theorem Z96 (k:G') (h:Hid G'→G:=by intro x';refine Z39 ?_;refine Z48 ?_;exact x'.o):G:=h ⟨k⟩
theorem Z97 (k:G') (h:Hid G'→G:=by intro x';refine Z68 ?_;refine Z68 ?_;exact x'.o):G:=h ⟨k⟩
theorem Z98 (h:G:=by exact qf (Out.mk (by (refine congrArg AV.bool ?_;(simp_all))) Yb)):G:=h
theorem Z99 (k:G') (h:Hid G'→G:=by intro x';refine Z61 ?_;refine Z21 ?_;exact x'.o):G:=h ⟨k⟩
theorem Z9a (h:G:=by refine Z99 ?_;exact Z98):G:=h
theorem Z9b (k:G') (h:Hid G'→G:=by intro x';refine Z61 ?_;refine Z61 ?_;exact x'.o):G:=h ⟨k⟩
theorem Z9c (k:G') (h:Hid G'→G:=by intro x';refine Zq ?_;refine Z9b ?_;exact x'.o):G:=h ⟨k⟩
theorem Z9d (k:G') (h:Hid G'→G:=by intro x';refine ao2 Y11 (q4n (sz:=4) rfl (by decide) rfl) ?_;exact x'.o):G:=h ⟨k⟩
theorem Z9e (k:G') (h:Hid G'→G:=by intro x';(try dsimp only [List.length_nil,put,List.nil_append]);exact x'.o):G:=h ⟨k⟩
theorem Z9f (k:G') (h:Hid G'→G:=by intro x';refine Z8 ?_;refine qf ?_;exact x'.o):G:=h ⟨k⟩
theorem Z9g (k:G') (h:Hid G'→G:=by intro x';refine Z9f ?_;refine Z1d ?_;exact x'.o):G:=h ⟨k⟩
theorem Z9h (k:G') (h:Hid G'→G:=by intro x';refine Z8u ?_;refine Z9g ?_;exact x'.o):G:=h ⟨k⟩
theorem Z9i (k:G') (h:Hid G'→G:=by intro x';refine Z5 ?_;refine Z9h ?_;exact x'.o):G:=h ⟨k⟩
theorem Z9j (k:G') (h:Hid G'→G:=by intro x';refine Z3j ?_;refine Zm ?_;exact x'.o):G:=h ⟨k⟩
theorem Z9k (k:G') (h:Hid G'→G:=by intro x';refine Zj ?_;refine Z27 ?_;exact x'.o):G:=h ⟨k⟩
theorem Z9l (k:G') (h:Hid G'→G:=by intro x';refine ao2 Y1b (q2p (sz:=4) rfl rfl rfl rfl rfl rfl (q60 _) rfl (Nat.le_of_ble_eq_true rfl)) ?_;exact x'.o):G:=h ⟨k⟩
theorem Z9m (k:G') (h:Hid G'→G:=by intro x';refine Z9l ?_;refine Z1q ?_;exact x'.o):G:=h ⟨k⟩
theorem Z9n (k:G') (h:Hid G'→G:=by intro x';(try dsimp only [put,List.set_cons_zero]);exact x'.o):G:=h ⟨k⟩
theorem Z9o (h:G:=by exact q4d hB (q7h rfl (lk rfl rfl) rfl rfl (q60 _) (q3t rfl .nil)) rfl (by simp [AV.bel,AV.bels,qg7])):G:=h
theorem Z9p (k:G') (h:Hid G'→G:=by intro x';refine aq0 0 rfl Y17 (by decide) (fun _=>qd (v:=.int _ _) rfl) ?_;exact x'.o):G:=h ⟨k⟩
theorem Z9q (k:G') (h:Hid G'→G:=by intro x';refine q1i Y17 Yl ?_;exact x'.o):G:=h ⟨k⟩
theorem Z9r (k:G') (h:Hid G'→G:=by intro x';refine q13 (qxp _ Y1d _) rfl (by decide) ?_;exact x'.o):G:=h ⟨k⟩
theorem Z9s (k:G') (h:Hid G'→G:=by intro x';refine ao1 (by decide) (q1m (v:=.agg _) rfl rfl) ?_;exact x'.o):G:=h ⟨k⟩
theorem Z9t (k:G') (h:Hid G'→G:=by intro x';refine Z8d ?_;refine Z9s ?_;exact x'.o):G:=h ⟨k⟩
theorem Z9u (k:G') (h:Hid G'→G:=by intro x';refine Z9t ?_;refine Z8f ?_;exact x'.o):G:=h ⟨k⟩
theorem Z9v (k:G') (h:Hid G'→G:=by intro x';(try dsimp only [List.length_nil,put,List.nil_append,List.set_cons_zero]);exact x'.o):G:=h ⟨k⟩
theorem Z9w (k:G') (h:Hid G'→G:=by intro x';(try dsimp only [List.length_cons,List.length_nil,Nat.reduceAdd,put,List.cons_append,List.nil_append,List.set_cons_zero,List.set_cons_succ]);exact x'.o):G:=h ⟨k⟩
theorem Z9x (k:G') (h:Hid G'→G:=by intro x';refine qtt mixed none 2 3 ?_;exact x'.o):G:=h ⟨k⟩
theorem Z9y (k:G') (h:Hid G'→G:=by intro x';refine aq0 2 rfl Y17 (by decide) (fun _=>qd (v:=.bool _) rfl) ?_;exact x'.o):G:=h ⟨k⟩
theorem Z9z (k:G') (h:Hid G'→G:=by intro x';refine aq0 3 rfl Y17 (by decide) (fun _=>qd (v:=.bool _) rfl) ?_;exact x'.o):G:=h ⟨k⟩
theorem Za0 (k:G') (h:Hid G'→G:=by intro x';refine aqs 6 rfl Y17 Ym Y1b (q2p (sz:=4) rfl rfl rfl rfl rfl rfl (q60 _) rfl (Nat.le_of_ble_eq_true rfl)) ?_;exact x'.o):G:=h ⟨k⟩
theorem Za1 (k:G') (h:Hid G'→G:=by intro x';refine aqs 7 rfl Y17 Ym Y1b (q2p (sz:=4) rfl rfl rfl rfl rfl rfl (q60 _) rfl (Nat.le_of_ble_eq_true rfl)) ?_;exact x'.o):G:=h ⟨k⟩
theorem Za2 (k:G') (h:Hid G'→G:=by intro x';refine aq0 8 rfl Y17 (by decide) (fun _=>q14 (v:=.bool _) rfl) ?_;exact x'.o):G:=h ⟨k⟩
theorem Za3 (k:G') (h:Hid G'→G:=by intro x';refine q1i Y17 Ym ?_;exact x'.o):G:=h ⟨k⟩
theorem Za4 (h:G:=by exact q4d hB (q7h rfl (lk rfl rfl) rfl rfl (q60 _) (q7h rfl (lk rfl rfl) rfl rfl (q60 _) (q3t rfl .nil))) rfl (hbel _)):G:=h
theorem Za5 (k:G') (h:Hid G'→G:=by intro x';refine Z4o ?_;refine Z4n ?_;exact x'.o):G:=h ⟨k⟩
theorem Za6 (k:G') (h:Hid G'→G:=by intro x';refine q13 (qtc _ _ Y1d Y1d _) rfl (by decide) ?_;exact x'.o):G:=h ⟨k⟩
theorem Za7 (k:G') (h:Hid G'→G:=by intro x';(try dsimp only [List.length_nil,put,List.nil_append,List.length_cons,Nat.reduceAdd,List.cons_append,List.set_cons_zero,List.set_cons_succ]);exact x'.o):G:=h ⟨k⟩
theorem Za8 (k:G') (h:Hid G'→G:=by intro x';refine q2y mixed none 2 ?_;exact x'.o):G:=h ⟨k⟩
theorem Za9 (k:G') (h:Hid G'→G:=by intro x';(try dsimp only [List.take_succ_cons,List.take_zero]);exact x'.o):G:=h ⟨k⟩
theorem Zaa (k:G') (h:Hid G'→G:=by intro x';refine Za8 ?_;refine Za9 ?_;exact x'.o):G:=h ⟨k⟩
theorem Zab (k:G') (h:Hid G'→G:=by intro x';refine aq0 0 rfl Y17 (by decide) (fun _=>qd (v:=.bool _) rfl) ?_;exact x'.o):G:=h ⟨k⟩
theorem Zac (k:G') (h:Hid G'→G:=by intro x';refine aq0 1 rfl Y17 (by decide) (fun _=>qd (v:=.bool _) rfl) ?_;exact x'.o):G:=h ⟨k⟩
theorem Zad (k:G') (h:Hid G'→G:=by intro x';refine q1h (g:=20) 2 rfl Y17 (by decide) rfl rfl (fun _=>qd (v:=.int _ _) rfl) ?_;exact x'.o):G:=h ⟨k⟩
theorem Zae (k:G') (h:Hid G'→G:=by intro x';refine q1j (g:=20) 3 rfl Y17 (by decide) rfl rfl (fun G=>q47 rfl (lk rfl rfl) rfl rfl hk4) ?_;exact x'.o):G:=h ⟨k⟩
theorem Zaf (k:G') (h:Hid G'→G:=by intro x';refine q1j (g:=20) 4 rfl Y17 (by decide) rfl rfl (fun G=>qi (v:=.int .u64 _) rfl (lk rfl rfl) rfl rfl hx) ?_;exact x'.o):G:=h ⟨k⟩
theorem Zag (k:G') (h:Hid G'→G:=by intro x';refine q1h (g:=20) 5 rfl Y17 (by decide) rfl rfl (fun _=>qd (v:=.int _ _) rfl) ?_;exact x'.o):G:=h ⟨k⟩
theorem Zah (k:G') (h:Hid G'→G:=by intro x';refine q1j (g:=20) 6 rfl Y17 (by decide) rfl rfl (fun G=>q47 rfl (lk rfl rfl) rfl rfl hk4) ?_;exact x'.o):G:=h ⟨k⟩
theorem Zai (k:G') (h:Hid G'→G:=by intro x';refine q1j (g:=20) 7 rfl Y17 (by decide) rfl rfl (fun G=>qi (v:=.int .u64 _) rfl (lk rfl rfl) rfl rfl hy) ?_;exact x'.o):G:=h ⟨k⟩
theorem Zaj (k:G') (h:Hid G'→G:=by intro x';refine q1h (g:=20) 9 rfl Y17 (by decide) rfl rfl (fun _=>qya rfl rfl) ?_;exact x'.o):G:=h ⟨k⟩
theorem Zak (k:G') (h:Hid G'→G:=by intro x';refine aq0 10 rfl Y17 (by decide) (fun _=>q16 (v:=.bool _) rfl rfl) ?_;exact x'.o):G:=h ⟨k⟩
theorem Zal (k:G') (h:Hid G'→G:=by intro x';refine aq0 11 rfl Y17 (by decide) (fun _=>q14 (v:=.bool _) rfl) ?_;exact x'.o):G:=h ⟨k⟩
theorem Zam (k:G') (h:Hid G'→G:=by intro x';refine qr (g:=20) 2 rfl Y17 (by decide) rfl rfl rfl ?_;exact x'.o):G:=h ⟨k⟩
theorem Zan (k:G') (h:Hid G'→G:=by intro x';refine qr (g:=20) 3 rfl Y17 (by decide) rfl rfl rfl ?_;exact x'.o):G:=h ⟨k⟩
theorem Zao (k:G') (h:Hid G'→G:=by intro x';refine qr (g:=20) 4 rfl Y17 (by decide) rfl rfl rfl ?_;exact x'.o):G:=h ⟨k⟩
theorem Zap (k:G') (h:Hid G'→G:=by intro x';refine qr (g:=20) 5 rfl Y17 (by decide) rfl rfl rfl ?_;exact x'.o):G:=h ⟨k⟩
theorem Zaq (k:G') (h:Hid G'→G:=by intro x';refine qr (g:=20) 6 rfl Y17 (by decide) rfl rfl rfl ?_;exact x'.o):G:=h ⟨k⟩
theorem Zar (k:G') (h:Hid G'→G:=by intro x';refine qr (g:=20) 7 rfl Y17 (by decide) rfl rfl rfl ?_;refine qr (g:=20) 8 rfl Y17 (by decide) rfl rfl rfl ?_;exact x'.o):G:=h ⟨k⟩
theorem Zas (k:G') (h:Hid G'→G:=by intro x';refine Zar ?_;refine qr (g:=20) 9 rfl Y17 (by decide) rfl rfl rfl ?_;exact x'.o):G:=h ⟨k⟩
theorem Zat (k:G') (h:Hid G'→G:=by intro x';refine aq0 10 rfl Y17 (by decide) (fun _=>q17 (v:=.bool _) rfl rfl) ?_;exact x'.o):G:=h ⟨k⟩
theorem Zau (k:G') (h:Hid G'→G:=by intro x';refine Z4k ?_;refine qf ?_;exact x'.o):G:=h ⟨k⟩
theorem Zav (k:G') (h:Hid G'→G:=by intro x';refine Zau ?_;refine Z33 ?_;exact x'.o):G:=h ⟨k⟩
theorem Zaw (k:G') (h:Hid G'→G:=by intro x';refine q22 (k:=1) 3 1 rfl (by decide) rfl ?_;exact x'.o):G:=h ⟨k⟩
theorem Zax (k:G') (h:Hid G'→G:=by intro x';refine ao1 (by decide) (q2h rfl (lk rfl rfl) rfl rfl (q60 _)) ?_;exact x'.o):G:=h ⟨k⟩
theorem Zay (k:G') (h:Hid G'→G:=by intro x';(try dsimp only [List.cons_append,List.nil_append]);exact x'.o):G:=h ⟨k⟩
theorem Zaz (k:G') (h:Hid G'→G:=by intro x';refine Z12 ?_;refine Z8x ?_;exact x'.o):G:=h ⟨k⟩
theorem Zb0 (k:G') (h:Hid G'→G:=by intro x';refine ao1 (by decide) (qd (v:=.sl _ _ _ _ _) rfl) ?_;exact x'.o):G:=h ⟨k⟩
theorem Zb1 (k:G') (h:Hid G'→G:=by intro x';refine Z2 ?_;refine Zb0 ?_;exact x'.o):G:=h ⟨k⟩
theorem Zb2 (k:G') (h:Hid G'→G:=by intro x';refine Zb1 ?_;refine Z8 ?_;exact x'.o):G:=h ⟨k⟩
theorem Zb3 (k:G') (h:Hid G'→G:=by intro x';refine ao2 Y11 (q30 (sz:=1) (v:=.int _ _) rfl (by decide) (by decide) rfl rfl rfl rfl rfl) ?_;exact x'.o):G:=h ⟨k⟩
theorem Zb4 (k:G') (h:Hid G'→G:=by intro x';refine ao1 (by decide) (q14 (v:=.sl _ _ _ _ _) rfl) ?_;exact x'.o):G:=h ⟨k⟩
theorem Zb5 (k:G') (h:Hid G'→G:=by intro x';refine Zb4 ?_;refine qf ?_;exact x'.o):G:=h ⟨k⟩
theorem Zb6 (k:G') (h:Hid G'→G:=by intro x';refine ao2 Y11 (q5e rfl rfl rfl rfl rfl (qw5 rfl rfl rfl rfl rfl rfl) rfl (by (simp;done)) (by simp;done) Y1a Y1a) ?_;refine Zb5 ?_;exact x'.o):G:=h ⟨k⟩
theorem Zb7 (k:G') (h:Hid G'→G:=by intro x';refine Zb6 ?_;(try dsimp only [AV.cells,List.length_cons,List.length_nil,Nat.reduceAdd,put,List.cons_append,List.nil_append,List.set_cons_succ,List.set_cons_zero]);exact x'.o):G:=h ⟨k⟩
theorem Zb8 (k:G') (h:Hid G'→G:=by intro x';refine Zb3 ?_;refine Zb7 ?_;exact x'.o):G:=h ⟨k⟩
theorem Zb9 (k:G') (h:Hid G'→G:=by intro x';refine Zb5 ?_;refine Z1d ?_;exact x'.o):G:=h ⟨k⟩
theorem Zba (k:G') (h:Hid G'→G:=by intro x';refine Zb1 ?_;refine Zb9 ?_;exact x'.o):G:=h ⟨k⟩
theorem Zbb (h:G:=by refine q33 ?_;exact Zb):G:=h
theorem Zbc (k:G') (h:Hid G'→G:=by intro x';refine Z4m ?_;refine Za5 ?_;exact x'.o):G:=h ⟨k⟩
theorem Zbd (k:G') (h:Hid G'→G:=by intro x';refine Z4s ?_;refine q1c 6 rfl ?_;exact x'.o):G:=h ⟨k⟩
theorem Zbe (k:G') (h:Hid G'→G:=by intro x';refine Z4o ?_;refine Z8 ?_;exact x'.o):G:=h ⟨k⟩
theorem Zbf (k:G') (h:Hid G'→G:=by intro x';refine aq0 4 rfl Y17 (by decide) (fun _=>qsr rfl rfl) ?_;exact x'.o):G:=h ⟨k⟩
theorem Zbg (k:G') (h:Hid G'→G:=by intro x';refine aq0 5 rfl Y17 (by decide) (fun _=>qd (v:=.bool _) rfl) ?_;exact x'.o):G:=h ⟨k⟩
theorem Zbh (k:G') (h:Hid G'→G:=by intro x';refine aq0 11 rfl Y17 (by decide) (fun _=>q16 (v:=.bool _) rfl rfl) ?_;exact x'.o):G:=h ⟨k⟩
theorem Zbi (k:G') (h:Hid G'→G:=by intro x';refine aq0 12 rfl Y17 (by decide) (fun _=>qd (v:=.bool _) rfl) ?_;exact x'.o):G:=h ⟨k⟩
theorem Zbj (k:G') (h:Hid G'→G:=by intro x';refine qr (g:=22) 13 rfl Y17 (by decide) rfl rfl rfl ?_;exact x'.o):G:=h ⟨k⟩
theorem Zbk (k:G') (h:Hid G'→G:=by intro x';refine qr (g:=22) 14 rfl Y17 (by decide) rfl rfl rfl ?_;exact x'.o):G:=h ⟨k⟩
theorem Zbl (k:G') (h:Hid G'→G:=by intro x';refine qr (g:=22) 15 rfl Y17 (by decide) rfl rfl rfl ?_;exact x'.o):G:=h ⟨k⟩
theorem Zbm (k:G') (h:Hid G'→G:=by intro x';refine q2b (g:=25) 16 rfl Y17 (by decide) rfl rfl ?_;exact x'.o):G:=h ⟨k⟩
theorem Zbn (k:G') (h:Hid G'→G:=by intro x';refine q2b (g:=25) 17 rfl Y17 (by decide) rfl rfl ?_;exact x'.o):G:=h ⟨k⟩
theorem Zbo (k:G') (h:Hid G'→G:=by intro x';refine q2b (g:=25) 18 rfl Y17 (by decide) rfl rfl ?_;exact x'.o):G:=h ⟨k⟩
theorem Zbp (k:G') (h:Hid G'→G:=by intro x';refine q2b (g:=25) 19 rfl Y17 (by decide) rfl rfl ?_;exact x'.o):G:=h ⟨k⟩
theorem Zbq (k:G') (h:Hid G'→G:=by intro x';refine q2b (g:=25) 20 rfl Y17 (by decide) rfl rfl ?_;exact x'.o):G:=h ⟨k⟩
theorem Zbr (k:G') (h:Hid G'→G:=by intro x';refine q2b (g:=25) 21 rfl Y17 (by decide) rfl rfl ?_;exact x'.o):G:=h ⟨k⟩
theorem Zbs (k:G') (h:Hid G'→G:=by intro x';refine q2b (g:=25) 22 rfl Y17 (by decide) rfl rfl ?_;exact x'.o):G:=h ⟨k⟩
theorem Zbt (k:G') (h:Hid G'→G:=by intro x';refine q2b (g:=25) 23 rfl Y17 (by decide) rfl rfl ?_;exact x'.o):G:=h ⟨k⟩
theorem Zbu (k:G') (h:Hid G'→G:=by intro x';refine q2b (g:=25) 24 rfl Y17 (by decide) rfl rfl ?_;exact x'.o):G:=h ⟨k⟩
theorem Zbv (k:G') (h:Hid G'→G:=by intro x';refine q2b (g:=25) 25 rfl Y17 (by decide) rfl rfl ?_;exact x'.o):G:=h ⟨k⟩
theorem Zbw (k:G') (h:Hid G'→G:=by intro x';refine qr (g:=22) 26 rfl Y17 (by decide) rfl rfl rfl ?_;exact x'.o):G:=h ⟨k⟩
theorem Zbx (k:G') (h:Hid G'→G:=by intro x';refine aq0 27 rfl Y17 (by decide) (fun _=>q16 (v:=.bool _) rfl rfl) ?_;exact x'.o):G:=h ⟨k⟩
theorem Zby (h:G:=by exact q1i Y17 Yv (Out.mk (by (refine congrArg AV.bool ?_;(rw [hnd];clear hno hnd hr hr1 hm hx hl hlt hk hc hB;refine Bool.eq_iff_iff.mpr ?_;simp only [Bool.and_eq_true,Bool.or_eq_true,Bool.not_eq_true',decide_eq_true_eq,decide_eq_false_iff_not,beq_iff_eq,bne_iff_ne,Bool.false_eq_true,Bool.and_eq_false_iff,Bool.or_eq_false_iff,false_iff,true_iff,iff_true,iff_false,Bool.not_true,Bool.not_false,not_true,not_false_iff] at *;omega))) Yb)):G:=h
theorem Zbz (k:G') (h:Hid G'→G:=by intro x';refine aq0 11 rfl Y17 (by decide) (fun _=>q17 (v:=.bool _) rfl rfl) ?_;exact x'.o):G:=h ⟨k⟩
theorem Zc0 (k:G') (h:Hid G'→G:=by intro x';refine aq0 27 rfl Y17 (by decide) (fun _=>q17 (v:=.bool _) rfl rfl) ?_;exact x'.o):G:=h ⟨k⟩
theorem Zc1 (k:G') (h:Hid G'→G:=by intro x';refine qr (g:=25) 16 rfl Y17 (by decide) rfl rfl rfl ?_;exact x'.o):G:=h ⟨k⟩
theorem Zc2 (k:G') (h:Hid G'→G:=by intro x';refine qr (g:=25) 18 rfl Y17 (by decide) rfl rfl rfl ?_;exact x'.o):G:=h ⟨k⟩
theorem Zc3 (k:G') (h:Hid G'→G:=by intro x';refine q2n rfl rfl (by decide) (qd (v:=.pl _) rfl) ?_;exact x'.o):G:=h ⟨k⟩
theorem Zc4 (k:G') (h:Hid G'→G:=by intro x';refine q22 (k:=0) 7 1 rfl (by decide) rfl ?_;exact x'.o):G:=h ⟨k⟩
theorem Zc5 (k:G') (h:Hid G'→G:=by intro x';(try dsimp only [List.nil_append]);exact x'.o):G:=h ⟨k⟩
theorem Zc6 (k:G') (h:Hid G'→G:=by intro x';refine q13 (qmm _ _ Y1d _) rfl (by decide) ?_;exact x'.o):G:=h ⟨k⟩
theorem Zc7 (k:G') (h:Hid G'→G:=by intro x';refine Z4n ?_;refine Z8 ?_;exact x'.o):G:=h ⟨k⟩
theorem Zc8 (k:G') (h:Hid G'→G:=by intro x';refine Z3k ?_;refine Z2e ?_;exact x'.o):G:=h ⟨k⟩
theorem Zc9 (k:G') (h:Hid G'→G:=by intro x';refine Z3j ?_;refine Z2f ?_;exact x'.o):G:=h ⟨k⟩
theorem Zca (k:G') (h:Hid G'→G:=by intro x';refine Z3i ?_;refine Zm ?_;exact x'.o):G:=h ⟨k⟩
theorem Zcb (k:G') (h:Hid G'→G:=by intro x';refine Zc9 ?_;refine Zca ?_;exact x'.o):G:=h ⟨k⟩
theorem Zcc (h:G:=by exact qf (Out.mk (by (refine congrArg AV.bool ?_;(clear hbel hst hle hs hn hn2 ha hb hB hc;unfold opw;generalize inl a n=p at *;generalize inl b n=q at *;(repeat' split)<;>(cases p<;>cases q)<;>first | rfl | grind))) Yb)):G:=h
theorem Zcd (k:G') (h:Hid G'→G:=by intro x';refine Z7o ?_;refine Z28 ?_;exact x'.o):G:=h ⟨k⟩
theorem Zce (k:G') (h:Hid G'→G:=by intro x';refine Z29 ?_;refine Z28 ?_;exact x'.o):G:=h ⟨k⟩
theorem Zcf (k:G') (h:Hid G'→G:=by intro x';refine Z28 ?_;refine Zce ?_;exact x'.o):G:=h ⟨k⟩
theorem Zcg (k:G') (h:Hid G'→G:=by intro x';refine Z28 ?_;refine Z1y ?_;exact x'.o):G:=h ⟨k⟩
theorem Zch (k:G') (h:Hid G'→G:=by intro x';refine Z29 ?_;refine Zr ?_;exact x'.o):G:=h ⟨k⟩
theorem Zci (k:G') (h:Hid G'→G:=by intro x';refine Zcg ?_;refine Zch ?_;exact x'.o):G:=h ⟨k⟩
theorem Zcj (h:G:=by refine Zci ?_;exact Zcc):G:=h
theorem Zck (k:G') (h:Hid G'→G:=by intro x';refine Zq ?_;refine Z2d ?_;exact x'.o):G:=h ⟨k⟩
theorem Zcl (k:G') (h:Hid G'→G:=by intro x';refine Zck ?_;refine Zr ?_;exact x'.o):G:=h ⟨k⟩
theorem Zcm (h:G:=by refine Zcl ?_;exact Zcc):G:=h
theorem Zcn (k:G') (h:Hid G'→G:=by intro x';refine Zp ?_;refine Z2d ?_;exact x'.o):G:=h ⟨k⟩
theorem Zco (k:G') (h:Hid G'→G:=by intro x';refine Zcn ?_;refine Z28 ?_;exact x'.o):G:=h ⟨k⟩
theorem Zcp (h:G:=by refine Zco ?_;exact Zcm):G:=h
theorem Zcq (k:G') (h:Hid G'→G:=by intro x';refine q1k ?_;refine Zb0 ?_;exact x'.o):G:=h ⟨k⟩
theorem Zcr (k:G') (h:Hid G'→G:=by intro x';refine Zcq ?_;refine Z8 ?_;exact x'.o):G:=h ⟨k⟩
theorem Zcs (k:G') (h:Hid G'→G:=by intro x';(try dsimp only [AV.cells,List.length_cons,List.length_nil,Nat.reduceAdd,put,List.cons_append,List.nil_append,List.set_cons_zero]);exact x'.o):G:=h ⟨k⟩
theorem Zct (k:G') (h:Hid G'→G:=by intro x';refine Zb6 ?_;refine Zcs ?_;exact x'.o):G:=h ⟨k⟩
theorem Zcu (k:G') (h:Hid G'→G:=by intro x';refine Z8w ?_;refine Zv ?_;exact x'.o):G:=h ⟨k⟩
theorem Zcv (h:G:=by exact qf (Out.mk (by (refine congrArg AV.bool ?_;(clear hr;(simp_all;omega)))) Yb)):G:=h
theorem Zcw (k:G') (h:Hid G'→G:=by intro x';refine Zc3 ?_;refine Z69 ?_;exact x'.o):G:=h ⟨k⟩
theorem Zcx (k:G') (h:Hid G'→G:=by intro x';refine q2n rfl rfl (by decide) (q3d rfl hr rfl) ?_;exact x'.o):G:=h ⟨k⟩
theorem Zcy (k:G') (h:Hid G'→G:=by intro x';refine Z5b ?_;refine ao1 (by decide) (q3d rfl hr rfl) ?_;exact x'.o):G:=h ⟨k⟩
theorem Zcz (k:G') (h:Hid G'→G:=by intro x';refine Z12 ?_;refine Zcy ?_;exact x'.o):G:=h ⟨k⟩
theorem Zd0 (k:G') (h:Hid G'→G:=by intro x';refine ao2 Y11 (q4n (sz:=3) rfl (by decide) rfl) ?_;exact x'.o):G:=h ⟨k⟩
theorem Zd1 (k:G') (h:Hid G'→G:=by intro x';refine ao2 Y1b (q2p (sz:=3) rfl rfl rfl rfl rfl rfl rfl rfl (Nat.le_of_ble_eq_true rfl)) ?_;exact x'.o):G:=h ⟨k⟩
theorem Zd2 (k:G') (h:Hid G'→G:=by intro x';(try dsimp only [put,List.length_nil,List.nil_append,List.set_cons_zero]);exact x'.o):G:=h ⟨k⟩
theorem Zd3 (k:G') (h:Hid G'→G:=by intro x';refine qf ?_;refine Zd2 ?_;exact x'.o):G:=h ⟨k⟩
theorem Zd4 (k:G') (h:Hid G'→G:=by intro x';refine q2y mixed none 1 ?_;exact x'.o):G:=h ⟨k⟩
theorem Zd5 (k:G') (h:Hid G'→G:=by intro x';refine Zd4 ?_;refine Za9 ?_;exact x'.o):G:=h ⟨k⟩
theorem Zd6 (k:G') (h:Hid G'→G:=by intro x';refine Z6h ?_;refine aqp 1 rfl Y17 (by decide) (fun G=>qi (v:=.int _ _) rfl (lk rfl rfl) rfl rfl rfl) ?_;exact x'.o):G:=h ⟨k⟩
theorem Zd7 (k:G') (h:Hid G'→G:=by intro x';refine aq0 2 rfl Y17 (by decide) (fun _=>qsr rfl rfl) ?_;exact x'.o):G:=h ⟨k⟩
theorem Zd8 (k:G') (h:Hid G'→G:=by intro x';refine qr (g:=31) 4 rfl Y17 (by decide) rfl rfl rfl ?_;exact x'.o):G:=h ⟨k⟩
theorem Zd9 (k:G') (h:Hid G'→G:=by intro x';refine qr (g:=31) 5 rfl Y17 (by decide) rfl rfl rfl ?_;exact x'.o):G:=h ⟨k⟩
theorem Zda (k:G') (h:Hid G'→G:=by intro x';refine qr (g:=31) 6 rfl Y17 (by decide) rfl rfl rfl ?_;exact x'.o):G:=h ⟨k⟩
theorem Zdb (k:G') (h:Hid G'→G:=by intro x';refine qr (g:=31) 7 rfl Y17 (by decide) rfl rfl rfl ?_;exact x'.o):G:=h ⟨k⟩
theorem Zdc (k:G') (h:Hid G'→G:=by intro x';refine aq0 8 rfl Y17 (by decide) (fun _=>q16 (v:=.bool _) rfl rfl) ?_;exact x'.o):G:=h ⟨k⟩
theorem Zdd (k:G') (h:Hid G'→G:=by intro x';refine aq0 9 rfl Y17 (by decide) (fun _=>qd (v:=.bool _) rfl) ?_;exact x'.o):G:=h ⟨k⟩
theorem Zde (k:G') (h:Hid G'→G:=by intro x';refine qr (g:=37) 10 rfl Y17 (by decide) rfl rfl rfl ?_;exact x'.o):G:=h ⟨k⟩
theorem Zdf (k:G') (h:Hid G'→G:=by intro x';refine qr (g:=37) 11 rfl Y17 (by decide) rfl rfl rfl ?_;exact x'.o):G:=h ⟨k⟩
theorem Zdg (k:G') (h:Hid G'→G:=by intro x';refine qr (g:=37) 12 rfl Y17 (by decide) rfl rfl rfl ?_;exact x'.o):G:=h ⟨k⟩
theorem Zdh (k:G') (h:Hid G'→G:=by intro x';refine qr (g:=37) 13 rfl Y17 (by decide) rfl rfl rfl ?_;exact x'.o):G:=h ⟨k⟩
theorem Zdi (k:G') (h:Hid G'→G:=by intro x';refine qr (g:=37) 14 rfl Y17 (by decide) rfl rfl rfl ?_;exact x'.o):G:=h ⟨k⟩
theorem Zdj (k:G') (h:Hid G'→G:=by intro x';refine qr (g:=37) 15 rfl Y17 (by decide) rfl rfl rfl ?_;exact x'.o):G:=h ⟨k⟩
theorem Zdk (k:G') (h:Hid G'→G:=by intro x';refine qr (g:=37) 16 rfl Y17 (by decide) rfl rfl rfl ?_;exact x'.o):G:=h ⟨k⟩
theorem Zdl (k:G') (h:Hid G'→G:=by intro x';refine qr (g:=37) 17 rfl Y17 (by decide) rfl rfl rfl ?_;exact x'.o):G:=h ⟨k⟩
theorem Zdm (k:G') (h:Hid G'→G:=by intro x';refine qr (g:=37) 18 rfl Y17 (by decide) rfl rfl rfl ?_;exact x'.o):G:=h ⟨k⟩
theorem Zdn (k:G') (h:Hid G'→G:=by intro x';refine qr (g:=37) 19 rfl Y17 (by decide) rfl rfl rfl ?_;exact x'.o):G:=h ⟨k⟩
theorem Zdo (k:G') (h:Hid G'→G:=by intro x';refine aq0 20 rfl Y17 (by decide) (fun _=>q16 (v:=.bool _) rfl rfl) ?_;exact x'.o):G:=h ⟨k⟩
theorem Zdp (k:G') (h:Hid G'→G:=by intro x';refine aq0 21 rfl Y17 (by decide) (fun _=>qd (v:=.bool _) rfl) ?_;exact x'.o):G:=h ⟨k⟩
theorem Zdq (k:G') (h:Hid G'→G:=by intro x';refine qr (g:=49) 22 rfl Y17 (by decide) rfl rfl rfl ?_;exact x'.o):G:=h ⟨k⟩
theorem Zdr (k:G') (h:Hid G'→G:=by intro x';refine qr (g:=49) 23 rfl Y17 (by decide) rfl rfl rfl ?_;exact x'.o):G:=h ⟨k⟩
theorem Zds (k:G') (h:Hid G'→G:=by intro x';refine qr (g:=49) 24 rfl Y17 (by decide) rfl rfl rfl ?_;exact x'.o):G:=h ⟨k⟩
theorem Zdt (k:G') (h:Hid G'→G:=by intro x';refine qr (g:=49) 25 rfl Y17 (by decide) rfl rfl rfl ?_;exact x'.o):G:=h ⟨k⟩
theorem Zdu (k:G') (h:Hid G'→G:=by intro x';refine aq0 26 rfl Y17 (by decide) (fun _=>q16 (v:=.bool _) rfl rfl) ?_;exact x'.o):G:=h ⟨k⟩
theorem Zdv (k:G') (h:Hid G'→G:=by intro x';refine aq0 27 rfl Y17 (by decide) (fun _=>qd (v:=.bool _) rfl) ?_;exact x'.o):G:=h ⟨k⟩
theorem Zdw (k:G') (h:Hid G'→G:=by intro x';refine qr (g:=55) 28 rfl Y17 (by decide) rfl rfl rfl ?_;refine qr (g:=55) 29 rfl Y17 (by decide) rfl rfl rfl ?_;exact x'.o):G:=h ⟨k⟩
theorem Zdx (k:G') (h:Hid G'→G:=by intro x';refine Zdw ?_;refine qr (g:=55) 30 rfl Y17 (by decide) rfl rfl rfl ?_;exact x'.o):G:=h ⟨k⟩
theorem Zdy (k:G') (h:Hid G'→G:=by intro x';refine Zdx ?_;refine qr (g:=55) 31 rfl Y17 (by decide) rfl rfl rfl ?_;exact x'.o):G:=h ⟨k⟩
theorem Zdz (k:G') (h:Hid G'→G:=by intro x';refine Zdy ?_;refine q2b (g:=59) 32 rfl Y17 (by decide) rfl rfl ?_;exact x'.o):G:=h ⟨k⟩
theorem Ze0 (k:G') (h:Hid G'→G:=by intro x';refine Zdz ?_;refine q2b (g:=59) 33 rfl Y17 (by decide) rfl rfl ?_;exact x'.o):G:=h ⟨k⟩
theorem Ze1 (k:G') (h:Hid G'→G:=by intro x';refine Ze0 ?_;refine q2b (g:=59) 34 rfl Y17 (by decide) rfl rfl ?_;exact x'.o):G:=h ⟨k⟩
theorem Ze2 (k:G') (h:Hid G'→G:=by intro x';refine Ze1 ?_;refine qr (g:=55) 35 rfl Y17 (by decide) rfl rfl rfl ?_;exact x'.o):G:=h ⟨k⟩
theorem Ze3 (k:G') (h:Hid G'→G:=by intro x';refine aq0 36 rfl Y17 (by decide) (fun _=>q16 (v:=.bool _) rfl rfl) ?_;exact x'.o):G:=h ⟨k⟩
theorem Ze4 (k:G') (h:Hid G'→G:=by intro x';refine Ze2 ?_;refine Ze3 ?_;exact x'.o):G:=h ⟨k⟩
theorem Ze5 (h:G:=by exact q1i Y17 Yv (Out.mk (by (refine congrArg AV.bool ?_;(rw [hB2];clear hB hr1 hB2;(simp_all;omega)))) Yb)):G:=h
theorem Ze6 (k:G') (h:Hid G'→G:=by intro x';refine q1j (g:=31) 4 rfl Y17 (by decide) rfl rfl (fun G=>qc rfl (lk rfl rfl) rfl (by decide)) ?_;exact x'.o):G:=h ⟨k⟩
theorem Ze7 (k:G') (h:Hid G'→G:=by intro x';refine q1j (g:=31) 5 rfl Y17 (by decide) rfl rfl (fun G=>qi (v:=.int _ _) rfl (lk rfl rfl) rfl rfl rfl) ?_;exact x'.o):G:=h ⟨k⟩
theorem Ze8 (k:G') (h:Hid G'→G:=by intro x';refine q1h (g:=31) 6 rfl Y17 (by decide) rfl rfl (fun _=>qd (v:=.int _ _) rfl) ?_;exact x'.o):G:=h ⟨k⟩
theorem Ze9 (k:G') (h:Hid G'→G:=by intro x';refine q1h (g:=31) 7 rfl Y17 (by decide) rfl rfl (fun _=>qjz rfl rfl) ?_;exact x'.o):G:=h ⟨k⟩
theorem Zea (k:G') (h:Hid G'→G:=by intro x';refine aq0 8 rfl Y17 (by decide) (fun _=>q17 (v:=.bool _) rfl rfl) ?_;exact x'.o):G:=h ⟨k⟩
theorem Zeb (k:G') (h:Hid G'→G:=by intro x';refine aq0 20 rfl Y17 (by decide) (fun _=>q17 (v:=.bool _) rfl rfl) ?_;exact x'.o):G:=h ⟨k⟩
theorem Zec (h:G:=by exact q1i Y17 Yv (Out.mk (by (refine congrArg AV.bool ?_;(rw [hB2];clear hB hr1 hB2;(simp_all;done)))) Yb)):G:=h
theorem Zed (k:G') (h:Hid G'→G:=by intro x';refine aq0 26 rfl Y17 (by decide) (fun _=>q17 (v:=.bool _) rfl rfl) ?_;exact x'.o):G:=h ⟨k⟩
theorem Zee (k:G') (h:Hid G'→G:=by intro x';refine aq0 36 rfl Y17 (by decide) (fun _=>q17 (v:=.bool _) rfl rfl) ?_;exact x'.o):G:=h ⟨k⟩
theorem Zef (h:G:=by exact q1i Y17 Yv (Out.mk (by (refine congrArg AV.bool ?_;(rw [hB3];clear hB hB3;(simp_all;done)))) Yb)):G:=h
theorem Zeg (h:G:=by exact qf (Out.mk (by (refine congrArg AV.bool ?_;(simp only [q44];clear hB;(simp_all;omega)))) Yb)):G:=h
theorem Zeh (k:G') (h:Hid G'→G:=by intro x';(try dsimp only [List.length_nil,put,List.length_cons,Nat.reduceAdd,List.nil_append]);exact x'.o):G:=h ⟨k⟩
theorem Zei (k:G') (h:Hid G'→G:=by intro x';refine ao1 (by decide) (q2a rfl (lk rfl rfl) rfl rfl rfl (by omega)) ?_;exact x'.o):G:=h ⟨k⟩
theorem Zej (k:G') (h:Hid G'→G:=by intro x';refine qf ?_;refine Z9n ?_;exact x'.o):G:=h ⟨k⟩
theorem Zek (k:G') (h:Hid G'→G:=by intro x';refine q1k ?_;refine Z8w ?_;exact x'.o):G:=h ⟨k⟩
theorem Zel (k:G') (h:Hid G'→G:=by intro x';refine Zek ?_;refine Z9f ?_;exact x'.o):G:=h ⟨k⟩
theorem Zem (k:G') (h:Hid G'→G:=by intro x';(try dsimp only [put,List.length_cons,List.length_nil,Nat.reduceAdd,List.cons_append,List.nil_append,List.set_cons_zero,List.set_cons_succ]);exact x'.o):G:=h ⟨k⟩
theorem Zen (k:G') (h:Hid G'→G:=by intro x';refine qf ?_;refine Zem ?_;exact x'.o):G:=h ⟨k⟩
theorem Zeo (k:G') (h:Hid G'→G:=by intro x';refine ao1 (by decide) (qi (v:=.bool _) rfl (lk rfl rfl) rfl hrow0 rfl) ?_;exact x'.o):G:=h ⟨k⟩
theorem Zep (k:G') (h:Hid G'→G:=by intro x';refine Z2f ?_;refine Z7k ?_;exact x'.o):G:=h ⟨k⟩
theorem Zeq (k:G') (h:Hid G'→G:=by intro x';refine ao2 Y1b (q25 (sz:=1) (v:=.bool _) (r':=[.bool (uU g m i)]) rfl rfl rfl rfl hrow0 rfl rfl rfl Y13 (by rw [hat];(simp [AV.cells,hg6];done))) ?_;exact x'.o):G:=h ⟨k⟩
theorem Zer (k:G') (h:Hid G'→G:=by intro x';refine q2n rfl rfl (by decide) (qd (v:=.sl _ _ _ _ _) rfl) ?_;exact x'.o):G:=h ⟨k⟩
theorem Zes (k:G') (h:Hid G'→G:=by intro x';refine ao2 Y1b (q25 (sz:=1) (v:=.bool _) (r':=[.bool (uU g m i)]) rfl rfl rfl rfl hrow0 rfl rfl rfl Y13 (by rw [hat];(simp [AV.cells,hg6,hup];done))) ?_;exact x'.o):G:=h ⟨k⟩
theorem Zet (k:G') (h:Hid G'→G:=by intro x';refine q13 (q90 _ _ Y1d) rfl (by decide) ?_;exact x'.o):G:=h ⟨k⟩
theorem Zeu (k:G') (h:Hid G'→G:=by intro x';refine Zcw ?_;refine Z46 ?_;exact x'.o):G:=h ⟨k⟩
theorem Zev (h:G:=by exact qf (Out.mk (by (refine congrArg AV.bool ?_;(simp only [q2o];clear hB;(simp_all;omega)))) Yb)):G:=h
theorem Zew (k:G') (h:Hid G'→G:=by intro x';refine aq0 0 rfl Y17 (by decide) (fun _=>qd (v:=.sl _ _ _ _ _) rfl) ?_;exact x'.o):G:=h ⟨k⟩
theorem Zex (k:G') (h:Hid G'→G:=by intro x';refine Zew ?_;refine Z1j ?_;exact x'.o):G:=h ⟨k⟩
theorem Zey (k:G') (h:Hid G'→G:=by intro x';refine aq0 2 rfl Y17 (by decide) (fun _=>qd (v:=.sl _ _ _ _ _) rfl) ?_;exact x'.o):G:=h ⟨k⟩
theorem Zez (k:G') (h:Hid G'→G:=by intro x';refine aq0 3 rfl Y17 (by decide) (fun _=>qd (v:=.int _ _) rfl) ?_;exact x'.o):G:=h ⟨k⟩
theorem Zf0 (k:G') (h:Hid G'→G:=by intro x';refine aqp 7 rfl Y17 (by decide) (fun G=>qc rfl (lk rfl rfl) rfl (by decide)) ?_;exact x'.o):G:=h ⟨k⟩
theorem Zf1 (k:G') (h:Hid G'→G:=by intro x';refine aqp 8 rfl Y17 (by decide) (fun G=>qi (v:=.int _ _) rfl (lk rfl rfl) rfl rfl rfl) ?_;exact x'.o):G:=h ⟨k⟩
theorem Zf2 (k:G') (h:Hid G'→G:=by intro x';refine Z9q ?_;refine Z7x ?_;exact x'.o):G:=h ⟨k⟩
theorem Zf3 (k:G') (h:Hid G'→G:=by intro x';refine q13 (qi7 _ _ _ (by omega) (by omega)) rfl (by decide) ?_;exact x'.o):G:=h ⟨k⟩
theorem Zf4 (k:G') (h:Hid G'→G:=by intro x';refine q1k ?_;refine Z4n ?_;exact x'.o):G:=h ⟨k⟩
theorem Zf5 (k:G') (h:Hid G'→G:=by intro x';refine Z54 ?_;refine Z9f ?_;exact x'.o):G:=h ⟨k⟩
theorem Zf6 (k:G') (h:Hid G'→G:=by intro x';refine q13 (qhu _ _ _ _ (by omega) (by omega)) rfl (by decide) ?_;exact x'.o):G:=h ⟨k⟩
theorem Zf7 (k:G') (h:Hid G'→G:=by intro x';refine ao2 Y11 (qcc (sz:=4) (v:=.agg _) rfl rfl rfl rfl (by decide) rfl) ?_;exact x'.o):G:=h ⟨k⟩
theorem Zf8 (k:G') (h:Hid G'→G:=by intro x';refine Z2 ?_;refine Zf7 ?_;exact x'.o):G:=h ⟨k⟩
theorem Zf9 (k:G') (h:Hid G'→G:=by intro x';refine Z2p ?_;refine Zh ?_;exact x'.o):G:=h ⟨k⟩
theorem Zfa (k:G') (h:Hid G'→G:=by intro x';refine q5b rfl rfl (by decide) (V2.call (qi9 _ (by omega) _) rfl) ?_;exact x'.o):G:=h ⟨k⟩
theorem Zfb (h:G:=by exact qf (Out.mk (by (refine congrArg AV.bool ?_;(simp only [hmay,tm];clear hB;(simp_all;done)))) Yb)):G:=h
theorem Zfc (h:G:=by exact qf (Out.mk (by (refine congrArg AV.bool ?_;(simp only [hmay,tm];clear hB;(simp_all;omega)))) Yb)):G:=h
theorem Zfd (k:G') (h:Hid G'→G:=by intro x';refine q13 (qne _ _ _ _ _) rfl (by decide) ?_;exact x'.o):G:=h ⟨k⟩
theorem Zfe (h:G:=by exact qf (Out.mk (by (refine congrArg AV.bool ?_;(simp only [q3p];clear hB;(simp_all;done)))) Yb)):G:=h
theorem Zff (k:G') (h:Hid G'→G:=by intro x';refine ao1 (by decide) (q2h rfl (lkF hF) rfl rfl rfl) ?_;exact x'.o):G:=h ⟨k⟩
theorem Zfg (k:G') (h:Hid G'→G:=by intro x';refine q13 (qnk _ _ _ Y1d Y1d) rfl (by decide) ?_;exact x'.o):G:=h ⟨k⟩
theorem Zfh (k:G') (h:Hid G'→G:=by intro x';refine Zc7 ?_;refine Zcy ?_;exact x'.o):G:=h ⟨k⟩
theorem Zfi (k:G') (h:Hid G'→G:=by intro x';refine ao2 Y1b (q2p (sz:=4) rfl rfl rfl rfl rfl rfl rfl rfl (Nat.le_of_ble_eq_true rfl)) ?_;exact x'.o):G:=h ⟨k⟩
theorem Zfj (k:G') (h:Hid G'→G:=by intro x';refine aqp 0 rfl Y17 (by decide) (fun G=>q2h rfl (lk rfl rfl) rfl rfl rfl) ?_;exact x'.o):G:=h ⟨k⟩
theorem Zfk (k:G') (h:Hid G'→G:=by intro x';refine q48 1 rfl Y17 (by decide) (fun _=>V2.call (qm3 _ _ Y1d) rfl) ?_;exact x'.o):G:=h ⟨k⟩
theorem Zfl (k:G') (h:Hid G'→G:=by intro x';refine aq0 2 rfl Y17 (by decide) (fun _=>q8e rfl) ?_;exact x'.o):G:=h ⟨k⟩
theorem Zfm (k:G') (h:Hid G'→G:=by intro x';refine qr (g:=18) 4 rfl Y17 (by decide) rfl rfl rfl ?_;exact x'.o):G:=h ⟨k⟩
theorem Zfn (k:G') (h:Hid G'→G:=by intro x';refine qr (g:=18) 5 rfl Y17 (by decide) rfl rfl rfl ?_;exact x'.o):G:=h ⟨k⟩
theorem Zfo (k:G') (h:Hid G'→G:=by intro x';refine qr (g:=18) 6 rfl Y17 (by decide) rfl rfl rfl ?_;exact x'.o):G:=h ⟨k⟩
theorem Zfp (k:G') (h:Hid G'→G:=by intro x';refine q2b (g:=21) 7 rfl Y17 (by decide) rfl rfl ?_;exact x'.o):G:=h ⟨k⟩
theorem Zfq (k:G') (h:Hid G'→G:=by intro x';refine q2b (g:=21) 8 rfl Y17 (by decide) rfl rfl ?_;exact x'.o):G:=h ⟨k⟩
theorem Zfr (k:G') (h:Hid G'→G:=by intro x';refine q2b (g:=21) 9 rfl Y17 (by decide) rfl rfl ?_;exact x'.o):G:=h ⟨k⟩
theorem Zfs (k:G') (h:Hid G'→G:=by intro x';refine q2b (g:=21) 10 rfl Y17 (by decide) rfl rfl ?_;exact x'.o):G:=h ⟨k⟩
theorem Zft (k:G') (h:Hid G'→G:=by intro x';refine q2b (g:=21) 11 rfl Y17 (by decide) rfl rfl ?_;exact x'.o):G:=h ⟨k⟩
theorem Zfu (k:G') (h:Hid G'→G:=by intro x';refine q2b (g:=21) 12 rfl Y17 (by decide) rfl rfl ?_;exact x'.o):G:=h ⟨k⟩
theorem Zfv (k:G') (h:Hid G'→G:=by intro x';refine q2b (g:=21) 13 rfl Y17 (by decide) rfl rfl ?_;exact x'.o):G:=h ⟨k⟩
theorem Zfw (k:G') (h:Hid G'→G:=by intro x';refine q2b (g:=21) 14 rfl Y17 (by decide) rfl rfl ?_;exact x'.o):G:=h ⟨k⟩
theorem Zfx (k:G') (h:Hid G'→G:=by intro x';refine q2b (g:=21) 15 rfl Y17 (by decide) rfl rfl ?_;exact x'.o):G:=h ⟨k⟩
theorem Zfy (k:G') (h:Hid G'→G:=by intro x';refine qr (g:=18) 16 rfl Y17 (by decide) rfl rfl rfl ?_;exact x'.o):G:=h ⟨k⟩
theorem Zfz (k:G') (h:Hid G'→G:=by intro x';refine aq0 17 rfl Y17 (by decide) (fun _=>q16 (v:=.bool _) rfl rfl) ?_;exact x'.o):G:=h ⟨k⟩
theorem Zg0 (k:G') (h:Hid G'→G:=by intro x';refine aq0 18 rfl Y17 (by decide) (fun _=>qd (v:=.bool _) rfl) ?_;exact x'.o):G:=h ⟨k⟩
theorem Zg1 (k:G') (h:Hid G'→G:=by intro x';refine qr (g:=33) 19 rfl Y17 (by decide) rfl rfl rfl ?_;exact x'.o):G:=h ⟨k⟩
theorem Zg2 (k:G') (h:Hid G'→G:=by intro x';refine qr (g:=33) 20 rfl Y17 (by decide) rfl rfl rfl ?_;exact x'.o):G:=h ⟨k⟩
theorem Zg3 (k:G') (h:Hid G'→G:=by intro x';refine qr (g:=33) 21 rfl Y17 (by decide) rfl rfl rfl ?_;exact x'.o):G:=h ⟨k⟩
theorem Zg4 (k:G') (h:Hid G'→G:=by intro x';refine qr (g:=33) 22 rfl Y17 (by decide) rfl rfl rfl ?_;exact x'.o):G:=h ⟨k⟩
theorem Zg5 (k:G') (h:Hid G'→G:=by intro x';refine qr (g:=33) 23 rfl Y17 (by decide) rfl rfl rfl ?_;exact x'.o):G:=h ⟨k⟩
theorem Zg6 (k:G') (h:Hid G'→G:=by intro x';refine aq0 24 rfl Y17 (by decide) (fun _=>q16 (v:=.bool _) rfl rfl) ?_;exact x'.o):G:=h ⟨k⟩
theorem Zg7 (h:G:=by exact q1i Y17 Yv (Out.mk (by (refine congrArg AV.bool ?_;(rw [hB2];clear hB hr1 hB2 hno0 hli;(simp_all;done)))) Yb)):G:=h
theorem Zg8 (k:G') (h:Hid G'→G:=by intro x';refine q1h (g:=18) 4 rfl Y17 (by decide) rfl rfl (fun _=>qd (v:=.int _ _) rfl) ?_;exact x'.o):G:=h ⟨k⟩
theorem Zg9 (k:G') (h:Hid G'→G:=by intro x';refine q1h (g:=18) 5 rfl Y17 (by decide) rfl rfl (fun _=>qjz rfl rfl) ?_;exact x'.o):G:=h ⟨k⟩
theorem Zga (k:G') (h:Hid G'→G:=by intro x';refine q1h (g:=18) 6 rfl Y17 (by decide) rfl rfl (fun _=>qd (v:=.bool _) rfl) ?_;exact x'.o):G:=h ⟨k⟩
theorem Zgb (k:G') (h:Hid G'→G:=by intro x';refine q1h (g:=21) 10 rfl Y17 (by decide) rfl rfl (fun _=>qd (v:=.int _ _) rfl) ?_;exact x'.o):G:=h ⟨k⟩
theorem Zgc (k:G') (h:Hid G'→G:=by intro x';refine aq0 17 rfl Y17 (by decide) (fun _=>q17 (v:=.bool _) rfl rfl) ?_;exact x'.o):G:=h ⟨k⟩
theorem Zgd (k:G') (h:Hid G'→G:=by intro x';refine q1h (g:=33) 19 rfl Y17 (by decide) rfl rfl (fun _=>qd (v:=.pl _) rfl) ?_;exact x'.o):G:=h ⟨k⟩
theorem Zge (k:G') (h:Hid G'→G:=by intro x';refine q1h (g:=33) 20 rfl Y17 (by decide) rfl rfl (fun _=>qd (v:=.int _ _) rfl) ?_;exact x'.o):G:=h ⟨k⟩
theorem Zgf (k:G') (h:Hid G'→G:=by intro x';refine q1h (g:=33) 21 rfl Y17 (by decide) rfl rfl (fun _=>qsq (ys:=(l.take i).map qg) rfl (Bd.some rfl rfl) Y1c (q6m _) hli) ?_;exact x'.o):G:=h ⟨k⟩
theorem Zgg (k:G') (h:Hid G'→G:=by intro x';refine q1h (g:=33) 22 rfl Y17 (by decide) rfl rfl (fun _=>qa9 (vs:=[]) (us:=[_]) rfl rfl) ?_;exact x'.o):G:=h ⟨k⟩
theorem Zgh (k:G') (h:Hid G'→G:=by intro x';refine qys (g:=33) 23 rfl Y17 (by decide) rfl rfl (fun G=>V2.call (q8g (l.take i) h _ _ (hl.take i) hw (lk rfl rfl)) rfl) ?_;exact x'.o):G:=h ⟨k⟩
theorem Zgi (k:G') (h:Hid G'→G:=by intro x';refine aq0 24 rfl Y17 (by decide) (fun _=>q17 (v:=.bool _) rfl rfl) ?_;exact x'.o):G:=h ⟨k⟩
theorem Zgj (k:G') (h:Hid G'→G:=by intro x';refine qr (g:=21) 7 rfl Y17 (by decide) rfl rfl rfl ?_;exact x'.o):G:=h ⟨k⟩
theorem Zgk (k:G') (h:Hid G'→G:=by intro x';refine qr (g:=21) 8 rfl Y17 (by decide) rfl rfl rfl ?_;exact x'.o):G:=h ⟨k⟩
theorem Zgl (k:G') (h:Hid G'→G:=by intro x';refine qr (g:=21) 9 rfl Y17 (by decide) rfl rfl rfl ?_;exact x'.o):G:=h ⟨k⟩
theorem Zgm (k:G') (h:Hid G'→G:=by intro x';refine qr (g:=21) 10 rfl Y17 (by decide) rfl rfl rfl ?_;exact x'.o):G:=h ⟨k⟩
theorem Zgn (k:G') (h:Hid G'→G:=by intro x';refine qr (g:=21) 11 rfl Y17 (by decide) rfl rfl rfl ?_;exact x'.o):G:=h ⟨k⟩
theorem Zgo (k:G') (h:Hid G'→G:=by intro x';refine qr (g:=21) 12 rfl Y17 (by decide) rfl rfl rfl ?_;exact x'.o):G:=h ⟨k⟩
theorem Zgp (k:G') (h:Hid G'→G:=by intro x';refine qr (g:=21) 13 rfl Y17 (by decide) rfl rfl rfl ?_;exact x'.o):G:=h ⟨k⟩
theorem Zgq (k:G') (h:Hid G'→G:=by intro x';refine qr (g:=21) 14 rfl Y17 (by decide) rfl rfl rfl ?_;exact x'.o):G:=h ⟨k⟩
theorem Zgr (k:G') (h:Hid G'→G:=by intro x';refine qr (g:=21) 15 rfl Y17 (by decide) rfl rfl rfl ?_;exact x'.o):G:=h ⟨k⟩
theorem Zgs (k:G') (h:Hid G'→G:=by intro x';refine q1h (g:=18) 16 rfl Y17 (by decide) rfl rfl (fun _=>q17 (v:=.bool _) rfl rfl) ?_;exact x'.o):G:=h ⟨k⟩
theorem Zgt (h:G:=by exact q1i Y17 Yv (Out.mk (by (refine congrArg AV.bool ?_;(rw [hB2];clear hB hB2 hno0 hli;(simp_all;done)))) Yb)):G:=h
theorem Zgu (h:G:=by exact qf (Out.mk (by (refine congrArg AV.bool ?_;(clear hB;(simp_all;done)))) Yb)):G:=h
theorem Zgv (h:G:=by refine Z3z ?_;exact Zgu):G:=h
theorem Zgw (h:G:=by exact qf (Out.mk (by (refine congrArg AV.bool ?_;(clear hB;(simp_all;omega)))) Yb)):G:=h
theorem Zgx (k:G') (h:Hid G'→G:=by intro x';refine Z2u ?_;refine Zh ?_;exact x'.o):G:=h ⟨k⟩
theorem Zgy (h:G:=by exact qf (Out.mk (by (refine congrArg AV.bool ?_;(rw [hB0];clear hB hB0;(simp_all;done)))) Yb)):G:=h
theorem Zgz (k:G') (h:Hid G'→G:=by intro x';refine q2n rfl rfl (by decide) (qpe rfl rfl) ?_;exact x'.o):G:=h ⟨k⟩
theorem Zh0 (k:G') (h:Hid G'→G:=by intro x';refine q2n rfl rfl (by decide) (qer rfl rfl) ?_;exact x'.o):G:=h ⟨k⟩
theorem Zh1 (h:G:=by exact qf (Out.mk (by (refine congrArg AV.bool ?_;(clear hB hB2 hno0;(simp_all;done)))) Yb)):G:=h
theorem Zh2 (k:G') (h:Hid G'→G:=by intro x';refine q5b rfl rfl (by decide) (V2.call (qj7 _ _ Y1d) rfl) ?_;exact x'.o):G:=h ⟨k⟩
theorem Zh3 (k:G') (h:Hid G'→G:=by intro x';refine ao1 (by decide) (qx rfl (by decide)) ?_;exact x'.o):G:=h ⟨k⟩
theorem Zh4 (h:G:=by refine Z1a ?_;exact qf (Out.mk (by (refine congrArg AV.bool ?_;(rw [hB3];clear hB hB3 hno0;unfold q5o;generalize t.kind=a at *;generalize u.kind=b at *;refine Bool.eq_iff_iff.mpr ?_;simp only [Bool.and_eq_true,Bool.or_eq_true,Bool.not_eq_true',decide_eq_true_eq,decide_eq_false_iff_not,beq_iff_eq,bne_iff_ne,Bool.false_eq_true,Bool.and_eq_false_iff,Bool.or_eq_false_iff,false_iff,true_iff,iff_true,iff_false,Bool.not_true,Bool.not_false,not_true,not_false_iff] at *;omega))) Yb)):G:=h
theorem Zh5 (k:G') (h:Hid G'→G:=by intro x';refine Z7o ?_;refine Zch ?_;exact x'.o):G:=h ⟨k⟩
theorem Zh6 (h:G:=by refine Zh5 ?_;exact Zh4):G:=h
theorem Zh7 (h:G:=by exact qf (Out.mk (by (refine congrArg AV.bool ?_;(rw [hB3];clear hB hB3 hno0;unfold q5o;generalize t.kind=a at *;generalize u.kind=b at *;refine Bool.eq_iff_iff.mpr ?_;simp only [Bool.and_eq_true,Bool.or_eq_true,Bool.not_eq_true',decide_eq_true_eq,decide_eq_false_iff_not,beq_iff_eq,bne_iff_ne,Bool.false_eq_true,Bool.and_eq_false_iff,Bool.or_eq_false_iff,false_iff,true_iff,iff_true,iff_false,Bool.not_true,Bool.not_false,not_true,not_false_iff] at *;(simp_all;done)))) Yb)):G:=h
theorem Zh8 (k:G') (h:Hid G'→G:=by intro x';refine q2n rfl rfl (by decide) (qe rfl rfl hr rfl) ?_;exact x'.o):G:=h ⟨k⟩
theorem Zh9 (k:G') (h:Hid G'→G:=by intro x';refine Zj ?_;refine Zh8 ?_;exact x'.o):G:=h ⟨k⟩
theorem Zha (k:G') (h:Hid G'→G:=by intro x';refine q2n rfl rfl (by decide) (qz (v:=.int _ _) rfl hr rfl) ?_;exact x'.o):G:=h ⟨k⟩
theorem Zhb (h:G:=by exact qf (Out.mk (by (refine congrArg AV.bool ?_;(clear hB hst hno hr hx hxl;(simp_all;done)))) Yb)):G:=h
theorem Zhc (k:G') (h:Hid G'→G:=by intro x';refine q13 (qcv _ _ (by omega) Y1d) rfl (by decide) ?_;exact x'.o):G:=h ⟨k⟩
theorem Zhd (k:G') (h:Hid G'→G:=by intro x';refine Z5 ?_;refine Z1e ?_;exact x'.o):G:=h ⟨k⟩
theorem Zhe (k:G') (h:Hid G'→G:=by intro x';refine ao1 (by decide) (qe rfl rfl hr2 rfl) ?_;exact x'.o):G:=h ⟨k⟩
theorem Zhf (k:G') (h:Hid G'→G:=by intro x';refine ao1 (by decide) (qz (v:=.int _ _) rfl hr2 rfl) ?_;exact x'.o):G:=h ⟨k⟩
theorem Zhg (k:G') (h:Hid G'→G:=by intro x';refine Z5b ?_;refine Zh3 ?_;exact x'.o):G:=h ⟨k⟩
theorem Zhh (k:G') (h:Hid G'→G:=by intro x';refine Zhg ?_;refine Z5c ?_;exact x'.o):G:=h ⟨k⟩
theorem Zhi (k:G') (h:Hid G'→G:=by intro x';refine Zbe ?_;refine Zhh ?_;exact x'.o):G:=h ⟨k⟩
theorem Zhj (k:G') (h:Hid G'→G:=by intro x';refine aqp 6 rfl Y17 (by decide) (fun G=>qe rfl rfl hr2 rfl) ?_;exact x'.o):G:=h ⟨k⟩
theorem Zhk (k:G') (h:Hid G'→G:=by intro x';refine aqp 7 rfl Y17 (by decide) (fun G=>qz (v:=.int _ _) rfl hr2 rfl) ?_;exact x'.o):G:=h ⟨k⟩
theorem Zhl (k:G') (h:Hid G'→G:=by intro x';refine q13 (q71 _ (by omega) _) rfl (by decide) ?_;exact x'.o):G:=h ⟨k⟩
theorem Zhm (h:G:=by refine Zn ?_;exact Zgu):G:=h
theorem Zhn (k:G') (h:Hid G'→G:=by intro x';refine q13 (ql4 _ _ _) rfl (by decide) ?_;exact x'.o):G:=h ⟨k⟩
theorem Zho (k:G') (h:Hid G'→G:=by intro x';refine ao1 (by decide) (q5y (r:=((lo+hi:Nat):Int)) rfl rfl (by rw [show (lo:Int)+(hi:Int)=((lo+hi:Nat):Int) by omega];exact q1b (by omega) (by omega))) ?_;exact x'.o):G:=h ⟨k⟩
theorem Zhp (k:G') (h:Hid G'→G:=by intro x';refine ao1 (by decide) (q5h (r:=((lo+hi:Nat):Int)) rfl Yq) ?_;exact x'.o):G:=h ⟨k⟩
theorem Zhq (k:G') (h:Hid G'→G:=by intro x';refine ao1 (by decide) (qxx (r:=(((lo+hi) / 2:Nat):Int)) rfl rfl (by decide) (by rw [show ((2:Int) ^ min (1:Int).toNat IntKind.u64.bits)=((2:Nat):Int) from rfl,Int.fdiv_eq_ediv_of_nonneg _ (by omega)];exact (Int.natCast_ediv _ _).symm)) ?_;exact x'.o):G:=h ⟨k⟩
theorem Zhr (k:G') (h:Hid G'→G:=by intro x';refine ao1 (by decide) (q5h (r:=(((lo+hi) / 2:Nat):Int)) rfl (q1b (by omega) (by omega))) ?_;exact x'.o):G:=h ⟨k⟩
theorem Zhs (k:G') (h:Hid G'→G:=by intro x';refine ao1 (by decide) (q5y (r:=(((lo+hi) / 2+1:Nat):Int)) rfl rfl (by rw [show (((lo+hi) / 2:Nat):Int)+1=(((lo+hi) / 2+1:Nat):Int) by omega];exact q1b (by omega) (by omega))) ?_;exact x'.o):G:=h ⟨k⟩
theorem Zht (k:G') (h:Hid G'→G:=by intro x';refine q2n rfl rfl (by decide) (qd (v:=.fn _ _ _) rfl) ?_;exact x'.o):G:=h ⟨k⟩
theorem Zhu (h:G:=by refine Z1 ?_;exact Z7r):G:=h
theorem Zhv (k:G') (h:Hid G'→G:=by intro x';(try dsimp only [put,AV.cells,List.nil_append,List.length_cons,List.length_nil,Nat.reduceAdd,List.cons_append]);exact x'.o):G:=h ⟨k⟩
theorem Zhw (k:G') (h:Hid G'→G:=by intro x';refine ao2 Y1b (q25 (sz:=1) (v:=.pl _) (r':=[_,_,_,_]) rfl rfl rfl rfl rfl rfl rfl rfl (Nat.le_of_ble_eq_true rfl) rfl) ?_;exact x'.o):G:=h ⟨k⟩
theorem Zhx (h:G:=by exact q4d hB (q7h rfl (lk rfl rfl) rfl rfl rfl .nil) rfl rfl):G:=h
theorem Zhy (k:G') (h:Hid G'→G:=by intro x';refine q13 (qf4 _ _ Y1d) rfl (by decide) ?_;exact x'.o):G:=h ⟨k⟩
theorem Zhz (k:G') (h:Hid G'→G:=by intro x';refine Zhy ?_;refine Z4d ?_;exact x'.o):G:=h ⟨k⟩
theorem Zi0 (k:G') (h:Hid G'→G:=by intro x';refine ao1 (by decide) (V1.up (q4i (cs:=[.int _ _,_,.int _ _,.int _ _]) rfl)) ?_;exact x'.o):G:=h ⟨k⟩
theorem Zi1 (k:G') (h:Hid G'→G:=by intro x';(try dsimp only [AV.up,put,List.set_cons_zero]);exact x'.o):G:=h ⟨k⟩
theorem Zi2 (h:G:=by refine Z1 ?_;exact Z8a):G:=h
theorem Zi3 (h:G:=by refine Zi1 ?_;exact Zi2):G:=h
theorem Zi4 (k:G') (h:Hid G'→G:=by intro x';refine q13 (qss _ _ _ (by omega) Y1d) rfl (by decide) ?_;exact x'.o):G:=h ⟨k⟩
theorem Zi5 (k:G') (h:Hid G'→G:=by intro x';refine Z8i ?_;refine Z8k ?_;exact x'.o):G:=h ⟨k⟩
theorem Zi6 (k:G') (h:Hid G'→G:=by intro x';refine q13 (qce _ _ Y1d) rfl (by decide) ?_;exact x'.o):G:=h ⟨k⟩
theorem Zi7 (k:G') (h:Hid G'→G:=by intro x';refine Z2 ?_;refine Zcy ?_;exact x'.o):G:=h ⟨k⟩
theorem Zi8 (k:G') (h:Hid G'→G:=by intro x';refine Z9d ?_;refine Zfi ?_;exact x'.o):G:=h ⟨k⟩
theorem Zi9 (k:G') (h:Hid G'→G:=by intro x';refine Zi7 ?_;refine Zi8 ?_;exact x'.o):G:=h ⟨k⟩
theorem Zia (k:G') (h:Hid G'→G:=by intro x';refine ao2 Y11 (V2.callT (qgr _ _ (by omega) (by omega) _) rfl rfl) ?_;exact x'.o):G:=h ⟨k⟩
theorem Zib (k:G') (h:Hid G'→G:=by intro x';refine qf ?_;refine Z8j ?_;exact x'.o):G:=h ⟨k⟩
theorem Zic (k:G') (h:Hid G'→G:=by intro x';refine Z4o ?_;refine Z4w ?_;exact x'.o):G:=h ⟨k⟩
theorem Zid (k:G') (h:Hid G'→G:=by intro x';refine q48 1 rfl Y17 (by decide) (fun _=>V2.call (qhw _ _) rfl) ?_;exact x'.o):G:=h ⟨k⟩
theorem Zie (k:G') (h:Hid G'→G:=by intro x';refine qr (g:=22) 4 rfl Y17 (by decide) rfl rfl rfl ?_;exact x'.o):G:=h ⟨k⟩
theorem Zif (k:G') (h:Hid G'→G:=by intro x';refine qr (g:=22) 5 rfl Y17 (by decide) rfl rfl rfl ?_;exact x'.o):G:=h ⟨k⟩
theorem Zig (k:G') (h:Hid G'→G:=by intro x';refine qr (g:=22) 6 rfl Y17 (by decide) rfl rfl rfl ?_;exact x'.o):G:=h ⟨k⟩
theorem Zih (k:G') (h:Hid G'→G:=by intro x';refine q2b (g:=25) 7 rfl Y17 (by decide) rfl rfl ?_;exact x'.o):G:=h ⟨k⟩
theorem Zii (k:G') (h:Hid G'→G:=by intro x';refine q2b (g:=25) 8 rfl Y17 (by decide) rfl rfl ?_;exact x'.o):G:=h ⟨k⟩
theorem Zij (k:G') (h:Hid G'→G:=by intro x';refine q2b (g:=25) 9 rfl Y17 (by decide) rfl rfl ?_;exact x'.o):G:=h ⟨k⟩
theorem Zik (k:G') (h:Hid G'→G:=by intro x';refine q2b (g:=25) 10 rfl Y17 (by decide) rfl rfl ?_;exact x'.o):G:=h ⟨k⟩
theorem Zil (k:G') (h:Hid G'→G:=by intro x';refine q2b (g:=25) 11 rfl Y17 (by decide) rfl rfl ?_;exact x'.o):G:=h ⟨k⟩
theorem Zim (k:G') (h:Hid G'→G:=by intro x';refine q2b (g:=25) 12 rfl Y17 (by decide) rfl rfl ?_;exact x'.o):G:=h ⟨k⟩
theorem Zin (k:G') (h:Hid G'→G:=by intro x';refine q2b (g:=25) 13 rfl Y17 (by decide) rfl rfl ?_;exact x'.o):G:=h ⟨k⟩
theorem Zio (k:G') (h:Hid G'→G:=by intro x';refine q2b (g:=25) 14 rfl Y17 (by decide) rfl rfl ?_;exact x'.o):G:=h ⟨k⟩
theorem Zip (k:G') (h:Hid G'→G:=by intro x';refine q2b (g:=25) 15 rfl Y17 (by decide) rfl rfl ?_;exact x'.o):G:=h ⟨k⟩
theorem Ziq (k:G') (h:Hid G'→G:=by intro x';refine q2b (g:=35) 17 rfl Y17 (by decide) rfl rfl ?_;refine q2b (g:=35) 18 rfl Y17 (by decide) rfl rfl ?_;exact x'.o):G:=h ⟨k⟩
theorem Zir (k:G') (h:Hid G'→G:=by intro x';refine Ziq ?_;refine q2b (g:=35) 19 rfl Y17 (by decide) rfl rfl ?_;exact x'.o):G:=h ⟨k⟩
theorem Zis (k:G') (h:Hid G'→G:=by intro x';refine Zir ?_;refine q2b (g:=35) 20 rfl Y17 (by decide) rfl rfl ?_;exact x'.o):G:=h ⟨k⟩
theorem Zit (k:G') (h:Hid G'→G:=by intro x';refine Zis ?_;refine q2b (g:=35) 21 rfl Y17 (by decide) rfl rfl ?_;exact x'.o):G:=h ⟨k⟩
theorem Ziu (k:G') (h:Hid G'→G:=by intro x';refine Zit ?_;refine q2b (g:=35) 22 rfl Y17 (by decide) rfl rfl ?_;exact x'.o):G:=h ⟨k⟩
theorem Ziv (k:G') (h:Hid G'→G:=by intro x';refine Ziu ?_;refine q2b (g:=35) 23 rfl Y17 (by decide) rfl rfl ?_;exact x'.o):G:=h ⟨k⟩
theorem Ziw (k:G') (h:Hid G'→G:=by intro x';refine Ziv ?_;refine q2b (g:=35) 24 rfl Y17 (by decide) rfl rfl ?_;exact x'.o):G:=h ⟨k⟩
theorem Zix (k:G') (h:Hid G'→G:=by intro x';refine Ziw ?_;refine q2b (g:=35) 25 rfl Y17 (by decide) rfl rfl ?_;exact x'.o):G:=h ⟨k⟩
theorem Ziy (k:G') (h:Hid G'→G:=by intro x';refine q2b (g:=25) 26 rfl Y17 (by decide) rfl rfl ?_;exact x'.o):G:=h ⟨k⟩
theorem Ziz (k:G') (h:Hid G'→G:=by intro x';refine qr (g:=22) 27 rfl Y17 (by decide) rfl rfl rfl ?_;exact x'.o):G:=h ⟨k⟩
theorem Zj0 (k:G') (h:Hid G'→G:=by intro x';refine aq0 28 rfl Y17 (by decide) (fun _=>q16 (v:=.bool _) rfl rfl) ?_;exact x'.o):G:=h ⟨k⟩
theorem Zj1 (h:G:=by exact q1i Y17 Yv (Out.mk (by (refine congrArg AV.bool ?_;(clear hB hr1 hli;(simp_all;done)))) Yb)):G:=h
theorem Zj2 (k:G') (h:Hid G'→G:=by intro x';refine q1h (g:=22) 4 rfl Y17 (by decide) rfl rfl (fun _=>qd (v:=.int _ _) rfl) ?_;exact x'.o):G:=h ⟨k⟩
theorem Zj3 (k:G') (h:Hid G'→G:=by intro x';refine q1h (g:=22) 5 rfl Y17 (by decide) rfl rfl (fun _=>qjz rfl rfl) ?_;exact x'.o):G:=h ⟨k⟩
theorem Zj4 (k:G') (h:Hid G'→G:=by intro x';refine q1h (g:=22) 6 rfl Y17 (by decide) rfl rfl (fun _=>qd (v:=.bool _) rfl) ?_;exact x'.o):G:=h ⟨k⟩
theorem Zj5 (k:G') (h:Hid G'→G:=by intro x';refine qr (g:=35) 17 rfl Y17 (by decide) rfl rfl rfl ?_;exact x'.o):G:=h ⟨k⟩
theorem Zj6 (k:G') (h:Hid G'→G:=by intro x';refine qr (g:=35) 18 rfl Y17 (by decide) rfl rfl rfl ?_;exact x'.o):G:=h ⟨k⟩
theorem Zj7 (k:G') (h:Hid G'→G:=by intro x';refine qr (g:=35) 19 rfl Y17 (by decide) rfl rfl rfl ?_;exact x'.o):G:=h ⟨k⟩
theorem Zj8 (k:G') (h:Hid G'→G:=by intro x';refine qr (g:=35) 20 rfl Y17 (by decide) rfl rfl rfl ?_;exact x'.o):G:=h ⟨k⟩
theorem Zj9 (k:G') (h:Hid G'→G:=by intro x';refine qr (g:=35) 21 rfl Y17 (by decide) rfl rfl rfl ?_;exact x'.o):G:=h ⟨k⟩
theorem Zja (k:G') (h:Hid G'→G:=by intro x';refine qr (g:=35) 22 rfl Y17 (by decide) rfl rfl rfl ?_;exact x'.o):G:=h ⟨k⟩
theorem Zjb (k:G') (h:Hid G'→G:=by intro x';refine qr (g:=35) 23 rfl Y17 (by decide) rfl rfl rfl ?_;exact x'.o):G:=h ⟨k⟩
theorem Zjc (k:G') (h:Hid G'→G:=by intro x';refine qr (g:=35) 24 rfl Y17 (by decide) rfl rfl rfl ?_;exact x'.o):G:=h ⟨k⟩
theorem Zjd (k:G') (h:Hid G'→G:=by intro x';refine qr (g:=35) 25 rfl Y17 (by decide) rfl rfl rfl ?_;exact x'.o):G:=h ⟨k⟩
theorem Zje (k:G') (h:Hid G'→G:=by intro x';refine q1h (g:=22) 27 rfl Y17 (by decide) rfl rfl (fun _=>q16 (v:=.bool _) rfl rfl) ?_;exact x'.o):G:=h ⟨k⟩
theorem Zjf (k:G') (h:Hid G'→G:=by intro x';refine aq0 28 rfl Y17 (by decide) (fun _=>q17 (v:=.bool _) rfl rfl) ?_;exact x'.o):G:=h ⟨k⟩
theorem Zjg (k:G') (h:Hid G'→G:=by intro x';refine qr (g:=25) 7 rfl Y17 (by decide) rfl rfl rfl ?_;exact x'.o):G:=h ⟨k⟩
theorem Zjh (k:G') (h:Hid G'→G:=by intro x';refine qr (g:=25) 8 rfl Y17 (by decide) rfl rfl rfl ?_;exact x'.o):G:=h ⟨k⟩
theorem Zji (k:G') (h:Hid G'→G:=by intro x';refine qr (g:=25) 9 rfl Y17 (by decide) rfl rfl rfl ?_;exact x'.o):G:=h ⟨k⟩
theorem Zjj (k:G') (h:Hid G'→G:=by intro x';refine qr (g:=25) 10 rfl Y17 (by decide) rfl rfl rfl ?_;exact x'.o):G:=h ⟨k⟩
theorem Zjk (k:G') (h:Hid G'→G:=by intro x';refine qr (g:=25) 11 rfl Y17 (by decide) rfl rfl rfl ?_;exact x'.o):G:=h ⟨k⟩
theorem Zjl (k:G') (h:Hid G'→G:=by intro x';refine qr (g:=25) 12 rfl Y17 (by decide) rfl rfl rfl ?_;exact x'.o):G:=h ⟨k⟩
theorem Zjm (k:G') (h:Hid G'→G:=by intro x';refine qr (g:=25) 13 rfl Y17 (by decide) rfl rfl rfl ?_;exact x'.o):G:=h ⟨k⟩
theorem Zjn (k:G') (h:Hid G'→G:=by intro x';refine qr (g:=25) 14 rfl Y17 (by decide) rfl rfl rfl ?_;exact x'.o):G:=h ⟨k⟩
theorem Zjo (k:G') (h:Hid G'→G:=by intro x';refine qr (g:=25) 15 rfl Y17 (by decide) rfl rfl rfl ?_;exact x'.o):G:=h ⟨k⟩
theorem Zjp (k:G') (h:Hid G'→G:=by intro x';refine qr (g:=25) 26 rfl Y17 (by decide) rfl rfl rfl ?_;exact x'.o):G:=h ⟨k⟩
theorem Zjq (k:G') (h:Hid G'→G:=by intro x';refine q1h (g:=22) 27 rfl Y17 (by decide) rfl rfl (fun _=>q17 (v:=.bool _) rfl rfl) ?_;exact x'.o):G:=h ⟨k⟩
theorem Zjr (h:G:=by exact q1i Y17 Yv (Out.mk (by (refine congrArg AV.bool ?_;(clear hB hli;(simp_all;done)))) Yb)):G:=h
theorem Zjs (k:G') (h:Hid G'→G:=by intro x';refine Z5e ?_;refine Z4 ?_;exact x'.o):G:=h ⟨k⟩
theorem Zjt (k:G') (h:Hid G'→G:=by intro x';refine q13 (qp9 _ _ _ (by omega) Y1d) rfl (by decide) ?_;exact x'.o):G:=h ⟨k⟩
theorem Zju (k:G') (h:Hid G'→G:=by intro x';refine q5b rfl rfl (by decide) (V2.call (q71 _ (by omega) _) rfl) ?_;exact x'.o):G:=h ⟨k⟩
theorem Zjv (h:G:=by exact qf (Out.mk (by (refine congrArg AV.bool ?_;(simp only [q3p];clear hB ct;(simp_all;done)))) Yb)):G:=h
theorem Zjw (k:G') (h:Hid G'→G:=by intro x';refine Z13 ?_;refine Z56 ?_;exact x'.o):G:=h ⟨k⟩
theorem Zjx (k:G') (h:Hid G'→G:=by intro x';refine aqp 3 rfl Y17 (by decide) (fun G=>q3d rfl hr rfl) ?_;exact x'.o):G:=h ⟨k⟩
theorem Zjy (k:G') (h:Hid G'→G:=by intro x';refine q48 4 rfl Y17 (by decide) (fun _=>V2.call (qix _ _ Y1d) rfl) ?_;exact x'.o):G:=h ⟨k⟩
theorem Zjz (k:G') (h:Hid G'→G:=by intro x';refine aq0 5 rfl Y17 (by decide) (fun _=>q8e rfl) ?_;exact x'.o):G:=h ⟨k⟩
theorem Zk0 (k:G') (h:Hid G'→G:=by intro x';refine q2b (g:=23) 10 rfl Y17 (by decide) rfl rfl ?_;exact x'.o):G:=h ⟨k⟩
theorem Zk1 (k:G') (h:Hid G'→G:=by intro x';refine q2b (g:=23) 11 rfl Y17 (by decide) rfl rfl ?_;exact x'.o):G:=h ⟨k⟩
theorem Zk2 (k:G') (h:Hid G'→G:=by intro x';refine q2b (g:=23) 12 rfl Y17 (by decide) rfl rfl ?_;exact x'.o):G:=h ⟨k⟩
theorem Zk3 (k:G') (h:Hid G'→G:=by intro x';refine q2b (g:=23) 13 rfl Y17 (by decide) rfl rfl ?_;exact x'.o):G:=h ⟨k⟩
theorem Zk4 (k:G') (h:Hid G'→G:=by intro x';refine q2b (g:=23) 14 rfl Y17 (by decide) rfl rfl ?_;exact x'.o):G:=h ⟨k⟩
theorem Zk5 (k:G') (h:Hid G'→G:=by intro x';refine q2b (g:=23) 15 rfl Y17 (by decide) rfl rfl ?_;exact x'.o):G:=h ⟨k⟩
theorem Zk6 (k:G') (h:Hid G'→G:=by intro x';refine q2b (g:=23) 16 rfl Y17 (by decide) rfl rfl ?_;exact x'.o):G:=h ⟨k⟩
theorem Zk7 (k:G') (h:Hid G'→G:=by intro x';refine q2b (g:=23) 17 rfl Y17 (by decide) rfl rfl ?_;exact x'.o):G:=h ⟨k⟩
theorem Zk8 (k:G') (h:Hid G'→G:=by intro x';refine q2b (g:=23) 18 rfl Y17 (by decide) rfl rfl ?_;exact x'.o):G:=h ⟨k⟩
theorem Zk9 (k:G') (h:Hid G'→G:=by intro x';refine q2b (g:=23) 19 rfl Y17 (by decide) rfl rfl ?_;exact x'.o):G:=h ⟨k⟩
theorem Zka (k:G') (h:Hid G'→G:=by intro x';refine q2b (g:=23) 20 rfl Y17 (by decide) rfl rfl ?_;exact x'.o):G:=h ⟨k⟩
theorem Zkb (k:G') (h:Hid G'→G:=by intro x';refine q2b (g:=23) 21 rfl Y17 (by decide) rfl rfl ?_;exact x'.o):G:=h ⟨k⟩
theorem Zkc (k:G') (h:Hid G'→G:=by intro x';refine qr (g:=20) 22 rfl Y17 (by decide) rfl rfl rfl ?_;exact x'.o):G:=h ⟨k⟩
theorem Zkd (k:G') (h:Hid G'→G:=by intro x';refine aq0 23 rfl Y17 (by decide) (fun _=>q16 (v:=.bool _) rfl rfl) ?_;exact x'.o):G:=h ⟨k⟩
theorem Zke (h:G:=by exact q1i Y17 Yv (Out.mk (by (refine congrArg AV.bool ?_;(clear hB hr hr1;(simp_all;done)))) Yb)):G:=h
theorem Zkf (k:G') (h:Hid G'→G:=by intro x';refine q1h (g:=20) 7 rfl Y17 (by decide) rfl rfl (fun _=>qd (v:=.int _ _) rfl) ?_;exact x'.o):G:=h ⟨k⟩
theorem Zkg (k:G') (h:Hid G'→G:=by intro x';refine q1h (g:=20) 8 rfl Y17 (by decide) rfl rfl (fun _=>qjz rfl rfl) ?_;exact x'.o):G:=h ⟨k⟩
theorem Zkh (k:G') (h:Hid G'→G:=by intro x';refine q1h (g:=20) 9 rfl Y17 (by decide) rfl rfl (fun _=>qd (v:=.bool _) rfl) ?_;exact x'.o):G:=h ⟨k⟩
theorem Zki (k:G') (h:Hid G'→G:=by intro x';refine q1h (g:=23) 10 rfl Y17 (by decide) rfl rfl (fun _=>qd (v:=.pl _) rfl) ?_;exact x'.o):G:=h ⟨k⟩
theorem Zkj (k:G') (h:Hid G'→G:=by intro x';refine q1h (g:=23) 11 rfl Y17 (by decide) rfl rfl (fun _=>qd (v:=.int _ _) rfl) ?_;exact x'.o):G:=h ⟨k⟩
theorem Zkk (k:G') (h:Hid G'→G:=by intro x';refine q1j (g:=23) 19 rfl Y17 (by decide) rfl rfl (fun G=>qx rfl (by decide)) ?_;exact x'.o):G:=h ⟨k⟩
theorem Zkl (k:G') (h:Hid G'→G:=by intro x';refine aq0 23 rfl Y17 (by decide) (fun _=>q17 (v:=.bool _) rfl rfl) ?_;exact x'.o):G:=h ⟨k⟩
theorem Zkm (k:G') (h:Hid G'→G:=by intro x';refine qr (g:=23) 10 rfl Y17 (by decide) rfl rfl rfl ?_;exact x'.o):G:=h ⟨k⟩
theorem Zkn (k:G') (h:Hid G'→G:=by intro x';refine qr (g:=23) 11 rfl Y17 (by decide) rfl rfl rfl ?_;exact x'.o):G:=h ⟨k⟩
theorem Zko (k:G') (h:Hid G'→G:=by intro x';refine qr (g:=23) 12 rfl Y17 (by decide) rfl rfl rfl ?_;exact x'.o):G:=h ⟨k⟩
theorem Zkp (k:G') (h:Hid G'→G:=by intro x';refine qr (g:=23) 13 rfl Y17 (by decide) rfl rfl rfl ?_;exact x'.o):G:=h ⟨k⟩
theorem Zkq (k:G') (h:Hid G'→G:=by intro x';refine qr (g:=23) 14 rfl Y17 (by decide) rfl rfl rfl ?_;exact x'.o):G:=h ⟨k⟩
theorem Zkr (k:G') (h:Hid G'→G:=by intro x';refine qr (g:=23) 15 rfl Y17 (by decide) rfl rfl rfl ?_;exact x'.o):G:=h ⟨k⟩
theorem Zks (k:G') (h:Hid G'→G:=by intro x';refine qr (g:=23) 16 rfl Y17 (by decide) rfl rfl rfl ?_;exact x'.o):G:=h ⟨k⟩
theorem Zkt (k:G') (h:Hid G'→G:=by intro x';refine qr (g:=23) 17 rfl Y17 (by decide) rfl rfl rfl ?_;exact x'.o):G:=h ⟨k⟩
theorem Zku (k:G') (h:Hid G'→G:=by intro x';refine qr (g:=23) 18 rfl Y17 (by decide) rfl rfl rfl ?_;exact x'.o):G:=h ⟨k⟩
theorem Zkv (k:G') (h:Hid G'→G:=by intro x';refine qr (g:=23) 19 rfl Y17 (by decide) rfl rfl rfl ?_;exact x'.o):G:=h ⟨k⟩
theorem Zkw (k:G') (h:Hid G'→G:=by intro x';refine qr (g:=23) 20 rfl Y17 (by decide) rfl rfl rfl ?_;exact x'.o):G:=h ⟨k⟩
theorem Zkx (k:G') (h:Hid G'→G:=by intro x';refine qr (g:=23) 21 rfl Y17 (by decide) rfl rfl rfl ?_;exact x'.o):G:=h ⟨k⟩
theorem Zky (k:G') (h:Hid G'→G:=by intro x';refine q1h (g:=20) 22 rfl Y17 (by decide) rfl rfl (fun _=>q17 (v:=.bool _) rfl rfl) ?_;exact x'.o):G:=h ⟨k⟩
theorem Zkz (h:G:=by exact q1i Y17 Yv (Out.mk (by (refine congrArg AV.bool ?_;(clear hB hr;(simp_all;done)))) Yb)):G:=h
theorem Zl0 (k:G') (h:Hid G'→G:=by intro x';refine q48 4 rfl Y17 (by decide) (fun _=>V2.call (qds _ _ Y1d) rfl) ?_;exact x'.o):G:=h ⟨k⟩
theorem Zl1 (k:G') (h:Hid G'→G:=by intro x';refine q2b (g:=23) 22 rfl Y17 (by decide) rfl rfl ?_;exact x'.o):G:=h ⟨k⟩
theorem Zl2 (k:G') (h:Hid G'→G:=by intro x';refine q2b (g:=36) 23 rfl Y17 (by decide) rfl rfl ?_;exact x'.o):G:=h ⟨k⟩
theorem Zl3 (k:G') (h:Hid G'→G:=by intro x';refine q2b (g:=36) 24 rfl Y17 (by decide) rfl rfl ?_;exact x'.o):G:=h ⟨k⟩
theorem Zl4 (k:G') (h:Hid G'→G:=by intro x';refine q2b (g:=36) 25 rfl Y17 (by decide) rfl rfl ?_;exact x'.o):G:=h ⟨k⟩
theorem Zl5 (k:G') (h:Hid G'→G:=by intro x';refine q2b (g:=36) 26 rfl Y17 (by decide) rfl rfl ?_;exact x'.o):G:=h ⟨k⟩
theorem Zl6 (k:G') (h:Hid G'→G:=by intro x';refine q2b (g:=36) 27 rfl Y17 (by decide) rfl rfl ?_;exact x'.o):G:=h ⟨k⟩
theorem Zl7 (k:G') (h:Hid G'→G:=by intro x';refine q2b (g:=36) 28 rfl Y17 (by decide) rfl rfl ?_;exact x'.o):G:=h ⟨k⟩
theorem Zl8 (k:G') (h:Hid G'→G:=by intro x';refine q2b (g:=36) 29 rfl Y17 (by decide) rfl rfl ?_;exact x'.o):G:=h ⟨k⟩
theorem Zl9 (k:G') (h:Hid G'→G:=by intro x';refine q2b (g:=36) 30 rfl Y17 (by decide) rfl rfl ?_;exact x'.o):G:=h ⟨k⟩
theorem Zla (k:G') (h:Hid G'→G:=by intro x';refine q2b (g:=36) 31 rfl Y17 (by decide) rfl rfl ?_;exact x'.o):G:=h ⟨k⟩
theorem Zlb (k:G') (h:Hid G'→G:=by intro x';refine q2b (g:=36) 32 rfl Y17 (by decide) rfl rfl ?_;exact x'.o):G:=h ⟨k⟩
theorem Zlc (k:G') (h:Hid G'→G:=by intro x';refine q2b (g:=36) 33 rfl Y17 (by decide) rfl rfl ?_;exact x'.o):G:=h ⟨k⟩
theorem Zld (k:G') (h:Hid G'→G:=by intro x';refine q2b (g:=36) 34 rfl Y17 (by decide) rfl rfl ?_;exact x'.o):G:=h ⟨k⟩
theorem Zle (k:G') (h:Hid G'→G:=by intro x';refine q2b (g:=23) 35 rfl Y17 (by decide) rfl rfl ?_;exact x'.o):G:=h ⟨k⟩
theorem Zlf (k:G') (h:Hid G'→G:=by intro x';refine qr (g:=20) 36 rfl Y17 (by decide) rfl rfl rfl ?_;exact x'.o):G:=h ⟨k⟩
theorem Zlg (k:G') (h:Hid G'→G:=by intro x';refine aq0 37 rfl Y17 (by decide) (fun _=>q16 (v:=.bool _) rfl rfl) ?_;exact x'.o):G:=h ⟨k⟩
theorem Zlh (k:G') (h:Hid G'→G:=by intro x';refine q1h (g:=20) 36 rfl Y17 (by decide) rfl rfl (fun _=>q16 (v:=.bool _) rfl rfl) ?_;exact x'.o):G:=h ⟨k⟩
theorem Zli (k:G') (h:Hid G'→G:=by intro x';refine aq0 37 rfl Y17 (by decide) (fun _=>q17 (v:=.bool _) rfl rfl) ?_;exact x'.o):G:=h ⟨k⟩
theorem Zlj (k:G') (h:Hid G'→G:=by intro x';refine qr (g:=23) 22 rfl Y17 (by decide) rfl rfl rfl ?_;exact x'.o):G:=h ⟨k⟩
theorem Zlk (k:G') (h:Hid G'→G:=by intro x';refine qr (g:=23) 35 rfl Y17 (by decide) rfl rfl rfl ?_;exact x'.o):G:=h ⟨k⟩
theorem Zll (k:G') (h:Hid G'→G:=by intro x';refine q1h (g:=20) 36 rfl Y17 (by decide) rfl rfl (fun _=>q17 (v:=.bool _) rfl rfl) ?_;exact x'.o):G:=h ⟨k⟩
theorem Zlm (k:G') (h:Hid G'→G:=by intro x';refine ao1 (by decide) (qz (v:=.pl _) rfl hr rfl) ?_;exact x'.o):G:=h ⟨k⟩
theorem Zln (h:G:=by exact qf (Out.mk (by (refine congrArg AV.bool ?_;(simp only [q4g];clear hB;(simp_all;omega)))) Yb)):G:=h
theorem Zlo (k:G') (h:Hid G'→G:=by intro x';refine q13 (qi9 _ (by omega) _) rfl (by decide) ?_;exact x'.o):G:=h ⟨k⟩
theorem Zlp (h:G:=by exact qf (Out.mk (by (refine congrArg AV.bool ?_;(simp only [q27];clear hB;(simp_all;done)))) Yb)):G:=h
theorem Zlq (h:G:=by exact qf (Out.mk (by (refine congrArg AV.bool ?_;(clear hB hs hd hr hx hxl;(simp_all;done)))) Yb)):G:=h
theorem Zlr (k:G') (h:Hid G'→G:=by intro x';refine q2n rfl rfl (by decide) (q5p (r:=((l.length-1:Nat):Int)) rfl rfl (by rw [List.length_map,show (l.length:Int)-1=((l.length-1:Nat):Int) by omega];exact q1b (by omega) (by omega))) ?_;exact x'.o):G:=h ⟨k⟩
theorem Zls (k:G') (h:Hid G'→G:=by intro x';refine ao2 Y11 (qcc (sz:=9) (v:=.agg _) rfl rfl rfl rfl (by decide) rfl) ?_;exact x'.o):G:=h ⟨k⟩
theorem Zlt (k:G') (h:Hid G'→G:=by intro x';refine Z2 ?_;refine Zls ?_;exact x'.o):G:=h ⟨k⟩
theorem Zlu (k:G') (h:Hid G'→G:=by intro x';refine Z7t ?_;refine Z85 ?_;exact x'.o):G:=h ⟨k⟩
theorem Zlv (k:G') (h:Hid G'→G:=by intro x';refine Zlu ?_;refine Zen ?_;exact x'.o):G:=h ⟨k⟩
theorem Zlw (k:G') (h:Hid G'→G:=by intro x';refine ao1 (by decide) (q5y (r:=((qpf (i.jobs.take k)+1:Nat):Int)) rfl rfl (by rw [show (qpf (i.jobs.take k):Int)+1=((qpf (i.jobs.take k)+1:Nat):Int) by omega];exact q1b (by omega) (by omega))) ?_;exact x'.o):G:=h ⟨k⟩
theorem Zlx (k:G') (h:Hid G'→G:=by intro x';(try dsimp only [Nat.reduceAdd,List.length_cons,List.length_nil,put,List.cons_append,List.nil_append,List.set_cons_zero,List.set_cons_succ]);exact x'.o):G:=h ⟨k⟩
theorem Zly (k:G') (h:Hid G'→G:=by intro x';refine q2y mixed none 3 ?_;refine Za9 ?_;exact x'.o):G:=h ⟨k⟩
theorem Zlz (k:G') (h:Hid G'→G:=by intro x';refine aq0 1 rfl Y17 (by decide) (fun _=>q8e rfl) ?_;exact x'.o):G:=h ⟨k⟩
theorem Zm0 (k:G') (h:Hid G'→G:=by intro x';refine qr (g:=49) 10 rfl Y17 (by decide) rfl rfl rfl ?_;exact x'.o):G:=h ⟨k⟩
theorem Zm1 (k:G') (h:Hid G'→G:=by intro x';refine qr (g:=49) 11 rfl Y17 (by decide) rfl rfl rfl ?_;exact x'.o):G:=h ⟨k⟩
theorem Zm2 (k:G') (h:Hid G'→G:=by intro x';refine qr (g:=49) 12 rfl Y17 (by decide) rfl rfl rfl ?_;exact x'.o):G:=h ⟨k⟩
theorem Zm3 (k:G') (h:Hid G'→G:=by intro x';refine qr (g:=49) 13 rfl Y17 (by decide) rfl rfl rfl ?_;exact x'.o):G:=h ⟨k⟩
theorem Zm4 (k:G') (h:Hid G'→G:=by intro x';refine qr (g:=49) 14 rfl Y17 (by decide) rfl rfl rfl ?_;exact x'.o):G:=h ⟨k⟩
theorem Zm5 (k:G') (h:Hid G'→G:=by intro x';refine qr (g:=49) 15 rfl Y17 (by decide) rfl rfl rfl ?_;exact x'.o):G:=h ⟨k⟩
theorem Zm6 (k:G') (h:Hid G'→G:=by intro x';refine qr (g:=49) 16 rfl Y17 (by decide) rfl rfl rfl ?_;exact x'.o):G:=h ⟨k⟩
theorem Zm7 (k:G') (h:Hid G'→G:=by intro x';refine qr (g:=49) 17 rfl Y17 (by decide) rfl rfl rfl ?_;exact x'.o):G:=h ⟨k⟩
theorem Zm8 (k:G') (h:Hid G'→G:=by intro x';refine aq0 18 rfl Y17 (by decide) (fun _=>q16 (v:=.bool _) rfl rfl) ?_;exact x'.o):G:=h ⟨k⟩
theorem Zm9 (k:G') (h:Hid G'→G:=by intro x';refine aq0 19 rfl Y17 (by decide) (fun _=>qd (v:=.bool _) rfl) ?_;exact x'.o):G:=h ⟨k⟩
theorem Zma (k:G') (h:Hid G'→G:=by intro x';refine qr (g:=59) 20 rfl Y17 (by decide) rfl rfl rfl ?_;exact x'.o):G:=h ⟨k⟩
theorem Zmb (k:G') (h:Hid G'→G:=by intro x';refine qr (g:=59) 21 rfl Y17 (by decide) rfl rfl rfl ?_;exact x'.o):G:=h ⟨k⟩
theorem Zmc (k:G') (h:Hid G'→G:=by intro x';refine qr (g:=59) 22 rfl Y17 (by decide) rfl rfl rfl ?_;exact x'.o):G:=h ⟨k⟩
theorem Zmd (k:G') (h:Hid G'→G:=by intro x';refine qr (g:=59) 23 rfl Y17 (by decide) rfl rfl rfl ?_;exact x'.o):G:=h ⟨k⟩
theorem Zme (k:G') (h:Hid G'→G:=by intro x';refine qr (g:=59) 24 rfl Y17 (by decide) rfl rfl rfl ?_;exact x'.o):G:=h ⟨k⟩
theorem Zmf (k:G') (h:Hid G'→G:=by intro x';refine aq0 25 rfl Y17 (by decide) (fun _=>q16 (v:=.bool _) rfl rfl) ?_;exact x'.o):G:=h ⟨k⟩
theorem Zmg (k:G') (h:Hid G'→G:=by intro x';refine aq0 26 rfl Y17 (by decide) (fun _=>qd (v:=.bool _) rfl) ?_;exact x'.o):G:=h ⟨k⟩
theorem Zmh (k:G') (h:Hid G'→G:=by intro x';refine qr (g:=66) 27 rfl Y17 (by decide) rfl rfl rfl ?_;exact x'.o):G:=h ⟨k⟩
theorem Zmi (k:G') (h:Hid G'→G:=by intro x';refine qr (g:=66) 28 rfl Y17 (by decide) rfl rfl rfl ?_;exact x'.o):G:=h ⟨k⟩
theorem Zmj (k:G') (h:Hid G'→G:=by intro x';refine qr (g:=66) 29 rfl Y17 (by decide) rfl rfl rfl ?_;exact x'.o):G:=h ⟨k⟩
theorem Zmk (k:G') (h:Hid G'→G:=by intro x';refine qr (g:=66) 30 rfl Y17 (by decide) rfl rfl rfl ?_;exact x'.o):G:=h ⟨k⟩
theorem Zml (k:G') (h:Hid G'→G:=by intro x';refine qr (g:=66) 31 rfl Y17 (by decide) rfl rfl rfl ?_;exact x'.o):G:=h ⟨k⟩
theorem Zmm (k:G') (h:Hid G'→G:=by intro x';refine qr (g:=66) 32 rfl Y17 (by decide) rfl rfl rfl ?_;exact x'.o):G:=h ⟨k⟩
theorem Zmn (h:G:=by exact q1i Y17 Yv (Out.mk (by (refine congrArg AV.bool ?_;(rw [hB2];clear hB hB2 hno0 hstep hbel hrl;(simp_all;done)))) Yb)):G:=h
theorem Zmo (h:G:=by exact q4d hB (q3t (by refine congrArg AV.bool ?_;rw [Bool.eq_iff_iff];simp;omega) .nil) rfl rfl):G:=h
theorem Zmp (k:G') (h:Hid G'→G:=by intro x';refine q5b rfl rfl (by decide) (V2.call (qct _ _ _ (by omega) (by omega)) rfl) ?_;exact x'.o):G:=h ⟨k⟩
theorem Zmq (k:G') (h:Hid G'→G:=by intro x';refine q5b rfl rfl (by decide) (V2.call (qjt _ _ _) rfl) ?_;exact x'.o):G:=h ⟨k⟩
theorem Zmr (h:G:=by exact qf (Out.mk (by (refine congrArg AV.bool ?_;(clear hB;simp only [tm];(simp_all;done)))) Yb)):G:=h
theorem Zms (h:G:=by exact qf (Out.mk (by (refine congrArg AV.bool ?_;(clear hB;simp only [tm];(simp_all;omega)))) Yb)):G:=h
theorem Zmt (k:G') (h:Hid G'→G:=by intro x';refine q5b rfl rfl (by decide) (V2.call (qf4 _ _ Y1d) rfl) ?_;exact x'.o):G:=h ⟨k⟩
theorem Zmu (h:G:=by exact qf (Out.mk (by (refine congrArg AV.bool ?_;(simp only [q2c];clear hB;(simp_all;done)))) Yb)):G:=h
theorem Zmv (k:G') (h:Hid G'→G:=by intro x';refine q13 (qkq _ _ _ (by omega) (by omega) Y1d) rfl (by decide) ?_;exact x'.o):G:=h ⟨k⟩
theorem Zmw (h:G:=by exact qf (Out.mk (by (refine congrArg AV.bool ?_;(clear hB;simp only [istatic,tm,q4g];generalize q2o i.graph i.health=p at *;generalize q27 i.graph i.lease=q at *;cases p<;>cases q<;>simp only [Bool.not_true,Bool.not_false,Bool.true_and,Bool.false_and,Bool.true_or,Bool.false_or] at *<;>((simp_all;done))))) Yb)):G:=h
theorem Zmx (k:G') (h:Hid G'→G:=by intro x';refine q13 (qkv _ _ (by omega) Y1d) rfl (by decide) ?_;exact x'.o):G:=h ⟨k⟩
theorem Zmy (k:G') (h:Hid G'→G:=by intro x';refine q5b rfl rfl (by decide) (V2.call (qc8 _ _ Y1d) rfl) ?_;exact x'.o):G:=h ⟨k⟩
theorem Zmz (k:G') (h:Hid G'→G:=by intro x';refine aqp 2 rfl Y17 (by decide) (fun G=>qc rfl (lk rfl rfl) rfl (by decide)) ?_;exact x'.o):G:=h ⟨k⟩
theorem Zn0 (k:G') (h:Hid G'→G:=by intro x';refine qr (g:=129) 17 rfl Y17 (by decide) rfl rfl rfl ?_;exact x'.o):G:=h ⟨k⟩
theorem Zn1 (k:G') (h:Hid G'→G:=by intro x';refine qr (g:=129) 18 rfl Y17 (by decide) rfl rfl rfl ?_;exact x'.o):G:=h ⟨k⟩
theorem Zn2 (k:G') (h:Hid G'→G:=by intro x';refine qr (g:=129) 19 rfl Y17 (by decide) rfl rfl rfl ?_;exact x'.o):G:=h ⟨k⟩
theorem Zn3 (k:G') (h:Hid G'→G:=by intro x';refine qr (g:=129) 20 rfl Y17 (by decide) rfl rfl rfl ?_;exact x'.o):G:=h ⟨k⟩
theorem Zn4 (k:G') (h:Hid G'→G:=by intro x';refine qr (g:=129) 21 rfl Y17 (by decide) rfl rfl rfl ?_;exact x'.o):G:=h ⟨k⟩
theorem Zn5 (k:G') (h:Hid G'→G:=by intro x';refine aq0 22 rfl Y17 (by decide) (fun _=>q16 (v:=.bool _) rfl rfl) ?_;exact x'.o):G:=h ⟨k⟩
theorem Zn6 (k:G') (h:Hid G'→G:=by intro x';refine aq0 23 rfl Y17 (by decide) (fun _=>qd (v:=.bool _) rfl) ?_;exact x'.o):G:=h ⟨k⟩
theorem Zn7 (k:G') (h:Hid G'→G:=by intro x';refine qr (g:=136) 24 rfl Y17 (by decide) rfl rfl rfl ?_;exact x'.o):G:=h ⟨k⟩
theorem Zn8 (k:G') (h:Hid G'→G:=by intro x';refine qr (g:=136) 25 rfl Y17 (by decide) rfl rfl rfl ?_;exact x'.o):G:=h ⟨k⟩
theorem Zn9 (k:G') (h:Hid G'→G:=by intro x';refine qr (g:=136) 26 rfl Y17 (by decide) rfl rfl rfl ?_;exact x'.o):G:=h ⟨k⟩
theorem Zna (k:G') (h:Hid G'→G:=by intro x';refine qr (g:=136) 27 rfl Y17 (by decide) rfl rfl rfl ?_;exact x'.o):G:=h ⟨k⟩
theorem Znb (k:G') (h:Hid G'→G:=by intro x';refine qr (g:=136) 28 rfl Y17 (by decide) rfl rfl rfl ?_;exact x'.o):G:=h ⟨k⟩
theorem Znc (k:G') (h:Hid G'→G:=by intro x';refine qr (g:=136) 29 rfl Y17 (by decide) rfl rfl rfl ?_;exact x'.o):G:=h ⟨k⟩
theorem Znd (k:G') (h:Hid G'→G:=by intro x';refine qr (g:=136) 30 rfl Y17 (by decide) rfl rfl rfl ?_;exact x'.o):G:=h ⟨k⟩
theorem Zne (k:G') (h:Hid G'→G:=by intro x';refine qr (g:=136) 31 rfl Y17 (by decide) rfl rfl rfl ?_;exact x'.o):G:=h ⟨k⟩
theorem Znf (k:G') (h:Hid G'→G:=by intro x';refine qr (g:=136) 32 rfl Y17 (by decide) rfl rfl rfl ?_;exact x'.o):G:=h ⟨k⟩
theorem Zng (k:G') (h:Hid G'→G:=by intro x';refine qr (g:=136) 33 rfl Y17 (by decide) rfl rfl rfl ?_;exact x'.o):G:=h ⟨k⟩
theorem Znh (k:G') (h:Hid G'→G:=by intro x';refine qr (g:=136) 34 rfl Y17 (by decide) rfl rfl rfl ?_;exact x'.o):G:=h ⟨k⟩
theorem Zni (k:G') (h:Hid G'→G:=by intro x';refine qr (g:=136) 35 rfl Y17 (by decide) rfl rfl rfl ?_;exact x'.o):G:=h ⟨k⟩
theorem Znj (h:G:=by exact q1i Y17 Yv (Out.mk (by (refine congrArg AV.bool ?_;(rw [hB2];clear hB hB2 hno0 hstep hbel hrl hrx hpn;(simp_all;done)))) Yb)):G:=h
theorem Znk (k:G') (h:Hid G'→G:=by intro x';refine aq0 0 rfl Y17 (by decide) (fun _=>qd (v:=.pt _ _ _ _) rfl) ?_;exact x'.o):G:=h ⟨k⟩
theorem Znl (k:G') (h:Hid G'→G:=by intro x';refine aqp 1 rfl Y17 (by decide) (fun G=>q1g rfl (lkF hF) rfl) ?_;exact x'.o):G:=h ⟨k⟩
theorem Znm (k:G') (h:Hid G'→G:=by intro x';refine aqp 2 rfl Y17 (by decide) (fun G=>qc rfl (lkF hF) rfl (by decide)) ?_;exact x'.o):G:=h ⟨k⟩
theorem Znn (k:G') (h:Hid G'→G:=by intro x';refine aqp 3 rfl Y17 (by decide) (fun G=>qc rfl (lkF hF) rfl (by decide)) ?_;exact x'.o):G:=h ⟨k⟩
theorem Zno (k:G') (h:Hid G'→G:=by intro x';refine aqp 4 rfl Y17 (by decide) (fun G=>qi (v:=.pl _) rfl (lkF hF) rfl rfl rfl) ?_;exact x'.o):G:=h ⟨k⟩
theorem Znp (k:G') (h:Hid G'→G:=by intro x';refine aq0 5 rfl Y17 (by decide) (fun _=>qd (v:=.pt _ _ _ _) rfl) ?_;exact x'.o):G:=h ⟨k⟩
theorem Znq (k:G') (h:Hid G'→G:=by intro x';refine aqp 6 rfl Y17 (by decide) (fun G=>q1g rfl (lkF hF) rfl) ?_;exact x'.o):G:=h ⟨k⟩
theorem Znr (k:G') (h:Hid G'→G:=by intro x';refine aqp 7 rfl Y17 (by decide) (fun G=>qc rfl (lkF hF) rfl (by decide)) ?_;exact x'.o):G:=h ⟨k⟩
theorem Zns (k:G') (h:Hid G'→G:=by intro x';refine aqp 8 rfl Y17 (by decide) (fun G=>qc rfl (lkF hF) rfl (by decide)) ?_;exact x'.o):G:=h ⟨k⟩
theorem Znt (k:G') (h:Hid G'→G:=by intro x';refine aqp 9 rfl Y17 (by decide) (fun G=>qi (v:=.pl _) rfl (lkF hF) rfl rfl rfl) ?_;exact x'.o):G:=h ⟨k⟩
theorem Znu (k:G') (h:Hid G'→G:=by intro x';refine aq0 10 rfl Y17 (by decide) (fun _=>qd (v:=.pt _ _ _ _) rfl) ?_;exact x'.o):G:=h ⟨k⟩
theorem Znv (k:G') (h:Hid G'→G:=by intro x';refine aqp 11 rfl Y17 (by decide) (fun G=>q1g rfl (lkF hF) rfl) ?_;exact x'.o):G:=h ⟨k⟩
theorem Znw (k:G') (h:Hid G'→G:=by intro x';refine aqp 12 rfl Y17 (by decide) (fun G=>qc rfl (lkF hF) rfl (by decide)) ?_;exact x'.o):G:=h ⟨k⟩
theorem Znx (k:G') (h:Hid G'→G:=by intro x';refine aqp 13 rfl Y17 (by decide) (fun G=>qc rfl (lkF hF) rfl (by decide)) ?_;exact x'.o):G:=h ⟨k⟩
theorem Zny (k:G') (h:Hid G'→G:=by intro x';refine aqp 14 rfl Y17 (by decide) (fun G=>qi (v:=.pl _) rfl (lkF hF) rfl rfl rfl) ?_;exact x'.o):G:=h ⟨k⟩
theorem Znz (k:G') (h:Hid G'→G:=by intro x';refine aq0 17 rfl Y17 (by decide) (fun _=>q14 (v:=.pl _) rfl) ?_;exact x'.o):G:=h ⟨k⟩
theorem Zo0 (k:G') (h:Hid G'→G:=by intro x';refine Z1l ?_;refine Z4f ?_;exact x'.o):G:=h ⟨k⟩
theorem Zo1 (k:G') (h:Hid G'→G:=by intro x';refine q13 (qnd _ _ Y1d) rfl (by decide) ?_;exact x'.o):G:=h ⟨k⟩
theorem Zo2 (k:G') (h:Hid G'→G:=by intro x';refine ao1 (by decide) (V1.up (q4i (cs:=[_,_,_,.int _ _,_,_,.int _ _,.int _ _,.int _ _]) rfl)) ?_;exact x'.o):G:=h ⟨k⟩
theorem Zo3 (k:G') (h:Hid G'→G:=by intro x';refine Zo2 ?_;refine Zls ?_;exact x'.o):G:=h ⟨k⟩
theorem Zo4 (k:G') (h:Hid G'→G:=by intro x';refine ao1 (by decide) (q14 (v:=.pt _ _ _ _) rfl) ?_;refine qf ?_;exact x'.o):G:=h ⟨k⟩
theorem Zo5 (k:G') (h:Hid G'→G:=by intro x';refine Zo3 ?_;refine Zo4 ?_;exact x'.o):G:=h ⟨k⟩
theorem Zo6 (k:G') (h:Hid G'→G:=by intro x';refine Zo5 ?_;(try dsimp only [List.length_cons,List.length_nil,Nat.reduceAdd,AV.up,put,AV.cells,List.cons_append,List.nil_append]);exact x'.o):G:=h ⟨k⟩
theorem Zo7 (k:G') (h:Hid G'→G:=by intro x';refine Z1 ?_;refine Zaa ?_;exact x'.o):G:=h ⟨k⟩
theorem Zo8 (k:G') (h:Hid G'→G:=by intro x';refine aq0 2 rfl Y17 (by decide) (fun _=>qd (v:=.pt _ _ _ _) rfl) ?_;exact x'.o):G:=h ⟨k⟩
theorem Zo9 (k:G') (h:Hid G'→G:=by intro x';refine aqp 4 rfl Y17 (by decide) (fun G=>qc rfl (lk rfl rfl) rfl (by decide)) ?_;exact x'.o):G:=h ⟨k⟩
theorem Zoa (k:G') (h:Hid G'→G:=by intro x';refine aqp 5 rfl Y17 (by decide) (fun G=>qc rfl (lk rfl rfl) rfl (by decide)) ?_;exact x'.o):G:=h ⟨k⟩
theorem Zob (k:G') (h:Hid G'→G:=by intro x';refine aqp 6 rfl Y17 (by decide) (fun G=>qi (v:=.pl _) rfl (lk rfl rfl) rfl rfl rfl) ?_;exact x'.o):G:=h ⟨k⟩
theorem Zoc (k:G') (h:Hid G'→G:=by intro x';refine aq0 7 rfl Y17 (by decide) (fun _=>qd (v:=.pt _ _ _ _) rfl) ?_;exact x'.o):G:=h ⟨k⟩
theorem Zod (k:G') (h:Hid G'→G:=by intro x';refine aqp 8 rfl Y17 (by decide) (fun G=>q1g rfl (lk rfl rfl) rfl) ?_;exact x'.o):G:=h ⟨k⟩
theorem Zoe (k:G') (h:Hid G'→G:=by intro x';refine aqp 9 rfl Y17 (by decide) (fun G=>qc rfl (lk rfl rfl) rfl (by decide)) ?_;exact x'.o):G:=h ⟨k⟩
theorem Zof (k:G') (h:Hid G'→G:=by intro x';refine aqp 10 rfl Y17 (by decide) (fun G=>qc rfl (lk rfl rfl) rfl (by decide)) ?_;exact x'.o):G:=h ⟨k⟩
theorem Zog (k:G') (h:Hid G'→G:=by intro x';refine aqp 11 rfl Y17 (by decide) (fun G=>qi (v:=.int _ _) rfl (lk rfl rfl) rfl rfl rfl) ?_;exact x'.o):G:=h ⟨k⟩
theorem Zoh (k:G') (h:Hid G'→G:=by intro x';refine aq0 20 rfl Y17 (by decide) (fun _=>q14 (v:=.pl _) rfl) ?_;exact x'.o):G:=h ⟨k⟩
theorem Zoi (k:G') (h:Hid G'→G:=by intro x';refine ao2 Y11 (q4n (sz:=9) rfl (by decide) rfl) ?_;exact x'.o):G:=h ⟨k⟩
theorem Zoj (k:G') (h:Hid G'→G:=by intro x';refine q13 (q90 _ _ (by omega)) rfl (by decide) ?_;exact x'.o):G:=h ⟨k⟩
theorem Zok (k:G') (h:Hid G'→G:=by intro x';refine ao2 Y1b (q2p (sz:=9) rfl rfl rfl rfl rfl rfl rfl rfl (Nat.le_of_ble_eq_true rfl)) ?_;exact x'.o):G:=h ⟨k⟩
theorem Zol (k:G') (h:Hid G'→G:=by intro x';refine Zok ?_;refine Z4 ?_;exact x'.o):G:=h ⟨k⟩
theorem Zom (k:G') (h:Hid G'→G:=by intro x';refine q13 (qd7 _ _ (by omega)) rfl (by decide) ?_;exact x'.o):G:=h ⟨k⟩
theorem Zon (k:G') (h:Hid G'→G:=by intro x';refine ao1 (by decide) (V1.up (q4i (cs:=[.int _ _,.int _ _,.int _ _,.int _ _,.str _,.bool _,.int _ _,.int _ _,_,.int _ _,.int _ _,.int _ _,.int _ _]) rfl)) ?_;exact x'.o):G:=h ⟨k⟩
theorem Zoo (k:G') (h:Hid G'→G:=by intro x';refine q13 (qjd _ _ Y1d) rfl (by decide) ?_;exact x'.o):G:=h ⟨k⟩
theorem Zop (k:G') (h:Hid G'→G:=by intro x';refine Zb1 ?_;refine Z4b ?_;exact x'.o):G:=h ⟨k⟩
theorem Zoq (k:G') (h:Hid G'→G:=by intro x';refine ao2 Y11 (q30 (sz:=13) (v:=.agg _) rfl (by decide) (by decide) rfl rfl rfl rfl rfl) ?_;exact x'.o):G:=h ⟨k⟩
theorem Zor (k:G') (h:Hid G'→G:=by intro x';refine ao2 Y11 (q5e rfl rfl rfl rfl rfl (qw5 rfl rfl rfl rfl rfl rfl) rfl Y1a (by simp;done) Y1a Y1a) ?_;exact x'.o):G:=h ⟨k⟩
theorem Zos (k:G') (h:Hid G'→G:=by intro x';refine Zb1 ?_;refine Zb4 ?_;exact x'.o):G:=h ⟨k⟩
theorem Zot (k:G') (h:Hid G'→G:=by intro x';refine ao2 Y11 (q30 (sz:=4) (v:=.agg _) rfl (by decide) (by decide) rfl rfl rfl rfl rfl) ?_;exact x'.o):G:=h ⟨k⟩
theorem Zou (k:G') (h:Hid G'→G:=by intro x';refine ao2 Y11 (V2.callo (qk7 l _ hw) rfl rfl) ?_;exact x'.o):G:=h ⟨k⟩
theorem Zov (k:G') (h:Hid G'→G:=by intro x';refine Zos ?_;refine Z4 ?_;exact x'.o):G:=h ⟨k⟩
theorem Zow (k:G') (h:Hid G'→G:=by intro x';refine q81 8 rfl rfl rfl rfl (by simp) (q2t 0 l) ?_;exact x'.o):G:=h ⟨k⟩
theorem Zox (h:G:=by refine q33 ?_;exact Z7r):G:=h
theorem Zoy (k:G') (h:Hid G'→G:=by intro x';refine ao1 (by decide) (q2h rfl (lk rfl rfl) rfl (qm1 hr) rfl) ?_;exact x'.o):G:=h ⟨k⟩
theorem Zoz (k:G') (h:Hid G'→G:=by intro x';refine Z9t ?_;refine Z15 ?_;exact x'.o):G:=h ⟨k⟩
theorem Zp0 (k:G') (h:Hid G'→G:=by intro x';refine ao2 Y1b (q2p (sz:=13) rfl rfl rfl rfl (qm1 hr) rfl rfl rfl (Nat.le_of_ble_eq_true rfl)) ?_;exact x'.o):G:=h ⟨k⟩
theorem Zp1 (k:G') (h:Hid G'→G:=by intro x';refine qu (ys:=(l.set (q11 l id) (jdo x what now).1).map q1d) 8 rfl rfl rfl rfl Yg (by simp) (q2t 0 _) ?_;exact x'.o):G:=h ⟨k⟩
theorem Zp2 (k:G') (h:Hid G'→G:=by intro x';refine ao1 (by decide) (qfk rfl (lkF hF) rfl) ?_;exact x'.o):G:=h ⟨k⟩
theorem Zp3 (k:G') (h:Hid G'→G:=by intro x';refine Zb1 ?_;refine Zb0 ?_;exact x'.o):G:=h ⟨k⟩
theorem Zp4 (k:G') (h:Hid G'→G:=by intro x';refine ao2 Y11 (V2.callo (qf3 l _ hw) rfl rfl) ?_;exact x'.o):G:=h ⟨k⟩
theorem Zp5 (k:G') (h:Hid G'→G:=by intro x';(try dsimp only [List.length_cons,List.length_nil,Nat.reduceAdd,put,List.cons_append,List.nil_append]);exact x'.o):G:=h ⟨k⟩
theorem Zp6 (k:G') (h:Hid G'→G:=by intro x';refine q81 4 rfl rfl rfl rfl (by simp) (q1e 0 l) ?_;exact x'.o):G:=h ⟨k⟩
theorem Zp7 (h:G:=by exact q4d hB (q3t rfl (q7h rfl (lk rfl rfl) rfl rfl rfl (q3t rfl .nil))) rfl rfl):G:=h
theorem Zp8 (k:G') (h:Hid G'→G:=by intro x';(try dsimp only [put,List.set_cons_succ,List.set_cons_zero]);exact x'.o):G:=h ⟨k⟩
theorem Zp9 (k:G') (h:Hid G'→G:=by intro x';refine ao1 (by decide) (qd (v:=.pt _ _ _ _) rfl) ?_;exact x'.o):G:=h ⟨k⟩
theorem Zpa (k:G') (h:Hid G'→G:=by intro x';refine Z2 ?_;refine Zp9 ?_;exact x'.o):G:=h ⟨k⟩
theorem Zpb (k:G') (h:Hid G'→G:=by intro x';refine ao1 (by decide) (qc rfl (lkF hF) rfl (by decide)) ?_;exact x'.o):G:=h ⟨k⟩
theorem Zpc (k:G') (h:Hid G'→G:=by intro x';refine ao1 (by decide) (q1g rfl (lkF hF) rfl) ?_;refine Zpb ?_;exact x'.o):G:=h ⟨k⟩
theorem Zpd (k:G') (h:Hid G'→G:=by intro x';refine Zpc ?_;refine Zpb ?_;exact x'.o):G:=h ⟨k⟩
theorem Zpe (k:G') (h:Hid G'→G:=by intro x';refine ao1 (by decide) (qi (v:=.pl _) rfl (lkF hF) rfl rfl rfl) ?_;exact x'.o):G:=h ⟨k⟩
theorem Zpf (k:G') (h:Hid G'→G:=by intro x';refine Zpd ?_;refine Zpe ?_;exact x'.o):G:=h ⟨k⟩
theorem Zpg (k:G') (h:Hid G'→G:=by intro x';refine ao1 (by decide) (q1m (v:=.pl _) rfl rfl) ?_;exact x'.o):G:=h ⟨k⟩
theorem Zph (k:G') (h:Hid G'→G:=by intro x';refine Z8d ?_;refine Zpg ?_;exact x'.o):G:=h ⟨k⟩
theorem Zpi (k:G') (h:Hid G'→G:=by intro x';refine Zph ?_;refine Z15 ?_;exact x'.o):G:=h ⟨k⟩
theorem Zpj (k:G') (h:Hid G'→G:=by intro x';refine Zpi ?_;refine Z4w ?_;exact x'.o):G:=h ⟨k⟩
theorem Zpk (k:G') (h:Hid G'→G:=by intro x';refine Zpj ?_;refine Z4 ?_;exact x'.o):G:=h ⟨k⟩
theorem Zpl (k:G') (h:Hid G'→G:=by intro x';refine q13 (qcz _ _ _ Y1d) rfl (by decide) ?_;exact x'.o):G:=h ⟨k⟩
theorem Zpm (k:G') (h:Hid G'→G:=by intro x';refine ao2 Y11 (V2.freeze1 (V2.call (qf3 l _ hw) rfl) rfl (by simp) (q1e 0 l)) ?_;exact x'.o):G:=h ⟨k⟩
theorem Zpn (k:G') (h:Hid G'→G:=by intro x';refine Zcq ?_;refine Z4b ?_;exact x'.o):G:=h ⟨k⟩
theorem Zpo (k:G') (h:Hid G'→G:=by intro x';refine Zot ?_;refine Zb7 ?_;exact x'.o):G:=h ⟨k⟩
theorem Zpp (k:G') (h:Hid G'→G:=by intro x';refine Zlt ?_;refine Zoi ?_;exact x'.o):G:=h ⟨k⟩
theorem Zpq (k:G') (h:Hid G'→G:=by intro x';refine aqp 3 rfl Y17 (by decide) (fun G=>qc rfl (lk rfl rfl) rfl (by decide)) ?_;exact x'.o):G:=h ⟨k⟩
theorem Zpr (k:G') (h:Hid G'→G:=by intro x';refine aqp 4 rfl Y17 (by decide) (fun G=>qi (v:=.pl _) rfl (lk rfl rfl) rfl rfl rfl) ?_;exact x'.o):G:=h ⟨k⟩
theorem Zps (k:G') (h:Hid G'→G:=by intro x';refine aqp 6 rfl Y17 (by decide) (fun G=>qc rfl (lk rfl rfl) rfl (by decide)) ?_;exact x'.o):G:=h ⟨k⟩
theorem Zpt (k:G') (h:Hid G'→G:=by intro x';refine aqp 11 rfl Y17 (by decide) (fun G=>qc rfl (lk rfl rfl) rfl (by decide)) ?_;exact x'.o):G:=h ⟨k⟩
theorem Zpu (k:G') (h:Hid G'→G:=by intro x';refine aqp 13 rfl Y17 (by decide) (fun G=>qc rfl (lk rfl rfl) rfl (by decide)) ?_;exact x'.o):G:=h ⟨k⟩
theorem Zpv (k:G') (h:Hid G'→G:=by intro x';(try dsimp only [Nat.reduceAdd,List.cons_append,List.nil_append]);exact x'.o):G:=h ⟨k⟩
theorem Zpw (k:G') (h:Hid G'→G:=by intro x';refine qf ?_;(try dsimp only [put,Nat.reduceAdd,List.set_cons_zero,List.set_cons_succ]);exact x'.o):G:=h ⟨k⟩
theorem Zpx (k:G') (h:Hid G'→G:=by intro x';refine Z36 ?_;refine ao2 Y1b (q25 (sz:=1) (v:=.pl _) (r':=[_,_,_,_,_,_,_,_,_]) rfl rfl rfl rfl rfl rfl rfl rfl (Nat.le_of_ble_eq_true rfl) rfl) ?_;exact x'.o):G:=h ⟨k⟩
theorem Zpy (k:G') (h:Hid G'→G:=by intro x';(try dsimp only [put,Nat.reduceAdd,List.set_cons_succ,List.set_cons_zero]);exact x'.o):G:=h ⟨k⟩
theorem Zpz (k:G') (h:Hid G'→G:=by intro x';refine Z32 ?_;refine Z4k ?_;exact x'.o):G:=h ⟨k⟩
theorem Zq0 (k:G') (h:Hid G'→G:=by intro x';(try dsimp only [put,List.length_cons,List.length_nil,Nat.reduceAdd,AV.up,List.cons_append,List.nil_append,List.set_cons_zero,List.set_cons_succ]);exact x'.o):G:=h ⟨k⟩
theorem Zq1 (k:G') (h:Hid G'→G:=by intro x';refine ao1 (by decide) (q5p (r:=((l.length-1:Nat):Int)) rfl rfl (by rw [List.length_map,show (l.length:Int)-1=((l.length-1:Nat):Int) by omega];exact q1b (by omega) (by omega))) ?_;exact x'.o):G:=h ⟨k⟩
theorem Zq2 (h:G:=by exact qf (Out.mk (by (refine congrArg AV.bool ?_;(clear hB hlast;simp only [tm] at *;(simp_all;done)))) Yb)):G:=h
theorem Zq3 (k:G') (h:Hid G'→G:=by intro x';refine qu (ys:=l.map q1d) 8 rfl rfl rfl rfl Yg (by simp) (q2t 0 _) ?_;exact x'.o):G:=h ⟨k⟩
theorem Zq4 (h:G:=by exact q4d hB (q3t rfl (q3t rfl (q3t rfl .nil))) rfl rfl):G:=h
theorem Zq5 (h:G:=by refine q33 ?_;exact Zq4):G:=h
theorem Zq6 (k:G') (h:Hid G'→G:=by intro x';refine aq0 9 rfl Y17 (by decide) (fun _=>qd (v:=.int _ _) rfl) ?_;exact x'.o):G:=h ⟨k⟩
theorem Zq7 (k:G') (h:Hid G'→G:=by intro x';refine aq0 12 rfl Y17 (by decide) (fun _=>q14 (v:=.int _ _) rfl) ?_;exact x'.o):G:=h ⟨k⟩
theorem Zq8 (k:G') (h:Hid G'→G:=by intro x';(try dsimp only [List.length_cons,List.length_nil,Nat.reduceAdd,AV.up,put,List.set_cons_succ,List.set_cons_zero]);exact x'.o):G:=h ⟨k⟩
theorem Zq9 (k:G') (h:Hid G'→G:=by intro x';refine qu (ys:=h.map eI) 8 rfl rfl rfl rfl Yg (by simp) (qcl 0 _) ?_;exact x'.o):G:=h ⟨k⟩
theorem Zqa (k:G') (h:Hid G'→G:=by intro x';refine Z1 ?_;refine Zd5 ?_;exact x'.o):G:=h ⟨k⟩
theorem Zqb (k:G') (h:Hid G'→G:=by intro x';refine aq0 1 rfl Y17 (by decide) (fun _=>qd (v:=.pl _) rfl) ?_;exact x'.o):G:=h ⟨k⟩
theorem Zqc (k:G') (h:Hid G'→G:=by intro x';refine aqp 2 rfl Y17 (by decide) (fun G=>qfg rfl) ?_;exact x'.o):G:=h ⟨k⟩
theorem Zqd (k:G') (h:Hid G'→G:=by intro x';refine aqp 7 rfl Y17 (by decide) (fun G=>q2h rfl (lk rfl rfl) rfl rfl rfl) ?_;exact x'.o):G:=h ⟨k⟩
theorem Zqe (k:G') (h:Hid G'→G:=by intro x';refine aq0 8 rfl Y17 (by decide) (fun _=>V1.up (q4i (cs:=[_,_,_,.int _ _,.int _ _,.int _ _,.str _,.bool _,.int _ _,.int _ _]) rfl)) ?_;exact x'.o):G:=h ⟨k⟩
theorem Zqf (k:G') (h:Hid G'→G:=by intro x';refine aqs 9 rfl Y17 Yv Y11 (qcc (sz:=10) (v:=.agg _) rfl rfl rfl rfl (by decide) rfl) ?_;exact x'.o):G:=h ⟨k⟩
theorem Zqg (k:G') (h:Hid G'→G:=by intro x';refine aq0 10 rfl Y17 (by decide) (fun _=>q14 (v:=.pt _ _ _ _) rfl) ?_;exact x'.o):G:=h ⟨k⟩
theorem Zqh (k:G') (h:Hid G'→G:=by intro x';(try dsimp only [List.length_cons,List.length_nil,Nat.reduceAdd,List.cons_append,List.nil_append,put,AV.up,AV.cells]);exact x'.o):G:=h ⟨k⟩
theorem Zqi (k:G') (h:Hid G'→G:=by intro x';refine Zu ?_;refine qf ?_;exact x'.o):G:=h ⟨k⟩
theorem Zqj (k:G') (h:Hid G'→G:=by intro x';refine ao1 (by decide) (q1g rfl (lk rfl rfl) rfl) ?_;refine Z36 ?_;exact x'.o):G:=h ⟨k⟩
theorem Zqk (k:G') (h:Hid G'→G:=by intro x';refine ao1 (by decide) (qi (v:=.sl _ _ _ _ _) rfl (lk rfl rfl) rfl rfl rfl) ?_;exact x'.o):G:=h ⟨k⟩
theorem Zql (k:G') (h:Hid G'→G:=by intro x';refine ao2 Y1b (q25 (sz:=1) (v:=.bool true) (r':=[.bool true]) rfl rfl rfl rfl hrow rfl rfl rfl (Nat.le_refl 1) rfl) ?_;exact x'.o):G:=h ⟨k⟩
theorem Zqm (k:G') (h:Hid G'→G:=by intro x';refine qu7 (M++[]) (by rw [← hM,List.append_nil];rfl) ?_;exact x'.o):G:=h ⟨k⟩
theorem Zqn (k:G') (h:Hid G'→G:=by intro x';refine quf mixed (some 18) 1 hF hK ?_;exact x'.o):G:=h ⟨k⟩
theorem Zqo (k:G') (h:Hid G'→G:=by intro x';refine qk9 1 rfl Y17 (by decide) (fun M G hn hp hp2=>q1g rfl (lkF hp) rfl) ?_;exact x'.o):G:=h ⟨k⟩
theorem Zqp (k:G') (h:Hid G'→G:=by intro x';refine qk9 2 rfl Y17 (by decide) (fun M G hn hp hp2=>qc rfl (lkF hp) rfl (by decide)) ?_;exact x'.o):G:=h ⟨k⟩
theorem Zqq (k:G') (h:Hid G'→G:=by intro x';refine qk9 4 rfl Y17 (by decide) (fun M G hn hp hp2=>qc rfl (lk hn rfl) rfl (by decide)) ?_;exact x'.o):G:=h ⟨k⟩
theorem Zqr (k:G') (h:Hid G'→G:=by intro x';refine qk9 5 rfl Y17 (by decide) (fun M G hn hp hp2=>qi (v:=.int _ _) rfl (lk hn rfl) rfl rfl rfl) ?_;exact x'.o):G:=h ⟨k⟩
theorem Zqs (k:G') (h:Hid G'→G:=by intro x';refine aq0 6 rfl Y17 (by decide) (fun _=>qd (v:=.pt _ _ _ _) rfl) ?_;exact x'.o):G:=h ⟨k⟩
theorem Zqt (k:G') (h:Hid G'→G:=by intro x';refine qk9 7 rfl Y17 (by decide) (fun M G hn hp hp2=>q1g rfl (lkF hp) rfl) ?_;exact x'.o):G:=h ⟨k⟩
theorem Zqu (k:G') (h:Hid G'→G:=by intro x';refine qk9 8 rfl Y17 (by decide) (fun M G hn hp hp2=>qc rfl (lkF hp) rfl (by decide)) ?_;exact x'.o):G:=h ⟨k⟩
theorem Zqv (k:G') (h:Hid G'→G:=by intro x';refine qk9 10 rfl Y17 (by decide) (fun M G hn hp hp2=>qc rfl (lk hn rfl) rfl (by decide)) ?_;exact x'.o):G:=h ⟨k⟩
theorem Zqw (k:G') (h:Hid G'→G:=by intro x';refine qk9 11 rfl Y17 (by decide) (fun M G hn hp hp2=>qi (v:=.int _ _) rfl (lk hn rfl) rfl rfl rfl) ?_;exact x'.o):G:=h ⟨k⟩
theorem Zqx (k:G') (h:Hid G'→G:=by intro x';refine qk9 12 rfl Y17 (by decide) (fun M G hn hp hp2=>q2a rfl (lkF hp2) rfl rfl rfl (by omega)) ?_;exact x'.o):G:=h ⟨k⟩
theorem Zqy (k:G') (h:Hid G'→G:=by intro x';refine qk9 13 rfl Y17 (by decide) (fun M G hn hp hp2=>qi (v:=.sl _ _ _ _ _) rfl (lkF hp2) rfl (qm1 hcell) rfl) ?_;exact x'.o):G:=h ⟨k⟩
theorem Zqz (k:G') (h:Hid G'→G:=by intro x';refine aq0 14 rfl Y17 (by decide) (fun _=>qd (v:=.int _ _) rfl) ?_;exact x'.o):G:=h ⟨k⟩
theorem Zr0 (k:G') (h:Hid G'→G:=by intro x';refine q48 15 rfl Y17 (by decide) (fun _=>qbc (sz:=1) (v:=.int .i64 (i:Int)) (cs:=[.int .i64 (i:Int)]) rfl (by decide) (by decide) rfl rfl rfl rfl rfl) ?_;exact x'.o):G:=h ⟨k⟩
theorem Zr1 (k:G') (h:Hid G'→G:=by intro x';refine aqs 16 rfl Y17 (by exact fun _=>⟨_,_,rfl,rfl,hF,hK⟩) Y11 (qcx ((q37 g i u).length+1) rfl hR rfl rfl (Src.pl (ys:=[[.int .i64 (i:Int)]]) rfl Yd) rfl (by (simp;done)) Y1a Y1a (by (simp;done))) ?_;exact x'.o):G:=h ⟨k⟩
theorem Zr2 (k:G') (h:Hid G'→G:=by intro x';refine qk9 17 rfl Y17 (by decide) (fun M G hn hp hp2=>q2a rfl (lkF hp2) rfl rfl rfl (by omega)) ?_;exact x'.o):G:=h ⟨k⟩
theorem Zr3 (k:G') (h:Hid G'→G:=by intro x';refine aqs 18 rfl Y17 (by exact fun _=>⟨_,_,rfl,by simp,hF3,hK3⟩) Y1b (q6e (sz:=1) (v:=.sl _ _ _ _ _) (r':=[.sl (H.length+(u+4)) ((q37 g i u).length+1) 0 ((q37 g i u).length+1) ((q37 g i u).length+1)]) rfl hK3 rfl (qm1 hcell) rfl rfl rfl (Nat.le_refl 1) rfl) ?_;exact x'.o):G:=h ⟨k⟩
theorem Zr4 (k:G') (h:Hid G'→G:=by intro x';(try dsimp only [put,Nat.reduceAdd,List.length_cons,List.length_nil]);exact x'.o):G:=h ⟨k⟩
theorem Zr5 (k:G') (h:Hid G'→G:=by intro x';refine ao1 (by decide) (qe rfl rfl hkr rfl) ?_;exact x'.o):G:=h ⟨k⟩
theorem Zr6 (k:G') (h:Hid G'→G:=by intro x';refine ao1 (by decide) (qz (v:=.pl _) rfl hkr rfl) ?_;exact x'.o):G:=h ⟨k⟩
theorem Zr7 (k:G') (h:Hid G'→G:=by intro x';(try dsimp only [Nat.reduceAdd,List.nil_append]);exact x'.o):G:=h ⟨k⟩
theorem Zr8 (k:G') (h:Hid G'→G:=by intro x';refine ao1 (by decide) (qfk rfl (lk rfl rfl) rfl) ?_;exact x'.o):G:=h ⟨k⟩
theorem Zr9 (k:G') (h:Hid G'→G:=by intro x';refine q2n rfl rfl (by decide) (qd (v:=.pt _ _ _ _) rfl) ?_;exact x'.o):G:=h ⟨k⟩
theorem Zra (k:G') (h:Hid G'→G:=by intro x';refine q2n rfl rfl (by decide) (q1g rfl (lkF hF) rfl) ?_;exact x'.o):G:=h ⟨k⟩
theorem Zrb (k:G') (h:Hid G'→G:=by intro x';refine q2n rfl rfl (by decide) (qc rfl (lkF hF) rfl (by decide)) ?_;exact x'.o):G:=h ⟨k⟩
theorem Zrc (k:G') (h:Hid G'→G:=by intro x';refine q2n rfl rfl (by decide) (qx rfl (by decide)) ?_;exact x'.o):G:=h ⟨k⟩
theorem Zrd (k:G') (h:Hid G'→G:=by intro x';refine Z4l ?_;refine Z1q ?_;exact x'.o):G:=h ⟨k⟩
theorem Zre (k:G') (h:Hid G'→G:=by intro x';refine aq0 2 rfl Y17 (by decide) (fun _=>qpe rfl rfl) ?_;exact x'.o):G:=h ⟨k⟩
theorem Zrf (k:G') (h:Hid G'→G:=by intro x';refine qr (g:=21) 4 rfl Y17 (by decide) rfl rfl rfl ?_;exact x'.o):G:=h ⟨k⟩
theorem Zrg (k:G') (h:Hid G'→G:=by intro x';refine qr (g:=21) 5 rfl Y17 (by decide) rfl rfl rfl ?_;exact x'.o):G:=h ⟨k⟩
theorem Zrh (k:G') (h:Hid G'→G:=by intro x';refine qr (g:=21) 6 rfl Y17 (by decide) rfl rfl rfl ?_;exact x'.o):G:=h ⟨k⟩
theorem Zri (k:G') (h:Hid G'→G:=by intro x';refine aq0 12 rfl Y17 (by decide) (fun _=>q16 (v:=.bool _) rfl rfl) ?_;exact x'.o):G:=h ⟨k⟩
theorem Zrj (k:G') (h:Hid G'→G:=by intro x';refine aq0 13 rfl Y17 (by decide) (fun _=>qd (v:=.bool _) rfl) ?_;exact x'.o):G:=h ⟨k⟩
theorem Zrk (k:G') (h:Hid G'→G:=by intro x';refine qr (g:=31) 14 rfl Y17 (by decide) rfl rfl rfl ?_;exact x'.o):G:=h ⟨k⟩
theorem Zrl (k:G') (h:Hid G'→G:=by intro x';refine qr (g:=31) 15 rfl Y17 (by decide) rfl rfl rfl ?_;exact x'.o):G:=h ⟨k⟩
theorem Zrm (k:G') (h:Hid G'→G:=by intro x';refine qr (g:=31) 16 rfl Y17 (by decide) rfl rfl rfl ?_;exact x'.o):G:=h ⟨k⟩
theorem Zrn (k:G') (h:Hid G'→G:=by intro x';refine qr (g:=31) 17 rfl Y17 (by decide) rfl rfl rfl ?_;exact x'.o):G:=h ⟨k⟩
theorem Zro (k:G') (h:Hid G'→G:=by intro x';refine qr (g:=31) 18 rfl Y17 (by decide) rfl rfl rfl ?_;exact x'.o):G:=h ⟨k⟩
theorem Zrp (k:G') (h:Hid G'→G:=by intro x';refine qr (g:=31) 19 rfl Y17 (by decide) rfl rfl rfl ?_;exact x'.o):G:=h ⟨k⟩
theorem Zrq (k:G') (h:Hid G'→G:=by intro x';refine qr (g:=31) 20 rfl Y17 (by decide) rfl rfl rfl ?_;exact x'.o):G:=h ⟨k⟩
theorem Zrr (k:G') (h:Hid G'→G:=by intro x';refine q2b (g:=38) 21 rfl Y17 (by decide) rfl rfl ?_;exact x'.o):G:=h ⟨k⟩
theorem Zrs (k:G') (h:Hid G'→G:=by intro x';refine q2b (g:=38) 22 rfl Y17 (by decide) rfl rfl ?_;exact x'.o):G:=h ⟨k⟩
theorem Zrt (k:G') (h:Hid G'→G:=by intro x';refine q2b (g:=38) 23 rfl Y17 (by decide) rfl rfl ?_;exact x'.o):G:=h ⟨k⟩
theorem Zru (k:G') (h:Hid G'→G:=by intro x';refine q2b (g:=38) 24 rfl Y17 (by decide) rfl rfl ?_;exact x'.o):G:=h ⟨k⟩
theorem Zrv (k:G') (h:Hid G'→G:=by intro x';refine q2b (g:=38) 25 rfl Y17 (by decide) rfl rfl ?_;exact x'.o):G:=h ⟨k⟩
theorem Zrw (k:G') (h:Hid G'→G:=by intro x';refine q2b (g:=38) 26 rfl Y17 (by decide) rfl rfl ?_;exact x'.o):G:=h ⟨k⟩
theorem Zrx (k:G') (h:Hid G'→G:=by intro x';refine q2b (g:=38) 27 rfl Y17 (by decide) rfl rfl ?_;exact x'.o):G:=h ⟨k⟩
theorem Zry (k:G') (h:Hid G'→G:=by intro x';refine q2b (g:=38) 28 rfl Y17 (by decide) rfl rfl ?_;exact x'.o):G:=h ⟨k⟩
theorem Zrz (k:G') (h:Hid G'→G:=by intro x';refine qr (g:=31) 29 rfl Y17 (by decide) rfl rfl rfl ?_;exact x'.o):G:=h ⟨k⟩
theorem Zs0 (k:G') (h:Hid G'→G:=by intro x';refine aq0 30 rfl Y17 (by decide) (fun _=>q16 (v:=.bool _) rfl rfl) ?_;exact x'.o):G:=h ⟨k⟩
theorem Zs1 (h:G:=by exact q1i Y17 Yv (Out.mk (by (refine congrArg AV.bool ?_;(clear hB hmem hkr hrT hrI;(simp_all;done)))) Yb)):G:=h
theorem Zs2 (k:G') (h:Hid G'→G:=by intro x';refine aq0 12 rfl Y17 (by decide) (fun _=>q17 (v:=.bool _) rfl rfl) ?_;exact x'.o):G:=h ⟨k⟩
theorem Zs3 (k:G') (h:Hid G'→G:=by intro x';refine aq0 30 rfl Y17 (by decide) (fun _=>q17 (v:=.bool _) rfl rfl) ?_;exact x'.o):G:=h ⟨k⟩
theorem Zs4 (k:G') (h:Hid G'→G:=by intro x';refine aqp 4 rfl Y17 (by decide) (fun G=>qc rfl (lkF hF) rfl (by decide)) ?_;exact x'.o):G:=h ⟨k⟩
theorem Zs5 (k:G') (h:Hid G'→G:=by intro x';refine aq0 16 rfl Y17 (by decide) (fun _=>q14 (v:=.pl _) rfl) ?_;exact x'.o):G:=h ⟨k⟩
theorem Zs6 (k:G') (h:Hid G'→G:=by intro x';refine Z4w ?_;refine Z1q ?_;exact x'.o):G:=h ⟨k⟩
theorem Zs7 (k:G') (h:Hid G'→G:=by intro x';refine ao1 (by decide) (qi (v:=.pl (qpg g)) rfl (lkF hF) rfl rfl rfl) ?_;exact x'.o):G:=h ⟨k⟩
theorem Zs8 (h:G:=by exact qf (Out.mk (by (refine congrArg AV.bool ?_;(simp only [qnp];clear hB;(simp_all;done)))) Yb)):G:=h
theorem Zs9 (k:G') (h:Hid G'→G:=by intro x';refine Z8f ?_;refine Zs6 ?_;exact x'.o):G:=h ⟨k⟩
theorem Zsa (k:G') (h:Hid G'→G:=by intro x';refine Zph ?_;refine Zs9 ?_;exact x'.o):G:=h ⟨k⟩
theorem Zsb (k:G') (h:Hid G'→G:=by intro x';refine aq0 5 rfl Y17 (by decide) (fun _=>qd (v:=.tup _) rfl) ?_;exact x'.o):G:=h ⟨k⟩
theorem Zsc (k:G') (h:Hid G'→G:=by intro x';refine aq0 8 rfl Y17 (by decide) (fun _=>q14 (v:=.pl _) rfl) ?_;exact x'.o):G:=h ⟨k⟩
theorem Zsd (k:G') (h:Hid G'→G:=by intro x';refine ao2 Y11 (V2.callv (hcall _) rfl rfl) ?_;exact x'.o):G:=h ⟨k⟩
theorem Zse (h:G:=by exact qf (Out.mk (by (refine congrArg AV.bool ?_;(clear hB hrow hr;(simp_all;done)))) Yb)):G:=h
theorem Zsf (k:G') (h:Hid G'→G:=by intro x';refine q2n rfl rfl (by decide) (qi (v:=.pl _) rfl (lkF hb) rfl rfl rfl) ?_;exact x'.o):G:=h ⟨k⟩
theorem Zsg (k:G') (h:Hid G'→G:=by intro x';refine ao2 Y11 (qcc (sz:=1) (v:=.pl _) rfl rfl rfl rfl (by decide) rfl) ?_;exact x'.o):G:=h ⟨k⟩
theorem Zsh (k:G') (h:Hid G'→G:=by intro x';refine ao2 Y11 (q38 (n:=l.length) (c:=l.length) (bytes:=1) rfl (by decide) (congrArg (fun k:Nat=>AV.int .i64 (k:Int)) hml) (congrArg (fun k:Nat=>AV.int .i64 (k:Int)) hml) (Nat.le_refl _) (by omega) (by omega) rfl) ?_;exact x'.o):G:=h ⟨k⟩
theorem Zsi (k:G') (h:Hid G'→G:=by intro x';refine ao2 Y11 (q4n (sz:=1) rfl (by decide) rfl) ?_;exact x'.o):G:=h ⟨k⟩
theorem Zsj (k:G') (h:Hid G'→G:=by intro x';refine q2n rfl rfl (by decide) (qa9 (vs:=[]) (us:=[_]) rfl rfl) ?_;exact x'.o):G:=h ⟨k⟩
theorem Zsk (k:G') (h:Hid G'→G:=by intro x';refine aq0 2 rfl Y17 (by decide) (fun _=>qjz rfl rfl) ?_;exact x'.o):G:=h ⟨k⟩
theorem Zsl (k:G') (h:Hid G'→G:=by intro x';refine aq0 16 rfl Y17 (by decide) (fun _=>q17 (v:=.bool _) rfl rfl) ?_;exact x'.o):G:=h ⟨k⟩
theorem Zsm (k:G') (h:Hid G'→G:=by intro x';refine q2y mixed none 0 ?_;exact x'.o):G:=h ⟨k⟩
theorem Zsn (k:G') (h:Hid G'→G:=by intro x';(try dsimp only [List.take_zero]);exact x'.o):G:=h ⟨k⟩
theorem Zso (k:G') (h:Hid G'→G:=by intro x';refine aq0 5 rfl Y17 (by decide) (fun _=>qd (v:=.sl _ _ _ _ _) rfl) ?_;exact x'.o):G:=h ⟨k⟩
theorem Zsp (k:G') (h:Hid G'→G:=by intro x';refine aq0 6 rfl Y17 (by decide) (fun _=>qd (v:=.int _ _) rfl) ?_;exact x'.o):G:=h ⟨k⟩
theorem Zsq (k:G') (h:Hid G'→G:=by intro x';refine aq0 11 rfl Y17 (by decide) (fun _=>qd (v:=.int _ _) rfl) ?_;exact x'.o):G:=h ⟨k⟩
theorem Zsr (h:G:=by exact qf (Out.mk (by (refine congrArg AV.bool ?_;(unfold q52;clear hB hbf hst hr;(simp_all;done)))) Yb)):G:=h
theorem Zss (k:G') (h:Hid G'→G:=by intro x';(try dsimp only [List.length_cons,List.length_nil,Nat.reduceAdd,put,List.set_cons_succ,List.set_cons_zero]);exact x'.o):G:=h ⟨k⟩
theorem Zst (k:G') (h:Hid G'→G:=by intro x';refine ao1 (by decide) (q4z rfl (lkF hF) rfl rfl (.some rfl rfl) .none (by omega) (by omega)) ?_;exact x'.o):G:=h ⟨k⟩
theorem Zsu (k:G') (h:Hid G'→G:=by intro x';refine q2y mixed (some 8) 999 ?_;exact x'.o):G:=h ⟨k⟩
theorem Zsv (k:G') (h:Hid G'→G:=by intro x';refine qv9 [4,3] 3 rfl Y17 (by decide) (fun G=>q5y (r:=((i+1:Nat):Int)) rfl rfl (by rw [show (i:Int)+((1:Nat):Int)=((i+1:Nat):Int) by omega];exact q1b (by omega) (by omega))) ?_;exact x'.o):G:=h ⟨k⟩
theorem Zsw (k:G') (h:Hid G'→G:=by intro x';refine aqp 7 rfl Y17 (by decide) (fun G=>q4z rfl (lkF hF) rfl rfl (.some rfl rfl) .none (by omega) (by omega)) ?_;exact x'.o):G:=h ⟨k⟩
theorem Zsx (k:G') (h:Hid G'→G:=by intro x';refine Z4k ?_;refine Z4 ?_;exact x'.o):G:=h ⟨k⟩
theorem Zsy (k:G') (h:Hid G'→G:=by intro x';refine q22 (k:=0) 5 1 rfl (by decide) rfl ?_;exact x'.o):G:=h ⟨k⟩
theorem Zsz (k:G') (h:Hid G'→G:=by intro x';(try dsimp only [List.length_cons,List.length_nil,Nat.reduceAdd,put,List.set_cons_zero]);exact x'.o):G:=h ⟨k⟩
theorem Zt0 (k:G') (h:Hid G'→G:=by intro x';refine Z4c ?_;refine Z8 ?_;exact x'.o):G:=h ⟨k⟩
theorem Zt1 (h:G:=by exact qf (Out.mk (by (refine congrArg AV.bool ?_;(simp only [tm];clear hB;(simp_all;done)))) Yb)):G:=h
theorem Zt2 (k:G') (h:Hid G'→G:=by intro x';refine Zj ?_;refine Z43 ?_;exact x'.o):G:=h ⟨k⟩
theorem Zt3 (k:G') (h:Hid G'→G:=by intro x';refine aq0 2 rfl Y17 (by decide) (fun _=>qd (v:=.pl _) rfl) ?_;exact x'.o):G:=h ⟨k⟩
theorem Zt4 (k:G') (h:Hid G'→G:=by intro x';refine aq0 9 rfl Y17 (by decide) (fun _=>q1m (v:=.pl _) rfl rfl) ?_;exact x'.o):G:=h ⟨k⟩
theorem Zt5 (k:G') (h:Hid G'→G:=by intro x';refine aq0 11 rfl Y17 (by decide) (fun _=>q14 (v:=.pl _) rfl) ?_;exact x'.o):G:=h ⟨k⟩
theorem Zt6 (k:G') (h:Hid G'→G:=by intro x';refine q22 (k:=0) 19 4 rfl (by decide) rfl ?_;exact x'.o):G:=h ⟨k⟩
theorem Zt7 (k:G') (h:Hid G'→G:=by intro x';refine q22 (k:=1) 20 4 rfl (by decide) rfl ?_;exact x'.o):G:=h ⟨k⟩
theorem Zt8 (k:G') (h:Hid G'→G:=by intro x';(try dsimp only [List.nil_append,List.cons_append]);exact x'.o):G:=h ⟨k⟩
theorem Zt9 (k:G') (h:Hid G'→G:=by intro x';refine ao1 (by decide) (qcw (cs:=[_,_,_,_,_,_,_]) rfl (lk rfl rfl) rfl rfl rfl rfl) ?_;exact x'.o):G:=h ⟨k⟩
theorem Zta (k:G') (h:Hid G'→G:=by intro x';refine Z1a ?_;refine qf ?_;exact x'.o):G:=h ⟨k⟩
theorem Ztb (k:G') (h:Hid G'→G:=by intro x';refine q81 16 rfl rfl rfl rfl (by simp) (q1e 0 sb) ?_;exact x'.o):G:=h ⟨k⟩
theorem Ztc (k:G') (h:Hid G'→G:=by intro x';refine q81 17 rfl rfl rfl rfl (by simp) (q1e 0 sk) ?_;exact x'.o):G:=h ⟨k⟩
theorem Ztd (k:G') (h:Hid G'→G:=by intro x';refine q2n rfl rfl (by decide) (qfk rfl (lk rfl rfl) rfl) ?_;exact x'.o):G:=h ⟨k⟩
theorem Zte (k:G') (h:Hid G'→G:=by intro x';refine ao2 Y11 (qbc (sz:=4) (v:=.agg (qg ⟨w.id,th,t,q1p w.spec t⟩)) (cs:=qg ⟨w.id,th,t,q1p w.spec t⟩) rfl (by decide) (by decide) rfl rfl rfl rfl rfl) ?_;exact x'.o):G:=h ⟨k⟩
theorem Ztf (k:G') (h:Hid G'→G:=by intro x';refine ao2 Y11 (q5e rfl rfl rfl rfl rfl (Src.pl (ys:=[qg ⟨w.id,th,t,q1p w.spec t⟩]) rfl (by simp)) rfl (by simp) (by simp) Y1c Y1c) ?_;exact x'.o):G:=h ⟨k⟩
theorem Ztg (k:G') (h:Hid G'→G:=by intro x';refine qv9 [2,1] 1 rfl Y17 (by decide) (fun G=>qc rfl (lk rfl rfl) rfl (by decide)) ?_;exact x'.o):G:=h ⟨k⟩
theorem Zth (k:G') (h:Hid G'→G:=by intro x';refine aqp 2 rfl Y17 (by decide) (fun G=>qi (v:=.int _ _) rfl (lk rfl rfl) rfl rfl rfl) ?_;exact x'.o):G:=h ⟨k⟩
theorem Zti (k:G') (h:Hid G'→G:=by intro x';refine aq0 3 rfl Y17 (by decide) (fun _=>qd (v:=.pt _ _ _ _) rfl) ?_;exact x'.o):G:=h ⟨k⟩
theorem Ztj (k:G') (h:Hid G'→G:=by intro x';refine qv9 [7,6,5,4] 4 rfl Y17 (by decide) (fun G=>q1g rfl (lkF hF) rfl) ?_;exact x'.o):G:=h ⟨k⟩
theorem Ztk (k:G') (h:Hid G'→G:=by intro x';refine qv9 [7,6,5] 5 rfl Y17 (by decide) (fun G=>qc rfl (lkF hF) rfl (by decide)) ?_;exact x'.o):G:=h ⟨k⟩
theorem Ztl (k:G') (h:Hid G'→G:=by intro x';refine qv9 [7,6] 6 rfl Y17 (by decide) (fun G=>qc rfl (lkF hF) rfl (by decide)) ?_;exact x'.o):G:=h ⟨k⟩
theorem Ztm (k:G') (h:Hid G'→G:=by intro x';refine aqp 7 rfl Y17 (by decide) (fun G=>qi (v:=.int _ _) rfl (lkF hF) rfl rfl rfl) ?_;exact x'.o):G:=h ⟨k⟩
theorem Ztn (k:G') (h:Hid G'→G:=by intro x';(try dsimp only [put,Nat.reduceAdd]);exact x'.o):G:=h ⟨k⟩
theorem Zto (k:G') (h:Hid G'→G:=by intro x';refine aq0 19 rfl Y17 (by decide) (fun _=>q16 (v:=.bool _) rfl rfl) ?_;exact x'.o):G:=h ⟨k⟩
theorem Ztp (h:G:=by exact q1i Y17 Yv (Out.mk (by (refine congrArg AV.bool ?_;(clear hB hst hr hF hF0;(simp_all;done)))) Yb)):G:=h
theorem Ztq (k:G') (h:Hid G'→G:=by intro x';refine q2y mixed (some 14) 999 ?_;exact x'.o):G:=h ⟨k⟩
theorem Ztr (k:G') (h:Hid G'→G:=by intro x';refine Zpp ?_;refine Z8s ?_;exact x'.o):G:=h ⟨k⟩
theorem Zts (k:G') (h:Hid G'→G:=by intro x';refine Z4c ?_;refine q13 (qrd _ _ Y1d Y1d) rfl (by decide) ?_;exact x'.o):G:=h ⟨k⟩
theorem Ztt (h:G:=by refine Zol ?_;exact Z8p):G:=h
theorem Ztu (k:G') (h:Hid G'→G:=by intro x';refine ao2 Y11 (V2.callTS (q6z z (Lid H.length 2) _ hri (by omega) (lk rfl rfl)) rfl rfl) ?_;exact x'.o):G:=h ⟨k⟩
theorem Ztv (k:G') (h:Hid G'→G:=by intro x';refine Zok ?_;refine Z16 ?_;exact x'.o):G:=h ⟨k⟩
theorem Ztw (k:G') (h:Hid G'→G:=by intro x';refine Ztv ?_;refine Z89 ?_;exact x'.o):G:=h ⟨k⟩
theorem Ztx (h:G:=by exact q4d hB (q7h rfl (lk rfl rfl) rfl rfl rfl (q3t rfl (q3t rfl .nil))) rfl rfl):G:=h
theorem Zty (h:G:=by refine Ztw ?_;exact Ztx):G:=h
theorem Ztz (k:G') (h:Hid G'→G:=by intro x';refine q2y mixed none 4 ?_;exact x'.o):G:=h ⟨k⟩
theorem Zu0 (k:G') (h:Hid G'→G:=by intro x';refine aqp 1 rfl Y17 (by decide) (fun G=>q1g rfl (lk rfl rfl) rfl) ?_;exact x'.o):G:=h ⟨k⟩
theorem Zu1 (k:G') (h:Hid G'→G:=by intro x';refine aq0 6 rfl Y17 (by decide) (fun _=>qd (v:=.pl _) rfl) ?_;exact x'.o):G:=h ⟨k⟩
theorem Zu2 (k:G') (h:Hid G'→G:=by intro x';refine aq0 13 rfl Y17 (by decide) (fun _=>qd (v:=.tup _) rfl) ?_;exact x'.o):G:=h ⟨k⟩
theorem Zu3 (k:G') (h:Hid G'→G:=by intro x';refine aq0 14 rfl Y17 (by decide) (fun _=>q1m (v:=.pl _) rfl rfl) ?_;exact x'.o):G:=h ⟨k⟩
theorem Zu4 (k:G') (h:Hid G'→G:=by intro x';refine aq0 15 rfl Y17 (by decide) (fun _=>q1m (v:=.int _ _) rfl rfl) ?_;exact x'.o):G:=h ⟨k⟩
theorem Zu5 (k:G') (h:Hid G'→G:=by intro x';refine aq0 10 rfl Y17 (by decide) (fun _=>qd (v:=.int _ _) rfl) ?_;exact x'.o):G:=h ⟨k⟩
theorem Zu6 (k:G') (h:Hid G'→G:=by intro x';refine aqp 2 rfl Y17 (by decide) (fun G=>qe rfl rfl hr1 rfl) ?_;exact x'.o):G:=h ⟨k⟩
theorem Zu7 (k:G') (h:Hid G'→G:=by intro x';refine aqp 3 rfl Y17 (by decide) (fun G=>q3d rfl hr1 rfl) ?_;exact x'.o):G:=h ⟨k⟩
theorem Zu8 (k:G') (h:Hid G'→G:=by intro x';refine aqp 7 rfl Y17 (by decide) (fun G=>q3d rfl hr2 rfl) ?_;exact x'.o):G:=h ⟨k⟩
theorem Zu9 (k:G') (h:Hid G'→G:=by intro x';refine Zoz ?_;refine Zoi ?_;exact x'.o):G:=h ⟨k⟩
theorem Zua (k:G') (h:Hid G'→G:=by intro x';refine Zu9 ?_;refine Zol ?_;exact x'.o):G:=h ⟨k⟩
theorem Zub (k:G') (h:Hid G'→G:=by intro x';(try dsimp only [Nat.reduceAdd,put,List.length_cons,List.length_nil,List.cons_append,List.nil_append,List.set_cons_zero,List.set_cons_succ]);exact x'.o):G:=h ⟨k⟩
theorem Zuc (k:G') (h:Hid G'→G:=by intro x';refine Zua ?_;refine Zub ?_;exact x'.o):G:=h ⟨k⟩
theorem Zud (h:G:=by refine Zt0 ?_;exact Zty):G:=h
theorem Zue (h:G:=by refine Zuc ?_;exact Zud):G:=h
theorem Zuf (k:G') (h:Hid G'→G:=by intro x';refine aqp 1 rfl Y17 (by decide) (fun G=>q2h rfl (lk rfl rfl) rfl rfl rfl) ?_;exact x'.o):G:=h ⟨k⟩
theorem Zug (k:G') (h:Hid G'→G:=by intro x';refine aqp 2 rfl Y17 (by decide) (fun G=>q2h rfl (lk rfl rfl) rfl rfl rfl) ?_;exact x'.o):G:=h ⟨k⟩
theorem Zuh (k:G') (h:Hid G'→G:=by intro x';refine q48 3 rfl Y17 (by decide) (fun _=>V2.call (qrp i a _ h0) rfl) ?_;exact x'.o):G:=h ⟨k⟩
theorem Zui (k:G') (h:Hid G'→G:=by intro x';refine aq0 6 rfl Y17 (by decide) (fun _=>q1m (v:=.agg _) rfl rfl) ?_;exact x'.o):G:=h ⟨k⟩
theorem Zuj (k:G') (h:Hid G'→G:=by intro x';refine aq0 7 rfl Y17 (by decide) (fun _=>q1m (v:=.int _ _) rfl rfl) ?_;exact x'.o):G:=h ⟨k⟩
theorem Zuk (k:G') (h:Hid G'→G:=by intro x';refine aqs 8 rfl Y17 Yv Y11 (q4n (sz:=9) rfl (by decide) rfl) ?_;exact x'.o):G:=h ⟨k⟩
theorem Zul (k:G') (h:Hid G'→G:=by intro x';refine aqs 9 rfl Y17 Yv Y1b (q2p (sz:=9) rfl rfl rfl rfl rfl rfl rfl rfl (Nat.le_of_ble_eq_true rfl)) ?_;exact x'.o):G:=h ⟨k⟩
theorem Zum (k:G') (h:Hid G'→G:=by intro x';refine aq0 10 rfl Y17 (by decide) (fun _=>q14 (v:=.int _ _) rfl) ?_;exact x'.o):G:=h ⟨k⟩
theorem Zun (k:G') (h:Hid G'→G:=by intro x';(try dsimp only [Nat.reduceAdd,put,List.set_cons_zero,List.set_cons_succ]);exact x'.o):G:=h ⟨k⟩
theorem Zuo (k:G') (h:Hid G'→G:=by intro x';refine ao1 (by decide) (V1.up (q4i (cs:=[.int _ _,.int _ _,.str _]) rfl)) ?_;exact x'.o):G:=h ⟨k⟩
theorem Zup (k:G') (h:Hid G'→G:=by intro x';refine aq0 9 rfl Y17 (by decide) (fun _=>q8e rfl) ?_;exact x'.o):G:=h ⟨k⟩
theorem Zuq (h:G:=by exact qf (Out.mk (by (refine congrArg AV.bool ?_;(clear hB;simp_all))) Yb)):G:=h
theorem Zur (h:G:=by refine Z99 ?_;exact Zuq):G:=h
theorem Zus (h:G:=by exact qf (Out.mk (by (refine congrArg AV.bool ?_;(simp only [q44];clear hB hw;(simp_all;done)))) Yb)):G:=h
theorem Zut (h:G:=by exact qf (Out.mk (by (refine congrArg AV.bool ?_;(clear hB hw;(simp_all;done)))) Yb)):G:=h
theorem Zuu (h:G:=by exact qf (Out.mk (by (refine congrArg AV.bool ?_;(clear hB hw;(simp_all;omega)))) Yb)):G:=h
theorem Zuv (k:G') (h:Hid G'→G:=by intro x';refine Zic ?_;refine Z4 ?_;exact x'.o):G:=h ⟨k⟩
theorem Zuw (k:G') (h:Hid G'→G:=by intro x';refine ao1 (by decide) (q2a rfl (lk rfl rfl) rfl rfl rfl Y1c) ?_;exact x'.o):G:=h ⟨k⟩
theorem Zux (k:G') (h:Hid G'→G:=by intro x';refine aqp 3 rfl Y17 (by decide) (fun G=>qi (v:=.pl _) rfl (lk rfl rfl) rfl rfl rfl) ?_;exact x'.o):G:=h ⟨k⟩
theorem Zuy (k:G') (h:Hid G'→G:=by intro x';refine aqp 5 rfl Y17 (by decide) (fun G=>qi (v:=.pl _) rfl (lk rfl rfl) rfl rfl rfl) ?_;exact x'.o):G:=h ⟨k⟩
theorem Zuz (k:G') (h:Hid G'→G:=by intro x';refine q13 (qc8 _ _ Y1d) rfl (by decide) ?_;exact x'.o):G:=h ⟨k⟩
theorem Zv0 (k:G') (h:Hid G'→G:=by intro x';refine Z92 ?_;refine aqp 3 rfl Y17 (by decide) (fun G=>qx rfl (by decide)) ?_;exact x'.o):G:=h ⟨k⟩
theorem Zv1 (k:G') (h:Hid G'→G:=by intro x';refine Zv0 ?_;refine Z6l ?_;exact x'.o):G:=h ⟨k⟩
theorem Zv2 (k:G') (h:Hid G'→G:=by intro x';refine aq0 5 rfl Y17 (by decide) (fun _=>qd (v:=.pl _) rfl) ?_;exact x'.o):G:=h ⟨k⟩
theorem Zv3 (k:G') (h:Hid G'→G:=by intro x';refine q13 (qkm _ _ Y1d Y1d) rfl (by decide) ?_;exact x'.o):G:=h ⟨k⟩
theorem Zv4 (k:G') (h:Hid G'→G:=by intro x';refine aqp 7 rfl Y17 (by decide) (fun G=>qi (v:=.int _ _) rfl (lk rfl rfl) rfl rfl rfl) ?_;exact x'.o):G:=h ⟨k⟩
theorem Zv5 (k:G') (h:Hid G'→G:=by intro x';refine q48 0 rfl Y17 (by decide) (fun _=>q6t) ?_;exact x'.o):G:=h ⟨k⟩
theorem Zv6 (k:G') (h:Hid G'→G:=by intro x';refine Zqb ?_;refine Z6j ?_;exact x'.o):G:=h ⟨k⟩
theorem Zv7 (k:G') (h:Hid G'→G:=by intro x';refine Zpx ?_;refine Z7y ?_;exact x'.o):G:=h ⟨k⟩
theorem Zv8 (k:G') (h:Hid G'→G:=by intro x';refine ao2 Y11 (V2.call (qnv i.table id _ n5) rfl) ?_;exact x'.o):G:=h ⟨k⟩
theorem Zv9 (k:G') (h:Hid G'→G:=by intro x';refine aqp 4 rfl Y17 (by decide) (fun G=>q2h rfl (lk rfl rfl) rfl rfl rfl) ?_;exact x'.o):G:=h ⟨k⟩
theorem Zva (h:G:=by exact q1i Y17 Yv (Out.mk (by (refine congrArg AV.bool ?_;(clear hB hr h1 h2 hw hno2;(simp_all;omega)))) Yb)):G:=h
theorem Zvb (h:G:=by exact qf (Out.mk (by (refine congrArg AV.bool ?_;(clear hB;(try simp only [List.length_map] at *);(simp_all;done)))) Yb)):G:=h
theorem Zvc (k:G') (h:Hid G'→G:=by intro x';refine q5b rfl rfl (by decide) (V2.call (q8u _ _ Y1d) rfl) ?_;exact x'.o):G:=h ⟨k⟩
theorem Zvd (h:G:=by exact qf (Out.mk (by (refine congrArg AV.bool ?_;(clear hB;(try simp only [List.length_map] at *);(simp_all;omega)))) Yb)):G:=h
theorem Zve (h:G:=by exact q1i Y17 Yv (Out.mk (by (refine congrArg AV.bool ?_;(rw [hrb];clear hB hr hr2 hrb hps hri hx hy hxl hyl hq hso hjr;(simp_all;omega)))) Yb)):G:=h
theorem Zvf (k:G') (h:Hid G'→G:=by intro x';refine qr (g:=69) 17 rfl Y17 (by decide) rfl rfl rfl ?_;exact x'.o):G:=h ⟨k⟩
theorem Zvg (k:G') (h:Hid G'→G:=by intro x';refine qr (g:=69) 18 rfl Y17 (by decide) rfl rfl rfl ?_;exact x'.o):G:=h ⟨k⟩
theorem Zvh (k:G') (h:Hid G'→G:=by intro x';refine aq0 8 rfl Y17 (by decide) (fun _=>qd (v:=.int _ _) rfl) ?_;exact x'.o):G:=h ⟨k⟩
theorem Zvi (k:G') (h:Hid G'→G:=by intro x';refine aq0 12 rfl Y17 (by decide) (fun _=>qd (v:=.int _ _) rfl) ?_;exact x'.o):G:=h ⟨k⟩
theorem Zvj (k:G') (h:Hid G'→G:=by intro x';refine ao1 (by decide) (qe rfl rfl hrn rfl) ?_;exact x'.o):G:=h ⟨k⟩
theorem Zvk (k:G') (h:Hid G'→G:=by intro x';refine ao1 (by decide) (qz (v:=.int _ _) rfl hrn rfl) ?_;exact x'.o):G:=h ⟨k⟩
theorem Zvl (k:G') (h:Hid G'→G:=by intro x';refine ao2 Y11 (V2.call (hat _) rfl) ?_;exact x'.o):G:=h ⟨k⟩
theorem Zvm (k:G') (h:Hid G'→G:=by intro x';refine aqp 2 rfl Y17 (by decide) (fun G=>q2a rfl (lk rfl rfl) rfl rfl rfl (by omega)) ?_;exact x'.o):G:=h ⟨k⟩
theorem Zvn (k:G') (h:Hid G'→G:=by intro x';refine aqp 3 rfl Y17 (by decide) (fun G=>qi (v:=.bool _) rfl (lk rfl rfl) rfl (qm1 ht) rfl) ?_;exact x'.o):G:=h ⟨k⟩
theorem Zvo (k:G') (h:Hid G'→G:=by intro x';refine aq0 4 rfl Y17 (by decide) (fun _=>q8e rfl) ?_;exact x'.o):G:=h ⟨k⟩
theorem Zvp (k:G') (h:Hid G'→G:=by intro x';refine q1h (g:=24) 6 rfl Y17 (by decide) rfl rfl (fun _=>qd (v:=.pl _) rfl) ?_;exact x'.o):G:=h ⟨k⟩
theorem Zvq (k:G') (h:Hid G'→G:=by intro x';refine q1h (g:=24) 7 rfl Y17 (by decide) rfl rfl (fun _=>qd (v:=.pl _) rfl) ?_;exact x'.o):G:=h ⟨k⟩
theorem Zvr (k:G') (h:Hid G'→G:=by intro x';refine q1h (g:=24) 8 rfl Y17 (by decide) rfl rfl (fun _=>qd (v:=.int _ _) rfl) ?_;exact x'.o):G:=h ⟨k⟩
theorem Zvs (k:G') (h:Hid G'→G:=by intro x';refine q1j (g:=24) 9 rfl Y17 (by decide) rfl rfl (fun G=>qe rfl rfl hr rfl) ?_;exact x'.o):G:=h ⟨k⟩
theorem Zvt (k:G') (h:Hid G'→G:=by intro x';refine q1j (g:=24) 10 rfl Y17 (by decide) rfl rfl (fun G=>q3d rfl hr rfl) ?_;exact x'.o):G:=h ⟨k⟩
theorem Zvu (k:G') (h:Hid G'→G:=by intro x';refine q7c (g:=24) 11 rfl Y17 (by decide) rfl rfl (fun _=>V2.call (hrd _) rfl) ?_;exact x'.o):G:=h ⟨k⟩
theorem Zvv (k:G') (h:Hid G'→G:=by intro x';refine q1h (g:=32) 14 rfl Y17 (by decide) rfl rfl (fun _=>qd (v:=.int _ _) rfl) ?_;exact x'.o):G:=h ⟨k⟩
theorem Zvw (k:G') (h:Hid G'→G:=by intro x';refine q1h (g:=32) 15 rfl Y17 (by decide) rfl rfl (fun _=>qsr rfl rfl) ?_;exact x'.o):G:=h ⟨k⟩
theorem Zvx (k:G') (h:Hid G'→G:=by intro x';refine q1h (g:=32) 16 rfl Y17 (by decide) rfl rfl (fun _=>qd (v:=.bool _) rfl) ?_;exact x'.o):G:=h ⟨k⟩
theorem Zvy (k:G') (h:Hid G'→G:=by intro x';refine qr (g:=35) 26 rfl Y17 (by decide) rfl rfl rfl ?_;exact x'.o):G:=h ⟨k⟩
theorem Zvz (k:G') (h:Hid G'→G:=by intro x';refine qr (g:=35) 27 rfl Y17 (by decide) rfl rfl rfl ?_;exact x'.o):G:=h ⟨k⟩
theorem Zw0 (k:G') (h:Hid G'→G:=by intro x';refine qr (g:=35) 28 rfl Y17 (by decide) rfl rfl rfl ?_;exact x'.o):G:=h ⟨k⟩
theorem Zw1 (k:G') (h:Hid G'→G:=by intro x';refine qr (g:=35) 29 rfl Y17 (by decide) rfl rfl rfl ?_;exact x'.o):G:=h ⟨k⟩
theorem Zw2 (k:G') (h:Hid G'→G:=by intro x';refine q1h (g:=32) 30 rfl Y17 (by decide) rfl rfl (fun _=>q16 (v:=.bool _) rfl rfl) ?_;exact x'.o):G:=h ⟨k⟩
theorem Zw3 (k:G') (h:Hid G'→G:=by intro x';refine aq0 31 rfl Y17 (by decide) (fun _=>q16 (v:=.bool _) rfl rfl) ?_;exact x'.o):G:=h ⟨k⟩
theorem Zw4 (h:G:=by exact q1i Y17 Yv (Out.mk (by (refine congrArg AV.bool ?_;(clear hB hr ht hrd hI hy hyp hstep;(simp_all;done)))) Yb)):G:=h
theorem Zw5 (k:G') (h:Hid G'→G:=by intro x';refine qr (g:=32) 14 rfl Y17 (by decide) rfl rfl rfl ?_;exact x'.o):G:=h ⟨k⟩
theorem Zw6 (k:G') (h:Hid G'→G:=by intro x';refine qr (g:=32) 15 rfl Y17 (by decide) rfl rfl rfl ?_;exact x'.o):G:=h ⟨k⟩
theorem Zw7 (k:G') (h:Hid G'→G:=by intro x';refine qr (g:=32) 16 rfl Y17 (by decide) rfl rfl rfl ?_;exact x'.o):G:=h ⟨k⟩
theorem Zw8 (k:G') (h:Hid G'→G:=by intro x';refine q2b (g:=35) 26 rfl Y17 (by decide) rfl rfl ?_;exact x'.o):G:=h ⟨k⟩
theorem Zw9 (k:G') (h:Hid G'→G:=by intro x';refine q2b (g:=35) 27 rfl Y17 (by decide) rfl rfl ?_;exact x'.o):G:=h ⟨k⟩
theorem Zwa (k:G') (h:Hid G'→G:=by intro x';refine q2b (g:=35) 28 rfl Y17 (by decide) rfl rfl ?_;exact x'.o):G:=h ⟨k⟩
theorem Zwb (k:G') (h:Hid G'→G:=by intro x';refine q2b (g:=35) 29 rfl Y17 (by decide) rfl rfl ?_;exact x'.o):G:=h ⟨k⟩
theorem Zwc (k:G') (h:Hid G'→G:=by intro x';refine qr (g:=32) 30 rfl Y17 (by decide) rfl rfl rfl ?_;exact x'.o):G:=h ⟨k⟩
theorem Zwd (k:G') (h:Hid G'→G:=by intro x';refine aq0 31 rfl Y17 (by decide) (fun _=>q17 (v:=.bool _) rfl rfl) ?_;exact x'.o):G:=h ⟨k⟩
theorem Zwe (k:G') (h:Hid G'→G:=by intro x';refine qr (g:=24) 6 rfl Y17 (by decide) rfl rfl rfl ?_;exact x'.o):G:=h ⟨k⟩
theorem Zwf (k:G') (h:Hid G'→G:=by intro x';refine qr (g:=24) 7 rfl Y17 (by decide) rfl rfl rfl ?_;exact x'.o):G:=h ⟨k⟩
theorem Zwg (k:G') (h:Hid G'→G:=by intro x';refine qr (g:=24) 8 rfl Y17 (by decide) rfl rfl rfl ?_;exact x'.o):G:=h ⟨k⟩
theorem Zwh (k:G') (h:Hid G'→G:=by intro x';refine qr (g:=24) 9 rfl Y17 (by decide) rfl rfl rfl ?_;exact x'.o):G:=h ⟨k⟩
theorem Zwi (k:G') (h:Hid G'→G:=by intro x';refine qr (g:=24) 10 rfl Y17 (by decide) rfl rfl rfl ?_;exact x'.o):G:=h ⟨k⟩
theorem Zwj (k:G') (h:Hid G'→G:=by intro x';refine qr (g:=24) 11 rfl Y17 (by decide) rfl rfl rfl ?_;exact x'.o):G:=h ⟨k⟩
theorem Zwk (h:G:=by exact q1i Y17 Yv (Out.mk (by (refine congrArg AV.bool ?_;(clear hB hr hry ht hrd hI hy hyp hstep;(simp_all;done)))) Yb)):G:=h
theorem Zwl (k:G') (h:Hid G'→G:=by intro x';refine qr (g:=28) 13 rfl Y17 (by decide) rfl rfl rfl ?_;exact x'.o):G:=h ⟨k⟩
theorem Zwm (k:G') (h:Hid G'→G:=by intro x';refine qr (g:=28) 14 rfl Y17 (by decide) rfl rfl rfl ?_;exact x'.o):G:=h ⟨k⟩
theorem Zwn (k:G') (h:Hid G'→G:=by intro x';refine qr (g:=28) 15 rfl Y17 (by decide) rfl rfl rfl ?_;exact x'.o):G:=h ⟨k⟩
theorem Zwo (k:G') (h:Hid G'→G:=by intro x';refine qr (g:=28) 16 rfl Y17 (by decide) rfl rfl rfl ?_;exact x'.o):G:=h ⟨k⟩
theorem Zwp (k:G') (h:Hid G'→G:=by intro x';refine q2b (g:=32) 17 rfl Y17 (by decide) rfl rfl ?_;exact x'.o):G:=h ⟨k⟩
theorem Zwq (k:G') (h:Hid G'→G:=by intro x';refine q2b (g:=32) 18 rfl Y17 (by decide) rfl rfl ?_;exact x'.o):G:=h ⟨k⟩
theorem Zwr (k:G') (h:Hid G'→G:=by intro x';refine q2b (g:=32) 19 rfl Y17 (by decide) rfl rfl ?_;exact x'.o):G:=h ⟨k⟩
theorem Zws (k:G') (h:Hid G'→G:=by intro x';refine q2b (g:=32) 20 rfl Y17 (by decide) rfl rfl ?_;exact x'.o):G:=h ⟨k⟩
theorem Zwt (k:G') (h:Hid G'→G:=by intro x';refine q2b (g:=32) 21 rfl Y17 (by decide) rfl rfl ?_;exact x'.o):G:=h ⟨k⟩
theorem Zwu (k:G') (h:Hid G'→G:=by intro x';refine q2b (g:=32) 22 rfl Y17 (by decide) rfl rfl ?_;exact x'.o):G:=h ⟨k⟩
theorem Zwv (k:G') (h:Hid G'→G:=by intro x';refine q2b (g:=32) 23 rfl Y17 (by decide) rfl rfl ?_;exact x'.o):G:=h ⟨k⟩
theorem Zww (k:G') (h:Hid G'→G:=by intro x';refine q2b (g:=32) 24 rfl Y17 (by decide) rfl rfl ?_;exact x'.o):G:=h ⟨k⟩
theorem Zwx (k:G') (h:Hid G'→G:=by intro x';refine qr (g:=28) 25 rfl Y17 (by decide) rfl rfl rfl ?_;exact x'.o):G:=h ⟨k⟩
theorem Zwy (h:G:=by exact q1i Y17 Yv (Out.mk (by (refine congrArg AV.bool ?_;(clear hB hr hw hs hsf;rw [hf] at *;(simp_all;done)))) Yb)):G:=h
theorem Zwz (k:G') (h:Hid G'→G:=by intro x';refine ao1 (by decide) (qe rfl rfl hru rfl) ?_;exact x'.o):G:=h ⟨k⟩
theorem Zx0 (k:G') (h:Hid G'→G:=by intro x';refine ao1 (by decide) (qz (v:=.int _ _) rfl hru rfl) ?_;exact x'.o):G:=h ⟨k⟩
theorem Zx1 (h:G:=by exact qf (Out.mk (by (refine congrArg AV.bool ?_;(clear hB hr hr2 hru hno hadd hW hWn hw hs hsf hall hUp hUs hwh;(simp_all;done)))) Yb)):G:=h
theorem Zx2 (h:G:=by exact qf (Out.mk (by (refine congrArg AV.bool ?_;(clear hB hw hs;(simp_all;done)))) Yb)):G:=h
theorem Zx3 (k:G') (h:Hid G'→G:=by intro x';refine ao2 Y11 (V2.call (qo3 g acc s _ hl hw (by omega) hs) rfl) ?_;exact x'.o):G:=h ⟨k⟩
theorem Zx4 (h:G:=by exact qf (Out.mk (by (refine congrArg AV.bool ?_;(clear hB hw hs hmay;unfold tm;(simp_all;done)))) Yb)):G:=h
theorem Zx5 (h:G:=by exact qf (Out.mk (by (refine congrArg AV.bool ?_;(clear hB hw hs hmay;unfold tm;(simp_all;omega)))) Yb)):G:=h
theorem Zx6 (k:G') (h:Hid G'→G:=by intro x';refine qr (g:=69) 19 rfl Y17 (by decide) rfl rfl rfl ?_;exact x'.o):G:=h ⟨k⟩
theorem Zx7 (k:G') (h:Hid G'→G:=by intro x';refine qr (g:=69) 20 rfl Y17 (by decide) rfl rfl rfl ?_;exact x'.o):G:=h ⟨k⟩
theorem Zx8 (k:G') (h:Hid G'→G:=by intro x';refine qr (g:=69) 21 rfl Y17 (by decide) rfl rfl rfl ?_;exact x'.o):G:=h ⟨k⟩
theorem Zx9 (k:G') (h:Hid G'→G:=by intro x';refine qr (g:=69) 22 rfl Y17 (by decide) rfl rfl rfl ?_;exact x'.o):G:=h ⟨k⟩
theorem Zxa (k:G') (h:Hid G'→G:=by intro x';refine qr (g:=69) 23 rfl Y17 (by decide) rfl rfl rfl ?_;exact x'.o):G:=h ⟨k⟩
theorem Zxb (k:G') (h:Hid G'→G:=by intro x';refine qr (g:=69) 24 rfl Y17 (by decide) rfl rfl rfl ?_;exact x'.o):G:=h ⟨k⟩
theorem Zxc (k:G') (h:Hid G'→G:=by intro x';refine qr (g:=69) 25 rfl Y17 (by decide) rfl rfl rfl ?_;exact x'.o):G:=h ⟨k⟩
theorem Zxd (k:G') (h:Hid G'→G:=by intro x';refine qr (g:=69) 26 rfl Y17 (by decide) rfl rfl rfl ?_;exact x'.o):G:=h ⟨k⟩
theorem Zxe (h:G:=by exact q1i Y17 Yv (Out.mk (by (refine congrArg AV.bool ?_;(clear hB hr hru hst hmay hbs;(simp_all;omega)))) Yb)):G:=h
theorem Zxf (k:G') (h:Hid G'→G:=by intro x';refine ao1 (by decide) (q5y (r:=((0+1:Nat):Int)-1) rfl rfl (by decide)) ?_;exact x'.o):G:=h ⟨k⟩
theorem Zxg (h:G:=by exact qf (Out.mk (by (refine congrArg AV.bool ?_;(clear hB hr hBj hskip htake hw hh;(simp_all;omega)))) Yb)):G:=h
theorem Zxh (k:G') (h:Hid G'→G:=by intro x';refine ao1 (by decide) (q5y (r:=((j+1+1:Nat):Int)-1) rfl rfl hadd) ?_;exact x'.o):G:=h ⟨k⟩
theorem Zxi (k:G') (h:Hid G'→G:=by intro x';refine Zj ?_;refine Zgz ?_;exact x'.o):G:=h ⟨k⟩
theorem Zxj (k:G') (h:Hid G'→G:=by intro x';refine aq0 7 rfl Y17 (by decide) (fun _=>qd (v:=.pl _) rfl) ?_;exact x'.o):G:=h ⟨k⟩
theorem Zxk (k:G') (h:Hid G'→G:=by intro x';refine aqp 9 rfl Y17 (by decide) (fun G=>qe rfl rfl hr rfl) ?_;exact x'.o):G:=h ⟨k⟩
theorem Zxl (k:G') (h:Hid G'→G:=by intro x';refine aqp 10 rfl Y17 (by decide) (fun G=>qx rfl (by decide)) ?_;exact x'.o):G:=h ⟨k⟩
theorem Zxm (k:G') (h:Hid G'→G:=by intro x';refine aqp 11 rfl Y17 (by decide) (fun G=>q9c (cs:=[_,_,_,_,_,_,_]) rfl hr rfl rfl) ?_;exact x'.o):G:=h ⟨k⟩
theorem Zxn (k:G') (h:Hid G'→G:=by intro x';refine q48 13 rfl Y17 (by decide) (fun _=>V2.call (qew _ _ _ Y1d) rfl) ?_;exact x'.o):G:=h ⟨k⟩
theorem Zxo (k:G') (h:Hid G'→G:=by intro x';refine aq0 14 rfl Y17 (by decide) (fun _=>V1.up (q4i (cs:=[.int _ _,_,.int _ _,.int _ _]) rfl)) ?_;exact x'.o):G:=h ⟨k⟩
theorem Zxp (k:G') (h:Hid G'→G:=by intro x';refine aqs 15 rfl Y17 Yv Y11 (q4n (sz:=4) rfl (by decide) rfl) ?_;exact x'.o):G:=h ⟨k⟩
theorem Zxq (k:G') (h:Hid G'→G:=by intro x';refine aqs 16 rfl Y17 Yv Y1b (q2p (sz:=4) rfl rfl rfl rfl rfl rfl rfl rfl (Nat.le_of_ble_eq_true rfl)) ?_;exact x'.o):G:=h ⟨k⟩
theorem Zxr (k:G') (h:Hid G'→G:=by intro x';refine ao2 Y11 (V2.call (qij sl ⟨w.id,th,t,q1p w.spec t⟩ _ hsw hadd) rfl) ?_;exact x'.o):G:=h ⟨k⟩
theorem Zxs (h:G:=by exact qf (Out.mk (by (refine congrArg AV.bool ?_;(rw [hdeep];rw [hdeep] at hskd;clear hB hr hsw hsw2 hsr2 hq htw hdp hdeep;simp only [List.length_map] at *;by_cases e2:policy=2;(rw [if_pos e2] at *;grind);(rw [if_neg e2] at *;have e3:policy=3:=(by omega);(simp_all;done))))) Yb)):G:=h
theorem Zxt (k:G') (h:Hid G'→G:=by intro x';refine q2y mixed (some 9) 999 ?_;exact x'.o):G:=h ⟨k⟩
theorem Zxu (k:G') (h:Hid G'→G:=by intro x';refine aq0 3 rfl Y17 (by decide) (fun _=>qe rfl rfl hr rfl) ?_;exact x'.o):G:=h ⟨k⟩
theorem Zxv (k:G') (h:Hid G'→G:=by intro x';refine aqp 4 rfl Y17 (by decide) (fun G=>qx rfl (by decide)) ?_;exact x'.o):G:=h ⟨k⟩
theorem Zxw (k:G') (h:Hid G'→G:=by intro x';refine aq0 5 rfl Y17 (by decide) (fun _=>qz (v:=.int _ _) rfl hr rfl) ?_;exact x'.o):G:=h ⟨k⟩
theorem Zxx (h:G:=by exact q1i Y17 Yv (Out.mk (by (refine congrArg AV.bool ?_;(clear hB hr hst hil hco;(simp_all;done)))) Yb)):G:=h
theorem Zxy (k:G') (h:Hid G'→G:=by intro x';refine aq0 4 rfl Y17 (by decide) (fun _=>qe rfl rfl hr rfl) ?_;exact x'.o):G:=h ⟨k⟩
theorem Zxz (k:G') (h:Hid G'→G:=by intro x';refine aqp 5 rfl Y17 (by decide) (fun G=>qx rfl (by decide)) ?_;exact x'.o):G:=h ⟨k⟩
theorem Zy0 (k:G') (h:Hid G'→G:=by intro x';refine aq0 6 rfl Y17 (by decide) (fun _=>qz (v:=.int _ _) rfl hr rfl) ?_;exact x'.o):G:=h ⟨k⟩
theorem Zy1 (k:G') (h:Hid G'→G:=by intro x';refine aq0 10 rfl Y17 (by decide) (fun _=>qd (v:=.tup _) rfl) ?_;exact x'.o):G:=h ⟨k⟩
theorem Zy2 (k:G') (h:Hid G'→G:=by intro x';refine aq0 11 rfl Y17 (by decide) (fun _=>q1m (v:=.pl _) rfl rfl) ?_;exact x'.o):G:=h ⟨k⟩
theorem Zy3 (k:G') (h:Hid G'→G:=by intro x';refine aq0 12 rfl Y17 (by decide) (fun _=>q1m (v:=.int _ _) rfl rfl) ?_;exact x'.o):G:=h ⟨k⟩
theorem Zy4 (k:G') (h:Hid G'→G:=by intro x';refine aqs 14 rfl Y17 Yv Y1b (q25 (sz:=1) (v:=.pl _) (r':=[_,_,_,_,_,_,_,_,_]) rfl rfl rfl rfl rfl rfl rfl rfl (Nat.le_of_ble_eq_true rfl) rfl) ?_;exact x'.o):G:=h ⟨k⟩
theorem Zy5 (k:G') (h:Hid G'→G:=by intro x';refine aq0 9 rfl Y17 (by decide) (fun _=>q1m (v:=.int _ _) rfl rfl) ?_;exact x'.o):G:=h ⟨k⟩
theorem Zy6 (k:G') (h:Hid G'→G:=by intro x';refine ao2 Y11 (V2.call (qay _ _ hgs hri htg) rfl) ?_;exact x'.o):G:=h ⟨k⟩
theorem Zy7 (h:G:=by exact qf (Out.mk (by (refine congrArg AV.bool ?_;(clear hB h n1 n2 n5;(simp_all;done)))) Yb)):G:=h
theorem Zy8 (k:G') (h:Hid G'→G:=by intro x';refine ao2 Y11 (V2.call (qay _ _ hact hri htg) rfl) ?_;exact x'.o):G:=h ⟨k⟩
theorem Zy9 (h:G:=by exact qf (Out.mk (by (refine congrArg AV.bool ?_;(clear hB h n1 n2;unfold tm;(simp_all;done)))) Yb)):G:=h
theorem Zya (h:G:=by exact qf (Out.mk (by (refine congrArg AV.bool ?_;(clear hB h n1 n2;unfold tm;grind))) Yb)):G:=h
theorem Zyb (k:G') (h:Hid G'→G:=by intro x';refine ao2 Y1b (q25 (sz:=1) (v:=.int _ _) (r':=[_,_,_,_,_,_,_,_,_]) rfl rfl rfl rfl rfl rfl rfl rfl (Nat.le_of_ble_eq_true rfl) rfl) ?_;exact x'.o):G:=h ⟨k⟩
theorem Zyc (k:G') (h:Hid G'→G:=by intro x';refine aq0 7 rfl Y17 (by decide) (fun _=>qd (v:=.int _ _) rfl) ?_;exact x'.o):G:=h ⟨k⟩
theorem Zyd (h:G:=by exact qf (Out.mk (by (refine congrArg AV.bool ?_;(clear hB hw;unfold q4g;(simp_all;done)))) Yb)):G:=h
theorem Zye (h:G:=by exact qf (Out.mk (by (refine congrArg AV.bool ?_;(clear hB hgt hlt';(simp_all;omega)))) Yb)):G:=h
theorem Zyf (h:G:=by exact qf (Out.mk (by (refine congrArg AV.bool ?_;(clear hB c0;simp_all))) Yb)):G:=h
theorem Zyg (k:G') (h:Hid G'→G:=by intro x';refine aqp 4 rfl Y17 (by decide) (fun G=>q3d rfl hr rfl) ?_;exact x'.o):G:=h ⟨k⟩
theorem Zyh (k:G') (h:Hid G'→G:=by intro x';refine aq0 6 rfl Y17 (by decide) (fun _=>qd (v:=.tup _) rfl) ?_;exact x'.o):G:=h ⟨k⟩
theorem Zyi (k:G') (h:Hid G'→G:=by intro x';refine aq0 7 rfl Y17 (by decide) (fun _=>q1m (v:=.agg _) rfl rfl) ?_;exact x'.o):G:=h ⟨k⟩
theorem Zyj (k:G') (h:Hid G'→G:=by intro x';refine aq0 8 rfl Y17 (by decide) (fun _=>q1m (v:=.int _ _) rfl rfl) ?_;exact x'.o):G:=h ⟨k⟩
theorem Zyk (k:G') (h:Hid G'→G:=by intro x';refine aqs 10 rfl Y17 Yv Y11 (q4n (sz:=9) rfl (by decide) rfl) ?_;exact x'.o):G:=h ⟨k⟩
theorem Zyl (k:G') (h:Hid G'→G:=by intro x';refine aqs 11 rfl Y17 Yv Y1b (q2p (sz:=9) rfl rfl rfl rfl rfl rfl rfl rfl (Nat.le_of_ble_eq_true rfl)) ?_;exact x'.o):G:=h ⟨k⟩
theorem Zym (k:G') (h:Hid G'→G:=by intro x';refine aq0 13 rfl Y17 (by decide) (fun _=>q14 (v:=.int _ _) rfl) ?_;exact x'.o):G:=h ⟨k⟩
theorem Zyn (k:G') (h:Hid G'→G:=by intro x';refine aq0 8 rfl Y17 (by decide) (fun _=>qd (v:=.bool _) rfl) ?_;exact x'.o):G:=h ⟨k⟩
theorem Zyo (k:G') (h:Hid G'→G:=by intro x';refine qr (g:=87) 9 rfl Y17 (by decide) rfl rfl rfl ?_;exact x'.o):G:=h ⟨k⟩
theorem Zyp (k:G') (h:Hid G'→G:=by intro x';refine qr (g:=87) 10 rfl Y17 (by decide) rfl rfl rfl ?_;exact x'.o):G:=h ⟨k⟩
theorem Zyq (k:G') (h:Hid G'→G:=by intro x';refine qr (g:=87) 11 rfl Y17 (by decide) rfl rfl rfl ?_;exact x'.o):G:=h ⟨k⟩
theorem Zyr (k:G') (h:Hid G'→G:=by intro x';refine qr (g:=87) 12 rfl Y17 (by decide) rfl rfl rfl ?_;exact x'.o):G:=h ⟨k⟩
theorem Zys (k:G') (h:Hid G'→G:=by intro x';refine aq0 13 rfl Y17 (by decide) (fun _=>q16 (v:=.bool _) rfl rfl) ?_;exact x'.o):G:=h ⟨k⟩
theorem Zyt (k:G') (h:Hid G'→G:=by intro x';refine aq0 14 rfl Y17 (by decide) (fun _=>qd (v:=.bool _) rfl) ?_;exact x'.o):G:=h ⟨k⟩
theorem Zyu (k:G') (h:Hid G'→G:=by intro x';refine qr (g:=93) 15 rfl Y17 (by decide) rfl rfl rfl ?_;exact x'.o):G:=h ⟨k⟩
theorem Zyv (k:G') (h:Hid G'→G:=by intro x';refine qr (g:=93) 16 rfl Y17 (by decide) rfl rfl rfl ?_;exact x'.o):G:=h ⟨k⟩
theorem Zyw (k:G') (h:Hid G'→G:=by intro x';refine qr (g:=93) 17 rfl Y17 (by decide) rfl rfl rfl ?_;exact x'.o):G:=h ⟨k⟩
theorem Zyx (k:G') (h:Hid G'→G:=by intro x';refine qr (g:=93) 18 rfl Y17 (by decide) rfl rfl rfl ?_;exact x'.o):G:=h ⟨k⟩
theorem Zyy (k:G') (h:Hid G'→G:=by intro x';refine qr (g:=93) 19 rfl Y17 (by decide) rfl rfl rfl ?_;exact x'.o):G:=h ⟨k⟩
theorem Zyz (k:G') (h:Hid G'→G:=by intro x';refine qr (g:=93) 20 rfl Y17 (by decide) rfl rfl rfl ?_;exact x'.o):G:=h ⟨k⟩
theorem Zz0 (k:G') (h:Hid G'→G:=by intro x';refine aq0 21 rfl Y17 (by decide) (fun _=>q16 (v:=.bool _) rfl rfl) ?_;exact x'.o):G:=h ⟨k⟩
theorem Zz1 (h:G:=by exact q1i Y17 Yv (Out.mk (by (refine congrArg AV.bool ?_;(clear hB hr c1 c2 c3 c4 hok hon hw;simp_all))) Yb)):G:=h
end Go.Av
