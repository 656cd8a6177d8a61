/- Steps of walks: each a theorem whose last argument is a tactic. -/
import Derived.KernelRfl
namespace Go.Av
variable {p : Prop}
theorem Y25 (h:p:=by cases hb):p:=h
theorem Y23 (h:p:=by assumption):p:=h
theorem Y24 (h:p:=by kernel_rfl):p:=h
theorem Y21 (h:p:=by rintro _ ⟨⟩):p:=h
theorem Y22 (h:p:=by simp;omega):p:=h
theorem Y20 (h:p:=by (simp;done)):p:=h
theorem Y1z (h:p:=by (simp;omega)):p:=h
theorem Y1v (h:p:=by decide +kernel):p:=h
theorem Y1w (h:p:=by simpa using hb):p:=h
theorem Y1x (h:p:=by simpa using hk):p:=h
theorem Y1y (h:p:=by simpa using hc):p:=h
theorem Y1u (h:p:=by rw [hc];decide):p:=h
theorem Y1t (h:p:=by rw [hc1];decide):p:=h
theorem Y1r (h:p:=by show _≤1;omega):p:=h
theorem Y1s (h:p:=by unfold Lid;omega):p:=h
theorem Y1p (h:p:=by rw [List.map_take]):p:=h
theorem Y1q (h:p:=by simp [AV.bel,Lid]):p:=h
theorem Y1o (h:p:=by rintro _ ⟨⟩;decide):p:=h
theorem Y1l (h:p:=by rw [qo9];omega):p:=h
theorem Y1m (h:p:=by rw [qoc];omega):p:=h
theorem Y1n (h:p:=by (simp [q4d];done)):p:=h
theorem Y1j (h:p:=by rintro _ ⟨⟩;exact hd):p:=h
theorem Y1k (h:p:=by rintro v r e;cases e):p:=h
theorem Y1i (h:p:=by simp [AV.bels,AV.bel]):p:=h
theorem Y1f (h:p:=by exact fun _=>⟨_,rfl⟩):p:=h
theorem Y1g (h:p:=by rw [h0] at hr;cases hr):p:=h
theorem Y1h (h:p:=by rintro e r e1;cases e1):p:=h
theorem Y1e (h:p:=by rw [List.map_append];rfl):p:=h
theorem Y1d (h:p:=by rw [q6h (by simp)]):p:=h
theorem Y1a (h:p:=by rw [IntKind.wrap_u8];omega):p:=h
theorem Y1b (h:p:=by rw [List.length_map];omega):p:=h
theorem Y1c (h:p:=by rw [q5q _ _ hai];exact ha):p:=h
theorem Y16 (h:p:=by rw [IntKind.wrap_u64];omega):p:=h
theorem Y17 (h:p:=by exact fun _=>⟨_,rfl,rfl⟩):p:=h
theorem Y18 (h:p:=by rw [List.length_drop];omega):p:=h
theorem Y19 (h:p:=by rw [List.length_take];omega):p:=h
theorem Y15 (h:p:=by rintro _ ⟨G,rfl⟩;exact h1 G):p:=h
theorem Y14 (h:p:=by rw [List.length_append];omega):p:=h
theorem Y13 (h:p:=by rw [q94 (by omega)];rfl):p:=h
theorem Y11 (h:p:=by rw [ok.gen];exact Nat.le_refl _):p:=h
theorem Y12 (h:p:=by first | rfl | (simp [get];done)):p:=h
theorem Yz (h:p:=by exact fun _=>⟨_,rfl,rfl,rfl⟩):p:=h
theorem Y10 (h:p:=by rw [q33];exact Nat.le_refl _):p:=h
theorem Yy (h:p:=by exact qyf Y1v):p:=h
theorem Yx (h:p:=by simpa [List.filterMap_cons] using h1):p:=h
theorem Yw (h:p:=by simp only [List.length_append];omega):p:=h
theorem Yu (h:p:=by rw [List.drop_zero,← hn,List.take_length]):p:=h
theorem Yv (h:p:=by rw [show (0:Int)=(q23 b).2 by omega]):p:=h
theorem Yt (h:p:=by rw [List.drop_zero,← hlen,List.take_length]):p:=h
theorem Ys (h:p:=by rw [List.length_take,List.length_drop];omega):p:=h
theorem Yr (h:p:=by subst e;rw [hx] at hy;exact Option.some.inj hy):p:=h
theorem Yq (h:p:=by rw [e,hy] at hx;exact (Option.some.inj hx).symm):p:=h
theorem Yp (h:p:=by (repeat (refine q4y ?_));exact qg7 hB hres):p:=h
theorem Yn (h:p:=by rw [List.drop_zero,List.take_of_length_le (by simp)]):p:=h
theorem Yo (h:p:=by rw [← hv.1];exact (List.getElem?_eq_some_iff.1 hj).1):p:=h
theorem Ym (h:p:=by simp only [List.length_append,List.length_nil];omega):p:=h
theorem Yl (h:p:=by rw [List.take_length,hl,List.take_length] at ht;exact ht):p:=h
theorem Yk (h:p:=by rw [List.drop_zero,List.take_of_length_le Y22]):p:=h
theorem Yj (h:p:=by rw [List.take_length,hlen,List.take_length] at ht;exact ht):p:=h
theorem Yi (h:p:=by intro r hr;simp only [List.mem_singleton] at hr;subst hr;rfl):p:=h
theorem Yh (h:p:=by refine congrArg (fun x=>[AV.bool x,AV.int .i64 3]) ?_;simp;omega):p:=h
theorem Yg (h:p:=by refine congrArg (fun x=>[AV.bool x,AV.int .i64 3]) ?_;(simp_all;done)):p:=h
theorem Ye (h:p:=by refine congrArg (fun x=>[AV.bool x,AV.int .i64 3]) ?_;(simp_all;omega)):p:=h
theorem Yf (h:p:=by rintro e r e1;cases e1;(repeat (refine q4y ?_));exact qg7 hB hres):p:=h
theorem Yd (h:p:=by rw [show i+(j-i-1)+1=j by omega];exact List.getElem?_eq_getElem hj):p:=h
theorem Yc (h:p:=by (repeat (first | refine q4y ?_ | refine qiz ?_));exact qg7 hB hres):p:=h
theorem Yb (h:p:=by repeat (first | exact SubX.refl _ _ | refine SubX.at ?_ | refine SubX.put rfl ?_)):p:=h
theorem Ya (h:p:=by intro o ho r hr;simp only [List.mem_singleton] at ho;subst ho;exact qd4 _ _ r hr):p:=h
theorem Y9 (h:p:=by first | rfl | (simp [AV.bel,AV.bels,Lid];done) | (simp [AV.bel,AV.bels,Lid];omega)):p:=h
theorem Y8 (h:p:=by repeat (first | exact Sub.nil | refine Sub.cons Y12 ?_)):p:=h
theorem Y6 (h:p:=by rw [show (i:Int)-1=((i-1:Nat):Int) by omega];exact qd (by omega) (by omega)):p:=h
theorem Y7 (h:p:=by rw [Nat.zero_add,Nat.zero_add,← List.map_set,← List.map_set,e3,List.set_set,List.set_set]):p:=h
theorem Y5 (h:p:=by intro r hr;simp only [List.mem_singleton] at hr;subst hr;(simp [AV.bels,AV.bel,q4d];done)):p:=h
theorem Y4 (h:p:=by rw [hh];exact Y8):p:=h
theorem Y2 (h:p:=by rw [show ((a+(j+1):Nat):Int)-1=((a+j:Nat):Int) by omega];exact qd (by omega) (by omega)):p:=h
theorem Y3 (h:p:=by rw [show ((a+(k+1):Nat):Int)-1=((a+k:Nat):Int) by omega];exact qd (by omega) (by omega)):p:=h
theorem Y1 (h:p:=by repeat (first | exact EBel.nil | refine EBel.cons Y9 ?_)):p:=h
structure Hid (p : Prop) : Prop where
 o:p
variable {G G' : Prop}
theorem Z1 (k:G') (h:Hid G'→G:=by intro x';(repeat (first | refine q7w ?_ | refine q7y ?_ | refine q61 ?_ | refine qa8 ?_ | refine q7v ?_ | refine q9u ?_ | refine q80 rfl ?_ | refine q83 ?_ | refine qa3 ?_ | refine qau ?_ | refine qat ?_ | refine q7z ?_ | refine q9v ?_ | refine q7q ?_ | refine q2y ?_));exact x'.o):G:=h ⟨k⟩
theorem Z2 (k:G') (h:Hid G'→G:=by intro x';refine Z1 ?_;refine q16 ?_;exact x'.o):G:=h ⟨k⟩
theorem Z3 (k:G') (h:Hid G'→G:=by intro x';refine ao1 (by decide) (qx (v:=.int _ _) rfl) ?_;exact x'.o):G:=h ⟨k⟩
theorem Z4 (k:G') (h:Hid G'→G:=by intro x';refine Z3 ?_;refine qe ?_;exact x'.o):G:=h ⟨k⟩
theorem Z5 (k:G') (h:Hid G'→G:=by intro x';refine Z2 ?_;refine Z4 ?_;exact x'.o):G:=h ⟨k⟩
theorem Z6 (k:G') (h:Hid G'→G:=by intro x';refine ao1 (by decide) (qk (v:=.str _) rfl) ?_;exact x'.o):G:=h ⟨k⟩
theorem Z7 (k:G') (h:Hid G'→G:=by intro x';refine Z2 ?_;refine Z6 ?_;exact x'.o):G:=h ⟨k⟩
theorem Z8 (k:G') (h:Hid G'→G:=by intro x';refine ao1 (by decide) (qk (v:=.int _ _) rfl) ?_;exact x'.o):G:=h ⟨k⟩
theorem Z9 (k:G') (h:Hid G'→G:=by intro x';refine qe ?_;refine Z1 ?_;exact x'.o):G:=h ⟨k⟩
theorem Za (k:G') (h:Hid G'→G:=by intro x';refine Z3 ?_;refine Z9 ?_;exact x'.o):G:=h ⟨k⟩
theorem Zb (h:G:=by exact q4u hB (q2n rfl .nil) rfl rfl):G:=h
theorem Zc (h:G:=by refine Za ?_;exact Zb):G:=h
theorem Zd (k:G') (h:Hid G'→G:=by intro x';refine ao1 (by decide) (qx (v:=.bool _) rfl) ?_;exact x'.o):G:=h ⟨k⟩
theorem Ze (k:G') (h:Hid G'→G:=by intro x';refine Zd ?_;refine Z9 ?_;exact x'.o):G:=h ⟨k⟩
theorem Zf (k:G') (h:Hid G'→G:=by intro x';refine Z2 ?_;refine Ze ?_;exact x'.o):G:=h ⟨k⟩
theorem Zg (k:G') (h:Hid G'→G:=by intro x';refine ao1 (by decide) (o_le rfl rfl) ?_;exact x'.o):G:=h ⟨k⟩
theorem Zh (k:G') (h:Hid G'→G:=by intro x';refine ao1 (by decide) (qk (v:=.bool _) rfl) ?_;exact x'.o):G:=h ⟨k⟩
theorem Zi (k:G') (h:Hid G'→G:=by intro x';refine Zg ?_;refine Zh ?_;exact x'.o):G:=h ⟨k⟩
theorem Zj (k:G') (h:Hid G'→G:=by intro x';refine q1c rfl rfl (by decide) (qk (v:=.int _ _) rfl) ?_;exact x'.o):G:=h ⟨k⟩
theorem Zk (k:G') (h:Hid G'→G:=by intro x';refine q1c rfl rfl (by decide) (qzd rfl rfl) ?_;exact x'.o):G:=h ⟨k⟩
theorem Zl (k:G') (h:Hid G'→G:=by intro x';refine Zj ?_;refine Zk ?_;exact x'.o):G:=h ⟨k⟩
theorem Zm (k:G') (h:Hid G'→G:=by intro x';refine ao1 (by decide) (q1q (v:=.bool _) rfl rfl) ?_;exact x'.o):G:=h ⟨k⟩
theorem Zn (k:G') (h:Hid G'→G:=by intro x';refine Zm ?_;refine Zd ?_;exact x'.o):G:=h ⟨k⟩
theorem Zo (h:G:=by exact qe (Out.mk (by (refine congrArg AV.bool ?_;(refine Bool.eq_iff_iff.mpr ?_;simp only [Bool.and_eq_true,Bool.or_eq_true,Bool.not_eq_true',decide_eq_true_eq,decide_eq_false_iff_not,beq_iff_eq,bne_iff_ne,beq_eq_false_iff_ne,Bool.false_eq_true,Bool.true_eq_false,Bool.and_eq_false_iff,Bool.or_eq_false_iff,List.length_map,false_iff,true_iff,iff_true,iff_false] at *;omega))) Yb)):G:=h
theorem Zp (k:G') (h:Hid G'→G:=by intro x';refine q14k rfl rfl (by decide) ?_;exact x'.o):G:=h ⟨k⟩
theorem Zq (k:G') (h:Hid G'→G:=by intro x';refine Zp ?_;refine Zp ?_;exact x'.o):G:=h ⟨k⟩
theorem Zr (k:G') (h:Hid G'→G:=by intro x';refine ao1 (by decide) (q1r (v:=.bool _) rfl rfl) ?_;exact x'.o):G:=h ⟨k⟩
theorem Zs (k:G') (h:Hid G'→G:=by intro x';refine Zq ?_;refine Zr ?_;exact x'.o):G:=h ⟨k⟩
theorem Zt (k:G') (h:Hid G'→G:=by intro x';refine Zs ?_;refine Zd ?_;exact x'.o):G:=h ⟨k⟩
theorem Zu (k:G') (h:Hid G'→G:=by intro x';refine ao1 (by decide) (qzd rfl rfl) ?_;exact x'.o):G:=h ⟨k⟩
theorem Zv (k:G') (h:Hid G'→G:=by intro x';refine Zu ?_;refine Zh ?_;exact x'.o):G:=h ⟨k⟩
theorem Zw (k:G') (h:Hid G'→G:=by intro x';refine Z8 ?_;refine Zv ?_;exact x'.o):G:=h ⟨k⟩
theorem Zx (k:G') (h:Hid G'→G:=by intro x';refine q1c rfl rfl (by decide) (o_le rfl rfl) ?_;exact x'.o):G:=h ⟨k⟩
theorem Zy (k:G') (h:Hid G'→G:=by intro x';refine Zx ?_;refine Zn ?_;exact x'.o):G:=h ⟨k⟩
theorem Zz (k:G') (h:Hid G'→G:=by intro x';refine Z2 ?_;refine Za ?_;exact x'.o):G:=h ⟨k⟩
theorem Z10 (h:G:=by exact qe (Out.mk (by rfl) Yb)):G:=h
theorem Z11 (k:G') (h:Hid G'→G:=by intro x';refine Z2 ?_;refine Z8 ?_;exact x'.o):G:=h ⟨k⟩
theorem Z12 (k:G') (h:Hid G'→G:=by intro x';refine ao1 (by decide) (o_eq rfl rfl) ?_;exact x'.o):G:=h ⟨k⟩
theorem Z13 (k:G') (h:Hid G'→G:=by intro x';refine Z12 ?_;refine Ze ?_;exact x'.o):G:=h ⟨k⟩
theorem Z14 (k:G') (h:Hid G'→G:=by intro x';refine ao1 (by decide) (q1o (v:=.int _ _) rfl rfl) ?_;exact x'.o):G:=h ⟨k⟩
theorem Z15 (k:G') (h:Hid G'→G:=by intro x';refine Z3 ?_;refine Z4 ?_;exact x'.o):G:=h ⟨k⟩
theorem Z16 (k:G') (h:Hid G'→G:=by intro x';refine Z12 ?_;refine Z9 ?_;exact x'.o):G:=h ⟨k⟩
theorem Z17 (k:G') (h:Hid G'→G:=by intro x';refine Z11 ?_;refine Z16 ?_;exact x'.o):G:=h ⟨k⟩
theorem Z18 (h:G:=by refine Z2 ?_;exact Zc):G:=h
theorem Z19 (k:G') (h:Hid G'→G:=by intro x';refine ao1 (by decide) (qa2 rfl) ?_;exact x'.o):G:=h ⟨k⟩
theorem Z1a (k:G') (h:Hid G'→G:=by intro x';refine ao1 (by decide) (qx (v:=.str _) rfl) ?_;exact x'.o):G:=h ⟨k⟩
theorem Z1b (k:G') (h:Hid G'→G:=by intro x';refine ao1 (by decide) (qz5 rfl) ?_;exact x'.o):G:=h ⟨k⟩
theorem Z1c (k:G') (h:Hid G'→G:=by intro x';refine Z11 ?_;refine Z4 ?_;exact x'.o):G:=h ⟨k⟩
theorem Z1d (k:G') (h:Hid G'→G:=by intro x';(repeat (first | refine q7w ?_ | refine q7y ?_ | refine q61 ?_ | refine qa8 ?_ | refine q7v ?_ | refine q9u ?_ | refine q80 rfl ?_ | refine q83 ?_ | refine qa3 ?_ | refine qau ?_ | refine qat ?_ | refine q7z ?_ | refine q9v ?_ | refine q7q ?_));exact x'.o):G:=h ⟨k⟩
theorem Z1e (k:G') (h:Hid G'→G:=by intro x';refine Z5 ?_;refine Z1d ?_;exact x'.o):G:=h ⟨k⟩
theorem Z1f (k:G') (h:Hid G'→G:=by intro x';refine Zu ?_;refine Z9 ?_;exact x'.o):G:=h ⟨k⟩
theorem Z1g (k:G') (h:Hid G'→G:=by intro x';refine q39 mixed none 999 ?_;exact x'.o):G:=h ⟨k⟩
theorem Z1h (k:G') (h:Hid G'→G:=by intro x';refine Z1 ?_;refine Z1g ?_;exact x'.o):G:=h ⟨k⟩
theorem Z1i (k:G') (h:Hid G'→G:=by intro x';refine aq0 0 rfl Y1v (by decide) (fun _=>qk (v:=.str _) rfl) ?_;exact x'.o):G:=h ⟨k⟩
theorem Z1j (k:G') (h:Hid G'→G:=by intro x';refine aq0 1 rfl Y1v (by decide) (fun _=>qk (v:=.int _ _) rfl) ?_;exact x'.o):G:=h ⟨k⟩
theorem Z1k (k:G') (h:Hid G'→G:=by intro x';refine aq0 4 rfl Y1v (by decide) (fun _=>qk (v:=.int _ _) rfl) ?_;exact x'.o):G:=h ⟨k⟩
theorem Z1l (k:G') (h:Hid G'→G:=by intro x';refine q1y Y1v Y1f ?_;exact x'.o):G:=h ⟨k⟩
theorem Z1m (k:G') (h:Hid G'→G:=by intro x';refine Z1l ?_;refine Z1 ?_;exact x'.o):G:=h ⟨k⟩
theorem Z1n (k:G') (h:Hid G'→G:=by intro x';refine aq0 5 rfl Y1v (by decide) (fun _=>qk (v:=.int _ _) rfl) ?_;exact x'.o):G:=h ⟨k⟩
theorem Z1o (k:G') (h:Hid G'→G:=by intro x';refine aq0 8 rfl Y1v (by decide) (fun _=>qx (v:=.int _ _) rfl) ?_;exact x'.o):G:=h ⟨k⟩
theorem Z1p (k:G') (h:Hid G'→G:=by intro x';refine Zd ?_;refine qe ?_;exact x'.o):G:=h ⟨k⟩
theorem Z1q (k:G') (h:Hid G'→G:=by intro x';refine Z2 ?_;refine Z1p ?_;exact x'.o):G:=h ⟨k⟩
theorem Z1r (k:G') (h:Hid G'→G:=by intro x';refine ao1 (by decide) (o_ge rfl rfl) ?_;exact x'.o):G:=h ⟨k⟩
theorem Z1s (h:G:=by refine Ze ?_;exact Zb):G:=h
theorem Z1t (k:G') (h:Hid G'→G:=by intro x';refine ao1 (by decide) (qk (v:=.fn _ _ _) rfl) ?_;exact x'.o):G:=h ⟨k⟩
theorem Z1u (k:G') (h:Hid G'→G:=by intro x';refine Z2 ?_;refine Z1t ?_;exact x'.o):G:=h ⟨k⟩
theorem Z1v (k:G') (h:Hid G'→G:=by intro x';refine Z11 ?_;refine Za ?_;exact x'.o):G:=h ⟨k⟩
theorem Z1w (k:G') (h:Hid G'→G:=by intro x';refine q1c rfl rfl (by decide) (qa2 rfl) ?_;exact x'.o):G:=h ⟨k⟩
theorem Z1x (h:G:=by exact qe (Out.mk (by (refine congrArg AV.bool ?_;(simp_all;done))) Yb)):G:=h
theorem Z1y (k:G') (h:Hid G'→G:=by intro x';refine Zp ?_;refine Zr ?_;exact x'.o):G:=h ⟨k⟩
theorem Z1z (k:G') (h:Hid G'→G:=by intro x';refine Zq ?_;refine Z1y ?_;exact x'.o):G:=h ⟨k⟩
theorem Z20 (k:G') (h:Hid G'→G:=by intro x';refine Z1z ?_;refine Zd ?_;exact x'.o):G:=h ⟨k⟩
theorem Z21 (h:G:=by refine Z1 ?_;exact Zb):G:=h
theorem Z22 (k:G') (h:Hid G'→G:=by intro x';refine ao1 (by decide) (q10y rfl rfl rfl) ?_;exact x'.o):G:=h ⟨k⟩
theorem Z23 (k:G') (h:Hid G'→G:=by intro x';refine q12 (qwg _ _) rfl (by decide) ?_;exact x'.o):G:=h ⟨k⟩
theorem Z24 (k:G') (h:Hid G'→G:=by intro x';refine ao1 (by decide) (q20 rfl rfl (qd (by omega) (by omega))) ?_;exact x'.o):G:=h ⟨k⟩
theorem Z25 (k:G') (h:Hid G'→G:=by intro x';refine Z1r ?_;refine Zh ?_;exact x'.o):G:=h ⟨k⟩
theorem Z26 (k:G') (h:Hid G'→G:=by intro x';refine Z11 ?_;refine Z8 ?_;exact x'.o):G:=h ⟨k⟩
theorem Z27 (k:G') (h:Hid G'→G:=by intro x';refine ao1 (by decide) (qyn rfl rfl) ?_;exact x'.o):G:=h ⟨k⟩
theorem Z28 (k:G') (h:Hid G'→G:=by intro x';refine q12 (qvi _ _) rfl (by decide) ?_;exact x'.o):G:=h ⟨k⟩
theorem Z29 (k:G') (h:Hid G'→G:=by intro x';refine Z2 ?_;refine Zh ?_;exact x'.o):G:=h ⟨k⟩
theorem Z2a (k:G') (h:Hid G'→G:=by intro x';refine Z26 ?_;refine Z1f ?_;exact x'.o):G:=h ⟨k⟩
theorem Z2b (k:G') (h:Hid G'→G:=by intro x';refine ao1 (by decide) (qxh rfl rfl) ?_;exact x'.o):G:=h ⟨k⟩
theorem Z2c (k:G') (h:Hid G'→G:=by intro x';refine Z2b ?_;refine Z9 ?_;exact x'.o):G:=h ⟨k⟩
theorem Z2d (k:G') (h:Hid G'→G:=by intro x';refine Z8 ?_;refine Z8 ?_;exact x'.o):G:=h ⟨k⟩
theorem Z2e (k:G') (h:Hid G'→G:=by intro x';refine Zj ?_;refine Zj ?_;exact x'.o):G:=h ⟨k⟩
theorem Z2f (k:G') (h:Hid G'→G:=by intro x';refine ao2 Y1o (q8v (sz:=7) (v:=.agg _) rfl rfl rfl rfl (by decide) rfl) ?_;exact x'.o):G:=h ⟨k⟩
theorem Z2g (k:G') (h:Hid G'→G:=by intro x';refine Z2 ?_;refine Z2f ?_;exact x'.o):G:=h ⟨k⟩
theorem Z2h (k:G') (h:Hid G'→G:=by intro x';(try dsimp only [List.length_nil,put,AV.cells,List.nil_append]);exact x'.o):G:=h ⟨k⟩
theorem Z2i (k:G') (h:Hid G'→G:=by intro x';refine Z1p ?_;refine Z2h ?_;exact x'.o):G:=h ⟨k⟩
theorem Z2j (k:G') (h:Hid G'→G:=by intro x';refine Z2i ?_;refine Z1 ?_;exact x'.o):G:=h ⟨k⟩
theorem Z2k (k:G') (h:Hid G'→G:=by intro x';refine ao1 (by decide) (qc rfl (lk rfl rfl) rfl (by decide)) ?_;exact x'.o):G:=h ⟨k⟩
theorem Z2l (k:G') (h:Hid G'→G:=by intro x';refine ao1 (by decide) (qh (v:=.int _ _) rfl (lk rfl rfl) rfl rfl rfl) ?_;exact x'.o):G:=h ⟨k⟩
theorem Z2m (k:G') (h:Hid G'→G:=by intro x';refine Z2k ?_;refine Z2l ?_;exact x'.o):G:=h ⟨k⟩
theorem Z2n (k:G') (h:Hid G'→G:=by intro x';refine q1c rfl rfl (by decide) (qc rfl (lk rfl rfl) rfl (by decide)) ?_;exact x'.o):G:=h ⟨k⟩
theorem Z2o (k:G') (h:Hid G'→G:=by intro x';refine Z2n ?_;refine q1c rfl rfl (by decide) (qh (v:=.int _ _) rfl (lk rfl rfl) rfl rfl rfl) ?_;exact x'.o):G:=h ⟨k⟩
theorem Z2p (k:G') (h:Hid G'→G:=by intro x';refine q5r rfl rfl (by decide) (V2.call (qe9 _ _ _ _) rfl) ?_;exact x'.o):G:=h ⟨k⟩
theorem Z2q (k:G') (h:Hid G'→G:=by intro x';refine Zm ?_;refine Zh ?_;exact x'.o):G:=h ⟨k⟩
theorem Z2r (h:G:=by exact qe (Out.mk (by (refine congrArg AV.bool ?_;(simp only [quk] at *;(simp_all;omega)))) Yb)):G:=h
theorem Z2s (k:G') (h:Hid G'→G:=by intro x';refine Z1z ?_;refine Zh ?_;exact x'.o):G:=h ⟨k⟩
theorem Z2t (k:G') (h:Hid G'→G:=by intro x';refine q14i rfl rfl (by decide) ?_;exact x'.o):G:=h ⟨k⟩
theorem Z2u (k:G') (h:Hid G'→G:=by intro x';refine Z2t ?_;refine Z2t ?_;exact x'.o):G:=h ⟨k⟩
theorem Z2v (k:G') (h:Hid G'→G:=by intro x';refine Z2u ?_;refine Z2t ?_;exact x'.o):G:=h ⟨k⟩
theorem Z2w (k:G') (h:Hid G'→G:=by intro x';refine Z2v ?_;refine Z2q ?_;exact x'.o):G:=h ⟨k⟩
theorem Z2x (h:G:=by exact qe (Out.mk (by (refine congrArg AV.bool ?_;(simp only [q104] at *;(simp_all;done)))) Yb)):G:=h
theorem Z2y (k:G') (h:Hid G'→G:=by intro x';refine q1c rfl rfl (by decide) (qxh rfl rfl) ?_;exact x'.o):G:=h ⟨k⟩
theorem Z2z (k:G') (h:Hid G'→G:=by intro x';refine Zr ?_;refine Zh ?_;exact x'.o):G:=h ⟨k⟩
theorem Z30 (k:G') (h:Hid G'→G:=by intro x';refine Zr ?_;refine Zd ?_;exact x'.o):G:=h ⟨k⟩
theorem Z31 (k:G') (h:Hid G'→G:=by intro x';refine Zh ?_;refine Zh ?_;exact x'.o):G:=h ⟨k⟩
theorem Z32 (k:G') (h:Hid G'→G:=by intro x';refine q1c rfl rfl (by decide) (qk (v:=.bool _) rfl) ?_;exact x'.o):G:=h ⟨k⟩
theorem Z33 (h:G:=by exact qe (Out.mk (by (refine congrArg AV.bool ?_;(simp only [q1s] at *;(simp_all;done)))) Yb)):G:=h
theorem Z34 (k:G') (h:Hid G'→G:=by intro x';refine Z2s ?_;refine Z2s ?_;exact x'.o):G:=h ⟨k⟩
theorem Z35 (k:G') (h:Hid G'→G:=by intro x';refine Z4 ?_;refine Z2h ?_;exact x'.o):G:=h ⟨k⟩
theorem Z36 (k:G') (h:Hid G'→G:=by intro x';refine ao1 (by decide) (q1m rfl (lk rfl rfl) rfl rfl rfl) ?_;exact x'.o):G:=h ⟨k⟩
theorem Z37 (k:G') (h:Hid G'→G:=by intro x';refine Z2 ?_;refine Z36 ?_;exact x'.o):G:=h ⟨k⟩
theorem Z38 (k:G') (h:Hid G'→G:=by intro x';refine q12 (qck _ _) rfl (by decide) ?_;exact x'.o):G:=h ⟨k⟩
theorem Z39 (k:G') (h:Hid G'→G:=by intro x';refine Z19 ?_;refine Z9 ?_;exact x'.o):G:=h ⟨k⟩
theorem Z3a (k:G') (h:Hid G'→G:=by intro x';refine q12 (qtu _ _ _) rfl (by decide) ?_;exact x'.o):G:=h ⟨k⟩
theorem Z3b (k:G') (h:Hid G'→G:=by intro x';(try dsimp only [Nat.reduceAdd]);exact x'.o):G:=h ⟨k⟩
theorem Z3c (k:G') (h:Hid G'→G:=by intro x';refine Z4 ?_;refine Z3b ?_;exact x'.o):G:=h ⟨k⟩
theorem Z3d (k:G') (h:Hid G'→G:=by intro x';refine ao1 (by decide) (qx (v:=.nsl) rfl) ?_;exact x'.o):G:=h ⟨k⟩
theorem Z3e (k:G') (h:Hid G'→G:=by intro x';refine Z2 ?_;refine Z3d ?_;exact x'.o):G:=h ⟨k⟩
theorem Z3f (k:G') (h:Hid G'→G:=by intro x';refine Z3e ?_;refine qe ?_;exact x'.o):G:=h ⟨k⟩
theorem Z3g (k:G') (h:Hid G'→G:=by intro x';refine ao1 (by decide) (qk (v:=.pl _) rfl) ?_;exact x'.o):G:=h ⟨k⟩
theorem Z3h (k:G') (h:Hid G'→G:=by intro x';refine Z2 ?_;refine Z3g ?_;exact x'.o):G:=h ⟨k⟩
theorem Z3i (k:G') (h:Hid G'→G:=by intro x';refine Z3f ?_;refine Z3h ?_;exact x'.o):G:=h ⟨k⟩
theorem Z3j (k:G') (h:Hid G'→G:=by intro x';refine qe ?_;(try dsimp only [put]);exact x'.o):G:=h ⟨k⟩
theorem Z3k (k:G') (h:Hid G'→G:=by intro x';refine Z3j ?_;refine Z1 ?_;exact x'.o):G:=h ⟨k⟩
theorem Z3l (k:G') (h:Hid G'→G:=by intro x';refine qe ?_;refine Z1d ?_;exact x'.o):G:=h ⟨k⟩
theorem Z3m (k:G') (h:Hid G'→G:=by intro x';refine Z3e ?_;refine Z3l ?_;exact x'.o):G:=h ⟨k⟩
theorem Z3n (k:G') (h:Hid G'→G:=by intro x';refine Z3m ?_;refine q26 2 rfl ?_;exact x'.o):G:=h ⟨k⟩
theorem Z3o (k:G') (h:Hid G'→G:=by intro x';refine ao2 Y1o (qbm) ?_;exact x'.o):G:=h ⟨k⟩
theorem Z3p (k:G') (h:Hid G'→G:=by intro x';refine ao1 (by decide) (qx (v:=.pl _) rfl) ?_;exact x'.o):G:=h ⟨k⟩
theorem Z3q (k:G') (h:Hid G'→G:=by intro x';refine Z3p ?_;refine Z3j ?_;exact x'.o):G:=h ⟨k⟩
theorem Z3r (h:G:=by refine Z3q ?_;exact Z21):G:=h
theorem Z3s (k:G') (h:Hid G'→G:=by intro x';refine ao2 Y1o (q8v (sz:=13) (v:=.agg _) rfl rfl rfl rfl (by decide) rfl) ?_;exact x'.o):G:=h ⟨k⟩
theorem Z3t (k:G') (h:Hid G'→G:=by intro x';refine Z2 ?_;refine Z3s ?_;exact x'.o):G:=h ⟨k⟩
theorem Z3u (k:G') (h:Hid G'→G:=by intro x';refine ao1 (by decide) (qh (v:=.pl _) rfl (lk rfl rfl) rfl rfl rfl) ?_;exact x'.o):G:=h ⟨k⟩
theorem Z3v (k:G') (h:Hid G'→G:=by intro x';refine Z2k ?_;refine Z3u ?_;exact x'.o):G:=h ⟨k⟩
theorem Z3w (k:G') (h:Hid G'→G:=by intro x';refine Z2 ?_;refine Z3v ?_;exact x'.o):G:=h ⟨k⟩
theorem Z3x (k:G') (h:Hid G'→G:=by intro x';refine ao1 (by decide) (qdg rfl) ?_;exact x'.o):G:=h ⟨k⟩
theorem Z3y (k:G') (h:Hid G'→G:=by intro x';refine qe ?_;refine Z3b ?_;exact x'.o):G:=h ⟨k⟩
theorem Z3z (k:G') (h:Hid G'→G:=by intro x';refine Z3y ?_;refine Z1 ?_;exact x'.o):G:=h ⟨k⟩
theorem Z40 (k:G') (h:Hid G'→G:=by intro x';refine Z3x ?_;refine Z8 ?_;exact x'.o):G:=h ⟨k⟩
theorem Z41 (k:G') (h:Hid G'→G:=by intro x';refine Z40 ?_;refine Z3y ?_;exact x'.o):G:=h ⟨k⟩
theorem Z42 (k:G') (h:Hid G'→G:=by intro x';refine Z41 ?_;refine Z1d ?_;exact x'.o):G:=h ⟨k⟩
theorem Z43 (k:G') (h:Hid G'→G:=by intro x';refine Z2 ?_;refine Z1f ?_;exact x'.o):G:=h ⟨k⟩
theorem Z44 (k:G') (h:Hid G'→G:=by intro x';refine ao1 (by decide) (qz rfl rfl hr rfl) ?_;exact x'.o):G:=h ⟨k⟩
theorem Z45 (k:G') (h:Hid G'→G:=by intro x';refine ao1 (by decide) (q2m (v:=.int _ _) rfl hr rfl) ?_;exact x'.o):G:=h ⟨k⟩
theorem Z46 (k:G') (h:Hid G'→G:=by intro x';refine Z44 ?_;refine Z45 ?_;exact x'.o):G:=h ⟨k⟩
theorem Z47 (k:G') (h:Hid G'→G:=by intro x';refine Z2 ?_;refine Z46 ?_;exact x'.o):G:=h ⟨k⟩
theorem Z48 (k:G') (h:Hid G'→G:=by intro x';refine Z2u ?_;refine Z2u ?_;exact x'.o):G:=h ⟨k⟩
theorem Z49 (k:G') (h:Hid G'→G:=by intro x';refine Z48 ?_;refine Zm ?_;exact x'.o):G:=h ⟨k⟩
theorem Z4a (h:G:=by exact qe (Out.mk (by (refine congrArg AV.bool ?_;(rw [hok] at *;simp only [Bool.not_not] at *;(simp_all;done)))) Yb)):G:=h
theorem Z4b (k:G') (h:Hid G'→G:=by intro x';refine q1c rfl rfl (by decide) (o_ge rfl rfl) ?_;exact x'.o):G:=h ⟨k⟩
theorem Z4c (h:G:=by exact qe (Out.mk (by (refine congrArg AV.bool ?_;(rw [hok] at *;simp only [Bool.not_not] at *;(simp_all;omega)))) Yb)):G:=h
theorem Z4d (k:G') (h:Hid G'→G:=by intro x';refine Z2 ?_;refine Z24 ?_;exact x'.o):G:=h ⟨k⟩
theorem Z4e (k:G') (h:Hid G'→G:=by intro x';refine Z8 ?_;refine Z9 ?_;exact x'.o):G:=h ⟨k⟩
theorem Z4f (k:G') (h:Hid G'→G:=by intro x';refine Z4d ?_;refine Z4e ?_;exact x'.o):G:=h ⟨k⟩
theorem Z4g (h:G:=by refine Zf ?_;exact Zb):G:=h
theorem Z4h (k:G') (h:Hid G'→G:=by intro x';refine q12 (qh3 _ _) rfl (by decide) ?_;exact x'.o):G:=h ⟨k⟩
theorem Z4i (k:G') (h:Hid G'→G:=by intro x';refine Z2o ?_;refine Z2o ?_;exact x'.o):G:=h ⟨k⟩
theorem Z4j (k:G') (h:Hid G'→G:=by intro x';refine Zq ?_;refine Z1z ?_;exact x'.o):G:=h ⟨k⟩
theorem Z4k (k:G') (h:Hid G'→G:=by intro x';refine Z4j ?_;refine Zd ?_;exact x'.o):G:=h ⟨k⟩
theorem Z4l (k:G') (h:Hid G'→G:=by intro x';refine q1c rfl rfl (by decide) (qxv rfl rfl rfl) ?_;exact x'.o):G:=h ⟨k⟩
theorem Z4m (k:G') (h:Hid G'→G:=by intro x';refine Zq ?_;refine Zq ?_;exact x'.o):G:=h ⟨k⟩
theorem Z4n (k:G') (h:Hid G'→G:=by intro x';refine Zq ?_;refine Zt ?_;exact x'.o):G:=h ⟨k⟩
theorem Z4o (k:G') (h:Hid G'→G:=by intro x';refine Z2 ?_;refine Z2m ?_;exact x'.o):G:=h ⟨k⟩
theorem Z4p (k:G') (h:Hid G'→G:=by intro x';refine Z2 ?_;refine Z13 ?_;exact x'.o):G:=h ⟨k⟩
theorem Z4q (k:G') (h:Hid G'→G:=by intro x';refine Z12 ?_;refine Zh ?_;exact x'.o):G:=h ⟨k⟩
theorem Z4r (k:G') (h:Hid G'→G:=by intro x';refine q1c rfl rfl (by decide) (o_eq rfl rfl) ?_;exact x'.o):G:=h ⟨k⟩
theorem Z4s (h:G:=by exact qe (Out.mk (by (refine congrArg AV.bool ?_;(simp only [q4t,hs] at *;(simp_all;done)))) Yb)):G:=h
theorem Z4t (h:G:=by refine Zn ?_;exact Z4s):G:=h
theorem Z4u (k:G') (h:Hid G'→G:=by intro x';refine Z1y ?_;refine Zd ?_;exact x'.o):G:=h ⟨k⟩
theorem Z4v (k:G') (h:Hid G'→G:=by intro x';refine Z4r ?_;refine Z2q ?_;exact x'.o):G:=h ⟨k⟩
theorem Z4w (h:G:=by exact qe (Out.mk (by (refine congrArg AV.bool ?_;(simp only [q4t,h0,h1,h2,h3,h4,h5] at *;(simp_all;done)))) Yb)):G:=h
theorem Z4x (k:G') (h:Hid G'→G:=by intro x';refine q1c rfl rfl (by decide) (q6g (cs:=[_,_,_,_,_,_,_]) rfl (lk rfl rfl) rfl rfl rfl rfl) ?_;exact x'.o):G:=h ⟨k⟩
theorem Z4y (k:G') (h:Hid G'→G:=by intro x';refine q5r rfl rfl (by decide) (V2.call (qck _ _) rfl) ?_;exact x'.o):G:=h ⟨k⟩
theorem Z4z (k:G') (h:Hid G'→G:=by intro x';refine q1c rfl rfl (by decide) (q1m rfl (lk rfl rfl) rfl rfl rfl) ?_;exact x'.o):G:=h ⟨k⟩
theorem Z50 (k:G') (h:Hid G'→G:=by intro x';refine q5r rfl rfl (by decide) (V2.call (qh3 _ _) rfl) ?_;exact x'.o):G:=h ⟨k⟩
theorem Z51 (h:G:=by exact qe (Out.mk (by (refine congrArg AV.bool ?_;(simp only [q28,tm] at *;(simp_all;done)))) Yb)):G:=h
theorem Z52 (h:G:=by exact qe (Out.mk (by (refine congrArg AV.bool ?_;(simp only [q28,tm] at *;(simp_all;omega)))) Yb)):G:=h
theorem Z53 (k:G') (h:Hid G'→G:=by intro x';refine Zs ?_;refine Zh ?_;exact x'.o):G:=h ⟨k⟩
theorem Z54 (k:G') (h:Hid G'→G:=by intro x';refine Z53 ?_;refine Z2s ?_;exact x'.o):G:=h ⟨k⟩
theorem Z55 (k:G') (h:Hid G'→G:=by intro x';refine Z3 ?_;refine Ze ?_;exact x'.o):G:=h ⟨k⟩
theorem Z56 (k:G') (h:Hid G'→G:=by intro x';refine Z2 ?_;refine Z55 ?_;exact x'.o):G:=h ⟨k⟩
theorem Z57 (k:G') (h:Hid G'→G:=by intro x';refine Z8 ?_;refine Z4q ?_;exact x'.o):G:=h ⟨k⟩
theorem Z58 (k:G') (h:Hid G'→G:=by intro x';refine Zj ?_;refine Z4r ?_;exact x'.o):G:=h ⟨k⟩
theorem Z59 (k:G') (h:Hid G'→G:=by intro x';refine Z58 ?_;refine Zn ?_;exact x'.o):G:=h ⟨k⟩
theorem Z5a (h:G:=by refine Z59 ?_;exact qe (Out.mk (by (refine congrArg AV.bool ?_;grind)) Yb)):G:=h
theorem Z5b (h:G:=by exact q4u hB (q2n rfl (q2n rfl .nil)) rfl rfl):G:=h
theorem Z5c (h:G:=by exact qe (Out.mk (by (refine congrArg AV.bool ?_;(simp_all;omega))) Yb)):G:=h
theorem Z5d (k:G') (h:Hid G'→G:=by intro x';refine ao2 Y1o (q38 (sz:=13) rfl (by decide) rfl) ?_;exact x'.o):G:=h ⟨k⟩
theorem Z5e (k:G') (h:Hid G'→G:=by intro x';(try dsimp only [List.length_nil,put,AV.cells,List.nil_append,List.length_cons,Nat.reduceAdd,List.cons_append]);exact x'.o):G:=h ⟨k⟩
theorem Z5f (k:G') (h:Hid G'→G:=by intro x';refine q12 (q3o _ _ Y23) rfl (by decide) ?_;exact x'.o):G:=h ⟨k⟩
theorem Z5g (k:G') (h:Hid G'→G:=by intro x';refine ao2 Y21 (q1i (sz:=1) (v:=.pl _) (r':=[_,_,_,_,_,_,_,_,_,_,_,_,_]) rfl rfl rfl rfl rfl rfl rfl rfl (Nat.le_of_ble_eq_true rfl) rfl) ?_;exact x'.o):G:=h ⟨k⟩
theorem Z5h (k:G') (h:Hid G'→G:=by intro x';(try dsimp only [put,Nat.reduceAdd,List.set_cons_zero]);exact x'.o):G:=h ⟨k⟩
theorem Z5i (k:G') (h:Hid G'→G:=by intro x';refine qe ?_;refine Z5h ?_;exact x'.o):G:=h ⟨k⟩
theorem Z5j (k:G') (h:Hid G'→G:=by intro x';refine Z19 ?_;refine Zh ?_;exact x'.o):G:=h ⟨k⟩
theorem Z5k (k:G') (h:Hid G'→G:=by intro x';refine Z2u ?_;refine Z2q ?_;exact x'.o):G:=h ⟨k⟩
theorem Z5l (k:G') (h:Hid G'→G:=by intro x';refine Z2v ?_;refine Zm ?_;exact x'.o):G:=h ⟨k⟩
theorem Z5m (k:G') (h:Hid G'→G:=by intro x';refine Z48 ?_;refine Z5l ?_;exact x'.o):G:=h ⟨k⟩
theorem Z5n (h:G:=by exact qe (Out.mk (by (refine congrArg AV.bool ?_;(simp only [qn4,tm] at *;(simp_all;done)))) Yb)):G:=h
theorem Z5o (k:G') (h:Hid G'→G:=by intro x';refine Zj ?_;refine Z2y ?_;exact x'.o):G:=h ⟨k⟩
theorem Z5p (k:G') (h:Hid G'→G:=by intro x';refine Z1w ?_;refine Z2z ?_;exact x'.o):G:=h ⟨k⟩
theorem Z5q (k:G') (h:Hid G'→G:=by intro x';refine ao2 Y21 (q2c (sz:=13) rfl rfl rfl rfl rfl rfl rfl rfl (Nat.le_of_ble_eq_true rfl)) ?_;exact x'.o):G:=h ⟨k⟩
theorem Z5r (k:G') (h:Hid G'→G:=by intro x';refine Z5q ?_;refine Z4 ?_;exact x'.o):G:=h ⟨k⟩
theorem Z5s (k:G') (h:Hid G'→G:=by intro x';(try dsimp only [put,List.set_cons_zero,List.set_cons_succ]);exact x'.o):G:=h ⟨k⟩
theorem Z5t (k:G') (h:Hid G'→G:=by intro x';refine Z5s ?_;refine Z1 ?_;exact x'.o):G:=h ⟨k⟩
theorem Z5u (h:G:=by exact q4u hB (q6s rfl (lk rfl rfl) rfl rfl rfl (q2n rfl .nil)) rfl rfl):G:=h
theorem Z5v (k:G') (h:Hid G'→G:=by intro x';refine Z4o ?_;refine Z8 ?_;exact x'.o):G:=h ⟨k⟩
theorem Z5w (k:G') (h:Hid G'→G:=by intro x';refine ao2 Y1o (V2.call (c4 _) rfl) ?_;exact x'.o):G:=h ⟨k⟩
theorem Z5x (k:G') (h:Hid G'→G:=by intro x';refine ao1 (by decide) (qk (v:=.tup _) rfl) ?_;exact x'.o):G:=h ⟨k⟩
theorem Z5y (k:G') (h:Hid G'→G:=by intro x';refine ao1 (by decide) (q1o (v:=.bool _) rfl rfl) ?_;exact x'.o):G:=h ⟨k⟩
theorem Z5z (k:G') (h:Hid G'→G:=by intro x';refine Z14 ?_;refine Z5y ?_;exact x'.o):G:=h ⟨k⟩
theorem Z60 (k:G') (h:Hid G'→G:=by intro x';refine Z5x ?_;refine Z5z ?_;exact x'.o):G:=h ⟨k⟩
theorem Z61 (k:G') (h:Hid G'→G:=by intro x';refine Z3 ?_;refine Z1p ?_;exact x'.o):G:=h ⟨k⟩
theorem Z62 (k:G') (h:Hid G'→G:=by intro x';refine Z60 ?_;refine Z61 ?_;exact x'.o):G:=h ⟨k⟩
theorem Z63 (k:G') (h:Hid G'→G:=by intro x';(try dsimp only [Nat.reduceAdd,put]);exact x'.o):G:=h ⟨k⟩
theorem Z64 (k:G') (h:Hid G'→G:=by intro x';refine Z29 ?_;refine Z39 ?_;exact x'.o):G:=h ⟨k⟩
theorem Z65 (k:G') (h:Hid G'→G:=by intro x';refine ao2 Y21 (q1i (sz:=1) (v:=.int _ _) (r':=[_,_,_,_,_,_,_,_,_,_,_,_,_]) rfl rfl rfl rfl rfl rfl rfl rfl (Nat.le_of_ble_eq_true rfl) rfl) ?_;exact x'.o):G:=h ⟨k⟩
theorem Z66 (k:G') (h:Hid G'→G:=by intro x';refine q16 ?_;refine Z8 ?_;exact x'.o):G:=h ⟨k⟩
theorem Z67 (k:G') (h:Hid G'→G:=by intro x';refine q12 (qoo _ _) rfl (by decide) ?_;exact x'.o):G:=h ⟨k⟩
theorem Z68 (h:G:=by refine Z1 ?_;exact Z5u):G:=h
theorem Z69 (h:G:=by refine Z5s ?_;exact Z68):G:=h
theorem Z6a (k:G') (h:Hid G'→G:=by intro x';refine Z3h ?_;refine Z3x ?_;exact x'.o):G:=h ⟨k⟩
theorem Z6b (k:G') (h:Hid G'→G:=by intro x';refine Z1q ?_;refine Z6a ?_;exact x'.o):G:=h ⟨k⟩
theorem Z6c (k:G') (h:Hid G'→G:=by intro x';refine Z3g ?_;refine Z3x ?_;exact x'.o):G:=h ⟨k⟩
theorem Z6d (k:G') (h:Hid G'→G:=by intro x';refine Z6b ?_;refine Z6c ?_;exact x'.o):G:=h ⟨k⟩
theorem Z6e (k:G') (h:Hid G'→G:=by intro x';refine Z27 ?_;refine Z9 ?_;exact x'.o):G:=h ⟨k⟩
theorem Z6f (k:G') (h:Hid G'→G:=by intro x';refine Z6d ?_;refine Z6e ?_;exact x'.o):G:=h ⟨k⟩
theorem Z6g (k:G') (h:Hid G'→G:=by intro x';refine Z11 ?_;refine Z6c ?_;exact x'.o):G:=h ⟨k⟩
theorem Z6h (k:G') (h:Hid G'→G:=by intro x';refine Z6g ?_;refine Z1f ?_;exact x'.o):G:=h ⟨k⟩
theorem Z6i (k:G') (h:Hid G'→G:=by intro x';refine aq0 0 rfl Y1v (by decide) (fun _=>qk (v:=.pl _) rfl) ?_;exact x'.o):G:=h ⟨k⟩
theorem Z6j (k:G') (h:Hid G'→G:=by intro x';refine Z6i ?_;refine Z1j ?_;exact x'.o):G:=h ⟨k⟩
theorem Z6k (k:G') (h:Hid G'→G:=by intro x';refine aqp 2 rfl Y1v (by decide) (fun G=>qz rfl rfl hr rfl) ?_;exact x'.o):G:=h ⟨k⟩
theorem Z6l (k:G') (h:Hid G'→G:=by intro x';refine aqp 3 rfl Y1v (by decide) (fun G=>q2m (v:=.int _ _) rfl hr rfl) ?_;exact x'.o):G:=h ⟨k⟩
theorem Z6m (k:G') (h:Hid G'→G:=by intro x';refine aq0 4 rfl Y1v (by decide) (fun _=>qk (v:=.pl _) rfl) ?_;exact x'.o):G:=h ⟨k⟩
theorem Z6n (k:G') (h:Hid G'→G:=by intro x';refine Z6m ?_;refine Z1n ?_;exact x'.o):G:=h ⟨k⟩
theorem Z6o (k:G') (h:Hid G'→G:=by intro x';refine aqp 6 rfl Y1v (by decide) (fun G=>qz rfl rfl hr1 rfl) ?_;exact x'.o):G:=h ⟨k⟩
theorem Z6p (k:G') (h:Hid G'→G:=by intro x';refine aqp 7 rfl Y1v (by decide) (fun G=>q2m (v:=.int _ _) rfl hr1 rfl) ?_;exact x'.o):G:=h ⟨k⟩
theorem Z6q (k:G') (h:Hid G'→G:=by intro x';refine aq0 8 rfl Y1v (by decide) (fun _=>qyn rfl rfl) ?_;exact x'.o):G:=h ⟨k⟩
theorem Z6r (k:G') (h:Hid G'→G:=by intro x';refine Z11 ?_;refine Z24 ?_;exact x'.o):G:=h ⟨k⟩
theorem Z6s (k:G') (h:Hid G'→G:=by intro x';refine Z6r ?_;refine Za ?_;exact x'.o):G:=h ⟨k⟩
theorem Z6t (k:G') (h:Hid G'→G:=by intro x';refine Z5e ?_;refine Z1 ?_;exact x'.o):G:=h ⟨k⟩
theorem Z6u (k:G') (h:Hid G'→G:=by intro x';refine Z1p ?_;refine Z6t ?_;exact x'.o):G:=h ⟨k⟩
theorem Z6v (k:G') (h:Hid G'→G:=by intro x';refine Z2m ?_;refine Z2m ?_;exact x'.o):G:=h ⟨k⟩
theorem Z6w (k:G') (h:Hid G'→G:=by intro x';refine q1c rfl rfl (by decide) (q11n (us:=qsg a.spec) (vs:=qsg b.spec) rfl rfl rfl rfl Y24 (qr1 _ _)) ?_;exact x'.o):G:=h ⟨k⟩
theorem Z6x (k:G') (h:Hid G'→G:=by intro x';refine Z4i ?_;refine Z4v ?_;exact x'.o):G:=h ⟨k⟩
theorem Z6y (k:G') (h:Hid G'→G:=by intro x';refine q1c rfl rfl (by decide) (qh (v:=.pl _) rfl (lk rfl rfl) rfl rfl rfl) ?_;exact x'.o):G:=h ⟨k⟩
theorem Z6z (k:G') (h:Hid G'→G:=by intro x';refine Z2n ?_;refine Z6y ?_;exact x'.o):G:=h ⟨k⟩
theorem Z70 (k:G') (h:Hid G'→G:=by intro x';refine Z6z ?_;refine Z6z ?_;exact x'.o):G:=h ⟨k⟩
theorem Z71 (h:G:=by exact qe (Out.mk (by (refine congrArg AV.bool ?_;(simp_all))) Yb)):G:=h
theorem Z72 (k:G') (h:Hid G'→G:=by intro x';refine Z4j ?_;refine Zh ?_;exact x'.o):G:=h ⟨k⟩
theorem Z73 (k:G') (h:Hid G'→G:=by intro x';refine Z72 ?_;refine Z4k ?_;exact x'.o):G:=h ⟨k⟩
theorem Z74 (k:G') (h:Hid G'→G:=by intro x';refine Z72 ?_;refine Z72 ?_;exact x'.o):G:=h ⟨k⟩
theorem Z75 (k:G') (h:Hid G'→G:=by intro x';refine Z74 ?_;refine Z4k ?_;exact x'.o):G:=h ⟨k⟩
theorem Z76 (k:G') (h:Hid G'→G:=by intro x';refine Z74 ?_;refine Z73 ?_;exact x'.o):G:=h ⟨k⟩
theorem Z77 (k:G') (h:Hid G'→G:=by intro x';refine ao2 Y1o (q38 (sz:=4) rfl (by decide) rfl) ?_;exact x'.o):G:=h ⟨k⟩
theorem Z78 (k:G') (h:Hid G'→G:=by intro x';(try dsimp only [List.length_nil,put,List.nil_append]);exact x'.o):G:=h ⟨k⟩
theorem Z79 (k:G') (h:Hid G'→G:=by intro x';(try dsimp only [put,List.length_cons,List.length_nil,Nat.reduceAdd,List.cons_append,List.nil_append]);exact x'.o):G:=h ⟨k⟩
theorem Z7a (k:G') (h:Hid G'→G:=by intro x';refine Z3h ?_;refine Z40 ?_;exact x'.o):G:=h ⟨k⟩
theorem Z7b (k:G') (h:Hid G'→G:=by intro x';refine Z7a ?_;refine Z3l ?_;exact x'.o):G:=h ⟨k⟩
theorem Z7c (k:G') (h:Hid G'→G:=by intro x';refine Z5 ?_;refine Z7b ?_;exact x'.o):G:=h ⟨k⟩
theorem Z7d (k:G') (h:Hid G'→G:=by intro x';refine ao2 Y21 (q2c (sz:=4) rfl rfl rfl rfl rfl rfl (q6y _) rfl (Nat.le_of_ble_eq_true rfl)) ?_;exact x'.o):G:=h ⟨k⟩
theorem Z7e (k:G') (h:Hid G'→G:=by intro x';refine Z7d ?_;refine Z1p ?_;exact x'.o):G:=h ⟨k⟩
theorem Z7f (k:G') (h:Hid G'→G:=by intro x';(try dsimp only [put,List.set_cons_zero]);exact x'.o):G:=h ⟨k⟩
theorem Z7g (h:G:=by exact q4u hB (q6s rfl (lk rfl rfl) rfl rfl (q6y _) (q2n rfl .nil)) rfl (by simp [AV.bel,AV.bels,qjc])):G:=h
theorem Z7h (k:G') (h:Hid G'→G:=by intro x';refine aq0 0 rfl Y1v (by decide) (fun _=>qk (v:=.int _ _) rfl) ?_;exact x'.o):G:=h ⟨k⟩
theorem Z7i (k:G') (h:Hid G'→G:=by intro x';refine q1y Y1v Yy ?_;exact x'.o):G:=h ⟨k⟩
theorem Z7j (k:G') (h:Hid G'→G:=by intro x';refine q12 (q13x _ Y23 _) rfl (by decide) ?_;exact x'.o):G:=h ⟨k⟩
theorem Z7k (k:G') (h:Hid G'→G:=by intro x';refine ao1 (by decide) (q1o (v:=.agg _) rfl rfl) ?_;exact x'.o):G:=h ⟨k⟩
theorem Z7l (k:G') (h:Hid G'→G:=by intro x';refine Z5x ?_;refine Z7k ?_;exact x'.o):G:=h ⟨k⟩
theorem Z7m (k:G') (h:Hid G'→G:=by intro x';refine Z7l ?_;refine Z5y ?_;exact x'.o):G:=h ⟨k⟩
theorem Z7n (k:G') (h:Hid G'→G:=by intro x';(try dsimp only [List.length_nil,put,List.nil_append,List.set_cons_zero]);exact x'.o):G:=h ⟨k⟩
theorem Z7o (k:G') (h:Hid G'→G:=by intro x';(try dsimp only [List.length_cons,List.length_nil,Nat.reduceAdd,put,List.cons_append,List.nil_append,List.set_cons_zero,List.set_cons_succ]);exact x'.o):G:=h ⟨k⟩
theorem Z7p (k:G') (h:Hid G'→G:=by intro x';refine aq0 2 rfl Y1v (by decide) (fun _=>qk (v:=.bool _) rfl) ?_;exact x'.o):G:=h ⟨k⟩
theorem Z7q (k:G') (h:Hid G'→G:=by intro x';refine aq0 3 rfl Y1v (by decide) (fun _=>qk (v:=.bool _) rfl) ?_;exact x'.o):G:=h ⟨k⟩
theorem Z7r (k:G') (h:Hid G'→G:=by intro x';refine aq0 5 rfl Y1v (by decide) (fun _=>q1q (v:=.bool _) rfl rfl) ?_;exact x'.o):G:=h ⟨k⟩
theorem Z7s (k:G') (h:Hid G'→G:=by intro x';refine aqs 6 rfl Y1v Yz Y21 (q2c (sz:=4) rfl rfl rfl rfl rfl rfl (q6y _) rfl (Nat.le_of_ble_eq_true rfl)) ?_;exact x'.o):G:=h ⟨k⟩
theorem Z7t (k:G') (h:Hid G'→G:=by intro x';refine aqs 7 rfl Y1v Yz Y21 (q2c (sz:=4) rfl rfl rfl rfl rfl rfl (q6y _) rfl (Nat.le_of_ble_eq_true rfl)) ?_;exact x'.o):G:=h ⟨k⟩
theorem Z7u (k:G') (h:Hid G'→G:=by intro x';refine aq0 8 rfl Y1v (by decide) (fun _=>qx (v:=.bool _) rfl) ?_;exact x'.o):G:=h ⟨k⟩
theorem Z7v (k:G') (h:Hid G'→G:=by intro x';refine q1y Y1v Yz ?_;exact x'.o):G:=h ⟨k⟩
theorem Z7w (h:G:=by exact q4u hB (q6s rfl (lk rfl rfl) rfl rfl (q6y _) (q6s rfl (lk rfl rfl) rfl rfl (q6y _) (q2n rfl .nil))) rfl (hbel _)):G:=h
theorem Z7x (k:G') (h:Hid G'→G:=by intro x';refine aq0 5 rfl Y1v (by decide) (fun _=>q1r (v:=.bool _) rfl rfl) ?_;exact x'.o):G:=h ⟨k⟩
theorem Z7y (k:G') (h:Hid G'→G:=by intro x';refine Z3h ?_;refine Z3g ?_;exact x'.o):G:=h ⟨k⟩
theorem Z7z (k:G') (h:Hid G'→G:=by intro x';refine q12 (qyy _ _ Y23 Y23 _) rfl (by decide) ?_;exact x'.o):G:=h ⟨k⟩
theorem Z80 (k:G') (h:Hid G'→G:=by intro x';(try dsimp only [List.length_nil,put,List.nil_append,List.length_cons,Nat.reduceAdd,List.cons_append,List.set_cons_zero,List.set_cons_succ]);exact x'.o):G:=h ⟨k⟩
theorem Z81 (k:G') (h:Hid G'→G:=by intro x';refine q39 mixed none 2 ?_;exact x'.o):G:=h ⟨k⟩
theorem Z82 (k:G') (h:Hid G'→G:=by intro x';(try dsimp only [List.take_succ_cons,List.take_zero]);exact x'.o):G:=h ⟨k⟩
theorem Z83 (k:G') (h:Hid G'→G:=by intro x';refine Z81 ?_;refine Z82 ?_;exact x'.o):G:=h ⟨k⟩
theorem Z84 (k:G') (h:Hid G'→G:=by intro x';refine aq0 0 rfl Y1v (by decide) (fun _=>qk (v:=.bool _) rfl) ?_;exact x'.o):G:=h ⟨k⟩
theorem Z85 (k:G') (h:Hid G'→G:=by intro x';refine aq0 1 rfl Y1v (by decide) (fun _=>qk (v:=.bool _) rfl) ?_;exact x'.o):G:=h ⟨k⟩
theorem Z86 (k:G') (h:Hid G'→G:=by intro x';refine q2s (g:=20) 2 rfl Y1v (by decide) rfl rfl (fun _=>qk (v:=.int _ _) rfl) ?_;exact x'.o):G:=h ⟨k⟩
theorem Z87 (k:G') (h:Hid G'→G:=by intro x';refine q2x (g:=20) 3 rfl Y1v (by decide) rfl rfl (fun G=>q4j rfl (lk rfl rfl) rfl rfl hk4) ?_;exact x'.o):G:=h ⟨k⟩
theorem Z88 (k:G') (h:Hid G'→G:=by intro x';refine q2x (g:=20) 4 rfl Y1v (by decide) rfl rfl (fun G=>qh (v:=.int .u64 _) rfl (lk rfl rfl) rfl rfl hx) ?_;exact x'.o):G:=h ⟨k⟩
theorem Z89 (k:G') (h:Hid G'→G:=by intro x';refine q2s (g:=20) 5 rfl Y1v (by decide) rfl rfl (fun _=>qk (v:=.int _ _) rfl) ?_;exact x'.o):G:=h ⟨k⟩
theorem Z8a (k:G') (h:Hid G'→G:=by intro x';refine q2x (g:=20) 6 rfl Y1v (by decide) rfl rfl (fun G=>q4j rfl (lk rfl rfl) rfl rfl hk4) ?_;exact x'.o):G:=h ⟨k⟩
theorem Z8b (k:G') (h:Hid G'→G:=by intro x';refine q2x (g:=20) 7 rfl Y1v (by decide) rfl rfl (fun G=>qh (v:=.int .u64 _) rfl (lk rfl rfl) rfl rfl hy) ?_;exact x'.o):G:=h ⟨k⟩
theorem Z8c (k:G') (h:Hid G'→G:=by intro x';refine q2s (g:=20) 9 rfl Y1v (by decide) rfl rfl (fun _=>o_eq rfl rfl) ?_;exact x'.o):G:=h ⟨k⟩
theorem Z8d (k:G') (h:Hid G'→G:=by intro x';refine aq0 10 rfl Y1v (by decide) (fun _=>q1q (v:=.bool _) rfl rfl) ?_;exact x'.o):G:=h ⟨k⟩
theorem Z8e (k:G') (h:Hid G'→G:=by intro x';refine aq0 11 rfl Y1v (by decide) (fun _=>qx (v:=.bool _) rfl) ?_;exact x'.o):G:=h ⟨k⟩
theorem Z8f (k:G') (h:Hid G'→G:=by intro x';refine q17 (g:=20) 2 rfl Y1v (by decide) rfl rfl rfl ?_;exact x'.o):G:=h ⟨k⟩
theorem Z8g (k:G') (h:Hid G'→G:=by intro x';refine q17 (g:=20) 3 rfl Y1v (by decide) rfl rfl rfl ?_;exact x'.o):G:=h ⟨k⟩
theorem Z8h (k:G') (h:Hid G'→G:=by intro x';refine q17 (g:=20) 4 rfl Y1v (by decide) rfl rfl rfl ?_;exact x'.o):G:=h ⟨k⟩
theorem Z8i (k:G') (h:Hid G'→G:=by intro x';refine q17 (g:=20) 5 rfl Y1v (by decide) rfl rfl rfl ?_;exact x'.o):G:=h ⟨k⟩
theorem Z8j (k:G') (h:Hid G'→G:=by intro x';refine q17 (g:=20) 6 rfl Y1v (by decide) rfl rfl rfl ?_;exact x'.o):G:=h ⟨k⟩
theorem Z8k (k:G') (h:Hid G'→G:=by intro x';refine q17 (g:=20) 7 rfl Y1v (by decide) rfl rfl rfl ?_;exact x'.o):G:=h ⟨k⟩
theorem Z8l (k:G') (h:Hid G'→G:=by intro x';refine q17 (g:=20) 8 rfl Y1v (by decide) rfl rfl rfl ?_;exact x'.o):G:=h ⟨k⟩
theorem Z8m (k:G') (h:Hid G'→G:=by intro x';refine q17 (g:=20) 9 rfl Y1v (by decide) rfl rfl rfl ?_;exact x'.o):G:=h ⟨k⟩
theorem Z8n (k:G') (h:Hid G'→G:=by intro x';refine aq0 10 rfl Y1v (by decide) (fun _=>q1r (v:=.bool _) rfl rfl) ?_;exact x'.o):G:=h ⟨k⟩
theorem Z8o (k:G') (h:Hid G'→G:=by intro x';refine ao1 (by decide) (q1m rfl (lk rfl rfl) rfl rfl (q6y _)) ?_;exact x'.o):G:=h ⟨k⟩
theorem Z8p (k:G') (h:Hid G'→G:=by intro x';(try dsimp only [List.cons_append,List.nil_append]);exact x'.o):G:=h ⟨k⟩
theorem Z8q (k:G') (h:Hid G'→G:=by intro x';refine qe ?_;refine Z8p ?_;exact x'.o):G:=h ⟨k⟩
theorem Z8r (k:G') (h:Hid G'→G:=by intro x';refine Z11 ?_;refine Z6e ?_;exact x'.o):G:=h ⟨k⟩
theorem Z8s (k:G') (h:Hid G'→G:=by intro x';refine ao1 (by decide) (qk (v:=.sl _ _ _ _ _) rfl) ?_;exact x'.o):G:=h ⟨k⟩
theorem Z8t (k:G') (h:Hid G'→G:=by intro x';refine Z2 ?_;refine Z8s ?_;exact x'.o):G:=h ⟨k⟩
theorem Z8u (k:G') (h:Hid G'→G:=by intro x';refine Z8t ?_;refine Z8 ?_;exact x'.o):G:=h ⟨k⟩
theorem Z8v (k:G') (h:Hid G'→G:=by intro x';refine ao2 Y1o (q2b (sz:=1) (v:=.int _ _) rfl (by decide) (by decide) rfl rfl rfl rfl rfl) ?_;exact x'.o):G:=h ⟨k⟩
theorem Z8w (k:G') (h:Hid G'→G:=by intro x';refine ao1 (by decide) (qx (v:=.sl _ _ _ _ _) rfl) ?_;exact x'.o):G:=h ⟨k⟩
theorem Z8x (k:G') (h:Hid G'→G:=by intro x';refine Z8w ?_;refine qe ?_;exact x'.o):G:=h ⟨k⟩
theorem Z8y (k:G') (h:Hid G'→G:=by intro x';refine ao2 Y1o (q46 rfl rfl rfl rfl rfl (q107 rfl rfl rfl rfl rfl rfl) rfl Y20 (by simp;done) Y1z Y1z) ?_;refine Z8x ?_;exact x'.o):G:=h ⟨k⟩
theorem Z8z (k:G') (h:Hid G'→G:=by intro x';refine Z8y ?_;(try dsimp only [AV.cells,List.length_cons,List.length_nil,Nat.reduceAdd,put,List.cons_append,List.nil_append,List.set_cons_succ,List.set_cons_zero]);exact x'.o):G:=h ⟨k⟩
theorem Z90 (k:G') (h:Hid G'→G:=by intro x';refine Z8t ?_;refine Z8w ?_;exact x'.o):G:=h ⟨k⟩
theorem Z91 (k:G') (h:Hid G'→G:=by intro x';refine Z90 ?_;refine Z3l ?_;exact x'.o):G:=h ⟨k⟩
theorem Z92 (h:G:=by refine q2y ?_;exact Zb):G:=h
theorem Z93 (k:G') (h:Hid G'→G:=by intro x';refine Z3i ?_;refine Z3g ?_;exact x'.o):G:=h ⟨k⟩
theorem Z94 (k:G') (h:Hid G'→G:=by intro x';refine aq0 2 rfl Y1v (by decide) (fun _=>qk (v:=.int _ _) rfl) ?_;exact x'.o):G:=h ⟨k⟩
theorem Z95 (k:G') (h:Hid G'→G:=by intro x';refine Z12 ?_;refine Z1p ?_;exact x'.o):G:=h ⟨k⟩
theorem Z96 (k:G') (h:Hid G'→G:=by intro x';(repeat (first | refine q7w ?_ | refine q7y ?_ | refine q61 ?_ | refine qa8 ?_ | refine q7v ?_ | refine q9u ?_ | refine q80 rfl ?_ | refine q83 ?_ | refine qa3 ?_ | refine qau ?_ | refine q7z ?_ | refine q9v ?_ | refine q7q ?_ | refine q2y ?_));exact x'.o):G:=h ⟨k⟩
theorem Z97 (k:G') (h:Hid G'→G:=by intro x';refine Z2u ?_;refine Z5l ?_;exact x'.o):G:=h ⟨k⟩
theorem Z98 (h:G:=by exact qe (Out.mk (by (refine congrArg AV.bool ?_;(clear hr;(simp_all;omega)))) Yb)):G:=h
theorem Z99 (k:G') (h:Hid G'→G:=by intro x';refine q1c rfl rfl (by decide) (qk (v:=.pl _) rfl) ?_;exact x'.o):G:=h ⟨k⟩
theorem Z9a (k:G') (h:Hid G'→G:=by intro x';refine q1c rfl rfl (by decide) (qdg rfl) ?_;exact x'.o):G:=h ⟨k⟩
theorem Z9b (k:G') (h:Hid G'→G:=by intro x';refine Z99 ?_;refine Z9a ?_;exact x'.o):G:=h ⟨k⟩
theorem Z9c (k:G') (h:Hid G'→G:=by intro x';refine q1c rfl rfl (by decide) (q5c rfl hr rfl) ?_;exact x'.o):G:=h ⟨k⟩
theorem Z9d (k:G') (h:Hid G'→G:=by intro x';refine Z44 ?_;refine ao1 (by decide) (q5c rfl hr rfl) ?_;exact x'.o):G:=h ⟨k⟩
theorem Z9e (k:G') (h:Hid G'→G:=by intro x';refine Z11 ?_;refine Z9d ?_;exact x'.o):G:=h ⟨k⟩
theorem Z9f (k:G') (h:Hid G'→G:=by intro x';refine ao2 Y1o (q38 (sz:=3) rfl (by decide) rfl) ?_;exact x'.o):G:=h ⟨k⟩
theorem Z9g (k:G') (h:Hid G'→G:=by intro x';refine ao2 Y21 (q2c (sz:=3) rfl rfl rfl rfl rfl rfl rfl rfl (Nat.le_of_ble_eq_true rfl)) ?_;exact x'.o):G:=h ⟨k⟩
theorem Z9h (k:G') (h:Hid G'→G:=by intro x';refine qe ?_;(try dsimp only [put,List.length_nil,List.nil_append,List.set_cons_zero]);exact x'.o):G:=h ⟨k⟩
theorem Z9i (k:G') (h:Hid G'→G:=by intro x';refine q39 mixed none 1 ?_;exact x'.o):G:=h ⟨k⟩
theorem Z9j (k:G') (h:Hid G'→G:=by intro x';refine Z9i ?_;refine Z82 ?_;exact x'.o):G:=h ⟨k⟩
theorem Z9k (k:G') (h:Hid G'→G:=by intro x';refine aqp 0 rfl Y1v (by decide) (fun G=>qc rfl (lk rfl rfl) rfl (by decide)) ?_;exact x'.o):G:=h ⟨k⟩
theorem Z9l (k:G') (h:Hid G'→G:=by intro x';refine aqp 1 rfl Y1v (by decide) (fun G=>qh (v:=.int _ _) rfl (lk rfl rfl) rfl rfl rfl) ?_;exact x'.o):G:=h ⟨k⟩
theorem Z9m (k:G') (h:Hid G'→G:=by intro x';refine aq0 2 rfl Y1v (by decide) (fun _=>qzd rfl rfl) ?_;exact x'.o):G:=h ⟨k⟩
theorem Z9n (k:G') (h:Hid G'→G:=by intro x';refine q17 (g:=31) 4 rfl Y1v (by decide) rfl rfl rfl ?_;exact x'.o):G:=h ⟨k⟩
theorem Z9o (k:G') (h:Hid G'→G:=by intro x';refine q17 (g:=31) 5 rfl Y1v (by decide) rfl rfl rfl ?_;exact x'.o):G:=h ⟨k⟩
theorem Z9p (k:G') (h:Hid G'→G:=by intro x';refine q17 (g:=31) 6 rfl Y1v (by decide) rfl rfl rfl ?_;exact x'.o):G:=h ⟨k⟩
theorem Z9q (k:G') (h:Hid G'→G:=by intro x';refine q17 (g:=31) 7 rfl Y1v (by decide) rfl rfl rfl ?_;exact x'.o):G:=h ⟨k⟩
theorem Z9r (k:G') (h:Hid G'→G:=by intro x';refine aq0 8 rfl Y1v (by decide) (fun _=>q1q (v:=.bool _) rfl rfl) ?_;exact x'.o):G:=h ⟨k⟩
theorem Z9s (k:G') (h:Hid G'→G:=by intro x';refine aq0 9 rfl Y1v (by decide) (fun _=>qk (v:=.bool _) rfl) ?_;exact x'.o):G:=h ⟨k⟩
theorem Z9t (k:G') (h:Hid G'→G:=by intro x';refine q17 (g:=37) 10 rfl Y1v (by decide) rfl rfl rfl ?_;exact x'.o):G:=h ⟨k⟩
theorem Z9u (k:G') (h:Hid G'→G:=by intro x';refine q17 (g:=37) 11 rfl Y1v (by decide) rfl rfl rfl ?_;exact x'.o):G:=h ⟨k⟩
theorem Z9v (k:G') (h:Hid G'→G:=by intro x';refine q17 (g:=37) 12 rfl Y1v (by decide) rfl rfl rfl ?_;exact x'.o):G:=h ⟨k⟩
theorem Z9w (k:G') (h:Hid G'→G:=by intro x';refine q17 (g:=37) 13 rfl Y1v (by decide) rfl rfl rfl ?_;exact x'.o):G:=h ⟨k⟩
theorem Z9x (k:G') (h:Hid G'→G:=by intro x';refine q17 (g:=37) 14 rfl Y1v (by decide) rfl rfl rfl ?_;exact x'.o):G:=h ⟨k⟩
theorem Z9y (k:G') (h:Hid G'→G:=by intro x';refine q17 (g:=37) 15 rfl Y1v (by decide) rfl rfl rfl ?_;exact x'.o):G:=h ⟨k⟩
theorem Z9z (k:G') (h:Hid G'→G:=by intro x';refine q17 (g:=37) 16 rfl Y1v (by decide) rfl rfl rfl ?_;exact x'.o):G:=h ⟨k⟩
theorem Za0 (k:G') (h:Hid G'→G:=by intro x';refine q17 (g:=37) 17 rfl Y1v (by decide) rfl rfl rfl ?_;exact x'.o):G:=h ⟨k⟩
theorem Za1 (k:G') (h:Hid G'→G:=by intro x';refine q17 (g:=37) 18 rfl Y1v (by decide) rfl rfl rfl ?_;exact x'.o):G:=h ⟨k⟩
theorem Za2 (k:G') (h:Hid G'→G:=by intro x';refine q17 (g:=37) 19 rfl Y1v (by decide) rfl rfl rfl ?_;exact x'.o):G:=h ⟨k⟩
theorem Za3 (k:G') (h:Hid G'→G:=by intro x';refine aq0 20 rfl Y1v (by decide) (fun _=>q1q (v:=.bool _) rfl rfl) ?_;exact x'.o):G:=h ⟨k⟩
theorem Za4 (k:G') (h:Hid G'→G:=by intro x';refine aq0 21 rfl Y1v (by decide) (fun _=>qk (v:=.bool _) rfl) ?_;exact x'.o):G:=h ⟨k⟩
theorem Za5 (k:G') (h:Hid G'→G:=by intro x';refine q17 (g:=49) 22 rfl Y1v (by decide) rfl rfl rfl ?_;exact x'.o):G:=h ⟨k⟩
theorem Za6 (k:G') (h:Hid G'→G:=by intro x';refine q17 (g:=49) 23 rfl Y1v (by decide) rfl rfl rfl ?_;exact x'.o):G:=h ⟨k⟩
theorem Za7 (k:G') (h:Hid G'→G:=by intro x';refine q17 (g:=49) 24 rfl Y1v (by decide) rfl rfl rfl ?_;exact x'.o):G:=h ⟨k⟩
theorem Za8 (k:G') (h:Hid G'→G:=by intro x';refine q17 (g:=49) 25 rfl Y1v (by decide) rfl rfl rfl ?_;exact x'.o):G:=h ⟨k⟩
theorem Za9 (k:G') (h:Hid G'→G:=by intro x';refine aq0 26 rfl Y1v (by decide) (fun _=>q1q (v:=.bool _) rfl rfl) ?_;exact x'.o):G:=h ⟨k⟩
theorem Zaa (k:G') (h:Hid G'→G:=by intro x';refine aq0 27 rfl Y1v (by decide) (fun _=>qk (v:=.bool _) rfl) ?_;exact x'.o):G:=h ⟨k⟩
theorem Zab (k:G') (h:Hid G'→G:=by intro x';refine q17 (g:=55) 28 rfl Y1v (by decide) rfl rfl rfl ?_;refine q17 (g:=55) 29 rfl Y1v (by decide) rfl rfl rfl ?_;exact x'.o):G:=h ⟨k⟩
theorem Zac (k:G') (h:Hid G'→G:=by intro x';refine Zab ?_;refine q17 (g:=55) 30 rfl Y1v (by decide) rfl rfl rfl ?_;exact x'.o):G:=h ⟨k⟩
theorem Zad (k:G') (h:Hid G'→G:=by intro x';refine Zac ?_;refine q17 (g:=55) 31 rfl Y1v (by decide) rfl rfl rfl ?_;exact x'.o):G:=h ⟨k⟩
theorem Zae (k:G') (h:Hid G'→G:=by intro x';refine Zad ?_;refine q64 (g:=59) 32 rfl Y1v (by decide) rfl rfl ?_;exact x'.o):G:=h ⟨k⟩
theorem Zaf (k:G') (h:Hid G'→G:=by intro x';refine Zae ?_;refine q64 (g:=59) 33 rfl Y1v (by decide) rfl rfl ?_;exact x'.o):G:=h ⟨k⟩
theorem Zag (k:G') (h:Hid G'→G:=by intro x';refine Zaf ?_;refine q64 (g:=59) 34 rfl Y1v (by decide) rfl rfl ?_;exact x'.o):G:=h ⟨k⟩
theorem Zah (k:G') (h:Hid G'→G:=by intro x';refine Zag ?_;refine q17 (g:=55) 35 rfl Y1v (by decide) rfl rfl rfl ?_;exact x'.o):G:=h ⟨k⟩
theorem Zai (k:G') (h:Hid G'→G:=by intro x';refine Zah ?_;refine aq0 36 rfl Y1v (by decide) (fun _=>q1q (v:=.bool _) rfl rfl) ?_;exact x'.o):G:=h ⟨k⟩
theorem Zaj (h:G:=by exact q1y Y1v Y1f (Out.mk (by (refine congrArg AV.bool ?_;(rw [hB2];clear hB hr1 hB2;(simp_all;omega)))) Yb)):G:=h
theorem Zak (k:G') (h:Hid G'→G:=by intro x';refine q2x (g:=31) 4 rfl Y1v (by decide) rfl rfl (fun G=>qc rfl (lk rfl rfl) rfl (by decide)) ?_;exact x'.o):G:=h ⟨k⟩
theorem Zal (k:G') (h:Hid G'→G:=by intro x';refine q2x (g:=31) 5 rfl Y1v (by decide) rfl rfl (fun G=>qh (v:=.int _ _) rfl (lk rfl rfl) rfl rfl rfl) ?_;exact x'.o):G:=h ⟨k⟩
theorem Zam (k:G') (h:Hid G'→G:=by intro x';refine q2s (g:=31) 6 rfl Y1v (by decide) rfl rfl (fun _=>qk (v:=.int _ _) rfl) ?_;exact x'.o):G:=h ⟨k⟩
theorem Zan (k:G') (h:Hid G'→G:=by intro x';refine q2s (g:=31) 7 rfl Y1v (by decide) rfl rfl (fun _=>qxh rfl rfl) ?_;exact x'.o):G:=h ⟨k⟩
theorem Zao (k:G') (h:Hid G'→G:=by intro x';refine aq0 8 rfl Y1v (by decide) (fun _=>q1r (v:=.bool _) rfl rfl) ?_;exact x'.o):G:=h ⟨k⟩
theorem Zap (h:G:=by exact q1y Y1v Y1f (Out.mk (by (refine congrArg AV.bool ?_;(rw [hB2];clear hB hr1 hB2;(simp_all;done)))) Yb)):G:=h
theorem Zaq (k:G') (h:Hid G'→G:=by intro x';refine aq0 26 rfl Y1v (by decide) (fun _=>q1r (v:=.bool _) rfl rfl) ?_;exact x'.o):G:=h ⟨k⟩
theorem Zar (k:G') (h:Hid G'→G:=by intro x';refine aq0 36 rfl Y1v (by decide) (fun _=>q1r (v:=.bool _) rfl rfl) ?_;exact x'.o):G:=h ⟨k⟩
theorem Zas (h:G:=by exact q1y Y1v Y1f (Out.mk (by (refine congrArg AV.bool ?_;(rw [hB3];clear hB hB3;(simp_all;done)))) Yb)):G:=h
theorem Zat (h:G:=by exact qe (Out.mk (by (refine congrArg AV.bool ?_;(simp only [q84];clear hB;(simp_all;omega)))) Yb)):G:=h
theorem Zau (k:G') (h:Hid G'→G:=by intro x';refine Z3h ?_;refine Z8 ?_;exact x'.o):G:=h ⟨k⟩
theorem Zav (k:G') (h:Hid G'→G:=by intro x';(try dsimp only [List.length_nil,put,List.length_cons,Nat.reduceAdd,List.nil_append]);exact x'.o):G:=h ⟨k⟩
theorem Zaw (k:G') (h:Hid G'→G:=by intro x';refine ao1 (by decide) (qw rfl (lk rfl rfl) rfl rfl rfl (by omega)) ?_;exact x'.o):G:=h ⟨k⟩
theorem Zax (k:G') (h:Hid G'→G:=by intro x';refine qe ?_;refine Z7f ?_;exact x'.o):G:=h ⟨k⟩
theorem Zay (k:G') (h:Hid G'→G:=by intro x';refine q16 ?_;refine Z3g ?_;exact x'.o):G:=h ⟨k⟩
theorem Zaz (k:G') (h:Hid G'→G:=by intro x';refine Z40 ?_;refine qe ?_;exact x'.o):G:=h ⟨k⟩
theorem Zb0 (k:G') (h:Hid G'→G:=by intro x';refine Zay ?_;refine Zaz ?_;exact x'.o):G:=h ⟨k⟩
theorem Zb1 (k:G') (h:Hid G'→G:=by intro x';(try dsimp only [put,List.length_cons,List.length_nil,Nat.reduceAdd,List.cons_append,List.nil_append,List.set_cons_zero,List.set_cons_succ]);exact x'.o):G:=h ⟨k⟩
theorem Zb2 (k:G') (h:Hid G'→G:=by intro x';refine qe ?_;refine Zb1 ?_;exact x'.o):G:=h ⟨k⟩
theorem Zb3 (k:G') (h:Hid G'→G:=by intro x';refine q16 ?_;refine Z8s ?_;exact x'.o):G:=h ⟨k⟩
theorem Zb4 (k:G') (h:Hid G'→G:=by intro x';refine Z8 ?_;refine Zaw ?_;exact x'.o):G:=h ⟨k⟩
theorem Zb5 (k:G') (h:Hid G'→G:=by intro x';refine ao1 (by decide) (qh (v:=.bool _) rfl (lk rfl rfl) rfl hrow0 rfl) ?_;exact x'.o):G:=h ⟨k⟩
theorem Zb6 (k:G') (h:Hid G'→G:=by intro x';refine q14n rfl rfl (by decide) ?_;exact x'.o):G:=h ⟨k⟩
theorem Zb7 (k:G') (h:Hid G'→G:=by intro x';refine Zb6 ?_;refine Zb6 ?_;exact x'.o):G:=h ⟨k⟩
theorem Zb8 (k:G') (h:Hid G'→G:=by intro x';refine Zb7 ?_;refine Zb7 ?_;exact x'.o):G:=h ⟨k⟩
theorem Zb9 (k:G') (h:Hid G'→G:=by intro x';refine ao2 Y21 (q1i (sz:=1) (v:=.bool _) (r':=[.bool (uU g m i)]) rfl rfl rfl rfl hrow0 rfl rfl rfl Y1r (by rw [hat];(simp [AV.cells,hg6];done))) ?_;exact x'.o):G:=h ⟨k⟩
theorem Zba (k:G') (h:Hid G'→G:=by intro x';refine q1c rfl rfl (by decide) (qk (v:=.sl _ _ _ _ _) rfl) ?_;exact x'.o):G:=h ⟨k⟩
theorem Zbb (k:G') (h:Hid G'→G:=by intro x';refine q1c rfl rfl (by decide) (q1q (v:=.bool _) rfl rfl) ?_;exact x'.o):G:=h ⟨k⟩
theorem Zbc (k:G') (h:Hid G'→G:=by intro x';refine ao2 Y21 (q1i (sz:=1) (v:=.bool _) (r':=[.bool (uU g m i)]) rfl rfl rfl rfl hrow0 rfl rfl rfl Y1r (by rw [hat];(simp [AV.cells,hg6,hup];done))) ?_;exact x'.o):G:=h ⟨k⟩
theorem Zbd (k:G') (h:Hid G'→G:=by intro x';refine q1c rfl rfl (by decide) (q1r (v:=.bool _) rfl rfl) ?_;exact x'.o):G:=h ⟨k⟩
theorem Zbe (k:G') (h:Hid G'→G:=by intro x';(try dsimp only [List.length_nil]);exact x'.o):G:=h ⟨k⟩
theorem Zbf (k:G') (h:Hid G'→G:=by intro x';refine q1v (k:=0) 2 1 rfl (by decide) rfl ?_;exact x'.o):G:=h ⟨k⟩
theorem Zbg (k:G') (h:Hid G'→G:=by intro x';refine Z8x ?_;refine Z78 ?_;exact x'.o):G:=h ⟨k⟩
theorem Zbh (k:G') (h:Hid G'→G:=by intro x';refine Z3g ?_;refine Z8 ?_;exact x'.o):G:=h ⟨k⟩
theorem Zbi (k:G') (h:Hid G'→G:=by intro x';refine Z1p ?_;(try dsimp only [put]);exact x'.o):G:=h ⟨k⟩
theorem Zbj (k:G') (h:Hid G'→G:=by intro x';refine q12 (qa5 _ _ Y23) rfl (by decide) ?_;exact x'.o):G:=h ⟨k⟩
theorem Zbk (h:G:=by exact qe (Out.mk (by (refine congrArg AV.bool ?_;(simp only [q50];clear hB;(simp_all;omega)))) Yb)):G:=h
theorem Zbl (k:G') (h:Hid G'→G:=by intro x';refine aq0 0 rfl Y1v (by decide) (fun _=>qk (v:=.sl _ _ _ _ _) rfl) ?_;exact x'.o):G:=h ⟨k⟩
theorem Zbm (k:G') (h:Hid G'→G:=by intro x';refine Zbl ?_;refine Z1j ?_;exact x'.o):G:=h ⟨k⟩
theorem Zbn (k:G') (h:Hid G'→G:=by intro x';refine aq0 2 rfl Y1v (by decide) (fun _=>qk (v:=.sl _ _ _ _ _) rfl) ?_;exact x'.o):G:=h ⟨k⟩
theorem Zbo (k:G') (h:Hid G'→G:=by intro x';refine aq0 3 rfl Y1v (by decide) (fun _=>qk (v:=.int _ _) rfl) ?_;exact x'.o):G:=h ⟨k⟩
theorem Zbp (k:G') (h:Hid G'→G:=by intro x';refine aqp 7 rfl Y1v (by decide) (fun G=>qc rfl (lk rfl rfl) rfl (by decide)) ?_;exact x'.o):G:=h ⟨k⟩
theorem Zbq (k:G') (h:Hid G'→G:=by intro x';refine q12 (qlx _ _ _ (by omega) (by omega)) rfl (by decide) ?_;exact x'.o):G:=h ⟨k⟩
theorem Zbr (k:G') (h:Hid G'→G:=by intro x';(try dsimp only [List.nil_append]);exact x'.o):G:=h ⟨k⟩
theorem Zbs (k:G') (h:Hid G'→G:=by intro x';(try dsimp only [AV.cells,List.length_cons,List.length_nil,Nat.reduceAdd,put,List.cons_append,List.nil_append,List.set_cons_zero]);exact x'.o):G:=h ⟨k⟩
theorem Zbt (k:G') (h:Hid G'→G:=by intro x';refine q12 (qku _ _ _ _ (by omega) (by omega)) rfl (by decide) ?_;exact x'.o):G:=h ⟨k⟩
theorem Zbu (k:G') (h:Hid G'→G:=by intro x';refine ao2 Y1o (q8v (sz:=4) (v:=.agg _) rfl rfl rfl rfl (by decide) rfl) ?_;exact x'.o):G:=h ⟨k⟩
theorem Zbv (k:G') (h:Hid G'→G:=by intro x';refine Z2 ?_;refine Zbu ?_;exact x'.o):G:=h ⟨k⟩
theorem Zbw (k:G') (h:Hid G'→G:=by intro x';refine q5r rfl rfl (by decide) (V2.call (qaz _ (by omega) _) rfl) ?_;exact x'.o):G:=h ⟨k⟩
theorem Zbx (h:G:=by exact qe (Out.mk (by (refine congrArg AV.bool ?_;(simp only [hmay,tm];clear hB;(simp_all;done)))) Yb)):G:=h
theorem Zby (h:G:=by exact qe (Out.mk (by (refine congrArg AV.bool ?_;(simp only [hmay,tm];clear hB;(simp_all;omega)))) Yb)):G:=h
theorem Zbz (k:G') (h:Hid G'→G:=by intro x';refine q12 (qrc _ _ _ _ _) rfl (by decide) ?_;exact x'.o):G:=h ⟨k⟩
theorem Zc0 (h:G:=by exact qe (Out.mk (by (refine congrArg AV.bool ?_;(simp only [q5y];clear hB;(simp_all;done)))) Yb)):G:=h
theorem Zc1 (k:G') (h:Hid G'→G:=by intro x';refine Z4m ?_;refine Zt ?_;exact x'.o):G:=h ⟨k⟩
theorem Zc2 (k:G') (h:Hid G'→G:=by intro x';refine ao1 (by decide) (q1m rfl (lkF hF) rfl rfl rfl) ?_;exact x'.o):G:=h ⟨k⟩
theorem Zc3 (k:G') (h:Hid G'→G:=by intro x';refine q12 (qrz _ _ _ Y23 Y23) rfl (by decide) ?_;exact x'.o):G:=h ⟨k⟩
theorem Zc4 (k:G') (h:Hid G'→G:=by intro x';refine ao2 Y21 (q2c (sz:=4) rfl rfl rfl rfl rfl rfl rfl rfl (Nat.le_of_ble_eq_true rfl)) ?_;exact x'.o):G:=h ⟨k⟩
theorem Zc5 (k:G') (h:Hid G'→G:=by intro x';refine aqp 0 rfl Y1v (by decide) (fun G=>q1m rfl (lk rfl rfl) rfl rfl rfl) ?_;exact x'.o):G:=h ⟨k⟩
theorem Zc6 (k:G') (h:Hid G'→G:=by intro x';refine q8b 1 rfl Y1v (by decide) (fun _=>V2.call (qoa _ _ Y23) rfl) ?_;exact x'.o):G:=h ⟨k⟩
theorem Zc7 (k:G') (h:Hid G'→G:=by intro x';refine aq0 2 rfl Y1v (by decide) (fun _=>qa2 rfl) ?_;exact x'.o):G:=h ⟨k⟩
theorem Zc8 (k:G') (h:Hid G'→G:=by intro x';refine q17 (g:=18) 4 rfl Y1v (by decide) rfl rfl rfl ?_;exact x'.o):G:=h ⟨k⟩
theorem Zc9 (k:G') (h:Hid G'→G:=by intro x';refine q17 (g:=18) 5 rfl Y1v (by decide) rfl rfl rfl ?_;exact x'.o):G:=h ⟨k⟩
theorem Zca (k:G') (h:Hid G'→G:=by intro x';refine q17 (g:=18) 6 rfl Y1v (by decide) rfl rfl rfl ?_;exact x'.o):G:=h ⟨k⟩
theorem Zcb (k:G') (h:Hid G'→G:=by intro x';refine q64 (g:=21) 7 rfl Y1v (by decide) rfl rfl ?_;exact x'.o):G:=h ⟨k⟩
theorem Zcc (k:G') (h:Hid G'→G:=by intro x';refine q64 (g:=21) 8 rfl Y1v (by decide) rfl rfl ?_;exact x'.o):G:=h ⟨k⟩
theorem Zcd (k:G') (h:Hid G'→G:=by intro x';refine q64 (g:=21) 9 rfl Y1v (by decide) rfl rfl ?_;exact x'.o):G:=h ⟨k⟩
theorem Zce (k:G') (h:Hid G'→G:=by intro x';refine q64 (g:=21) 10 rfl Y1v (by decide) rfl rfl ?_;exact x'.o):G:=h ⟨k⟩
theorem Zcf (k:G') (h:Hid G'→G:=by intro x';refine q64 (g:=21) 11 rfl Y1v (by decide) rfl rfl ?_;exact x'.o):G:=h ⟨k⟩
theorem Zcg (k:G') (h:Hid G'→G:=by intro x';refine q64 (g:=21) 12 rfl Y1v (by decide) rfl rfl ?_;exact x'.o):G:=h ⟨k⟩
theorem Zch (k:G') (h:Hid G'→G:=by intro x';refine q64 (g:=21) 13 rfl Y1v (by decide) rfl rfl ?_;exact x'.o):G:=h ⟨k⟩
theorem Zci (k:G') (h:Hid G'→G:=by intro x';refine q64 (g:=21) 14 rfl Y1v (by decide) rfl rfl ?_;exact x'.o):G:=h ⟨k⟩
theorem Zcj (k:G') (h:Hid G'→G:=by intro x';refine q64 (g:=21) 15 rfl Y1v (by decide) rfl rfl ?_;exact x'.o):G:=h ⟨k⟩
theorem Zck (k:G') (h:Hid G'→G:=by intro x';refine q17 (g:=18) 16 rfl Y1v (by decide) rfl rfl rfl ?_;exact x'.o):G:=h ⟨k⟩
theorem Zcl (k:G') (h:Hid G'→G:=by intro x';refine aq0 17 rfl Y1v (by decide) (fun _=>q1q (v:=.bool _) rfl rfl) ?_;exact x'.o):G:=h ⟨k⟩
theorem Zcm (k:G') (h:Hid G'→G:=by intro x';refine aq0 18 rfl Y1v (by decide) (fun _=>qk (v:=.bool _) rfl) ?_;exact x'.o):G:=h ⟨k⟩
theorem Zcn (k:G') (h:Hid G'→G:=by intro x';refine q17 (g:=33) 19 rfl Y1v (by decide) rfl rfl rfl ?_;exact x'.o):G:=h ⟨k⟩
theorem Zco (k:G') (h:Hid G'→G:=by intro x';refine q17 (g:=33) 20 rfl Y1v (by decide) rfl rfl rfl ?_;exact x'.o):G:=h ⟨k⟩
theorem Zcp (k:G') (h:Hid G'→G:=by intro x';refine q17 (g:=33) 21 rfl Y1v (by decide) rfl rfl rfl ?_;exact x'.o):G:=h ⟨k⟩
theorem Zcq (k:G') (h:Hid G'→G:=by intro x';refine q17 (g:=33) 22 rfl Y1v (by decide) rfl rfl rfl ?_;exact x'.o):G:=h ⟨k⟩
theorem Zcr (k:G') (h:Hid G'→G:=by intro x';refine q17 (g:=33) 23 rfl Y1v (by decide) rfl rfl rfl ?_;exact x'.o):G:=h ⟨k⟩
theorem Zcs (k:G') (h:Hid G'→G:=by intro x';refine aq0 24 rfl Y1v (by decide) (fun _=>q1q (v:=.bool _) rfl rfl) ?_;exact x'.o):G:=h ⟨k⟩
theorem Zct (h:G:=by exact q1y Y1v Y1f (Out.mk (by (refine congrArg AV.bool ?_;(rw [hB2];clear hB hr1 hB2 hno0 hli;(simp_all;done)))) Yb)):G:=h
theorem Zcu (k:G') (h:Hid G'→G:=by intro x';refine q2s (g:=18) 4 rfl Y1v (by decide) rfl rfl (fun _=>qk (v:=.int _ _) rfl) ?_;exact x'.o):G:=h ⟨k⟩
theorem Zcv (k:G') (h:Hid G'→G:=by intro x';refine q2s (g:=18) 5 rfl Y1v (by decide) rfl rfl (fun _=>qxh rfl rfl) ?_;exact x'.o):G:=h ⟨k⟩
theorem Zcw (k:G') (h:Hid G'→G:=by intro x';refine q2s (g:=18) 6 rfl Y1v (by decide) rfl rfl (fun _=>qk (v:=.bool _) rfl) ?_;exact x'.o):G:=h ⟨k⟩
theorem Zcx (k:G') (h:Hid G'→G:=by intro x';refine q2s (g:=21) 10 rfl Y1v (by decide) rfl rfl (fun _=>qk (v:=.int _ _) rfl) ?_;exact x'.o):G:=h ⟨k⟩
theorem Zcy (k:G') (h:Hid G'→G:=by intro x';refine aq0 17 rfl Y1v (by decide) (fun _=>q1r (v:=.bool _) rfl rfl) ?_;exact x'.o):G:=h ⟨k⟩
theorem Zcz (k:G') (h:Hid G'→G:=by intro x';refine q2s (g:=33) 19 rfl Y1v (by decide) rfl rfl (fun _=>qk (v:=.pl _) rfl) ?_;exact x'.o):G:=h ⟨k⟩
theorem Zd0 (k:G') (h:Hid G'→G:=by intro x';refine q2s (g:=33) 20 rfl Y1v (by decide) rfl rfl (fun _=>qk (v:=.int _ _) rfl) ?_;exact x'.o):G:=h ⟨k⟩
theorem Zd1 (k:G') (h:Hid G'→G:=by intro x';refine q2s (g:=33) 21 rfl Y1v (by decide) rfl rfl (fun _=>q6r (ys:=(l.take i).map qi) rfl (Bd.some rfl rfl) Y22 (qln _) hli) ?_;exact x'.o):G:=h ⟨k⟩
theorem Zd2 (k:G') (h:Hid G'→G:=by intro x';refine q2s (g:=33) 22 rfl Y1v (by decide) rfl rfl (fun _=>q7a (vs:=[]) (us:=[_]) rfl rfl) ?_;exact x'.o):G:=h ⟨k⟩
theorem Zd3 (k:G') (h:Hid G'→G:=by intro x';refine q14h (g:=33) 23 rfl Y1v (by decide) rfl rfl (fun G=>V2.call (q9l (l.take i) h _ _ (hl.take i) hw (lk rfl rfl)) rfl) ?_;exact x'.o):G:=h ⟨k⟩
theorem Zd4 (k:G') (h:Hid G'→G:=by intro x';refine aq0 24 rfl Y1v (by decide) (fun _=>q1r (v:=.bool _) rfl rfl) ?_;exact x'.o):G:=h ⟨k⟩
theorem Zd5 (k:G') (h:Hid G'→G:=by intro x';refine q17 (g:=21) 7 rfl Y1v (by decide) rfl rfl rfl ?_;exact x'.o):G:=h ⟨k⟩
theorem Zd6 (k:G') (h:Hid G'→G:=by intro x';refine q17 (g:=21) 8 rfl Y1v (by decide) rfl rfl rfl ?_;exact x'.o):G:=h ⟨k⟩
theorem Zd7 (k:G') (h:Hid G'→G:=by intro x';refine q17 (g:=21) 9 rfl Y1v (by decide) rfl rfl rfl ?_;exact x'.o):G:=h ⟨k⟩
theorem Zd8 (k:G') (h:Hid G'→G:=by intro x';refine q17 (g:=21) 10 rfl Y1v (by decide) rfl rfl rfl ?_;exact x'.o):G:=h ⟨k⟩
theorem Zd9 (k:G') (h:Hid G'→G:=by intro x';refine q17 (g:=21) 11 rfl Y1v (by decide) rfl rfl rfl ?_;exact x'.o):G:=h ⟨k⟩
theorem Zda (k:G') (h:Hid G'→G:=by intro x';refine q17 (g:=21) 12 rfl Y1v (by decide) rfl rfl rfl ?_;exact x'.o):G:=h ⟨k⟩
theorem Zdb (k:G') (h:Hid G'→G:=by intro x';refine q17 (g:=21) 13 rfl Y1v (by decide) rfl rfl rfl ?_;exact x'.o):G:=h ⟨k⟩
theorem Zdc (k:G') (h:Hid G'→G:=by intro x';refine q17 (g:=21) 14 rfl Y1v (by decide) rfl rfl rfl ?_;exact x'.o):G:=h ⟨k⟩
theorem Zdd (k:G') (h:Hid G'→G:=by intro x';refine q17 (g:=21) 15 rfl Y1v (by decide) rfl rfl rfl ?_;exact x'.o):G:=h ⟨k⟩
theorem Zde (k:G') (h:Hid G'→G:=by intro x';refine q2s (g:=18) 16 rfl Y1v (by decide) rfl rfl (fun _=>q1r (v:=.bool _) rfl rfl) ?_;exact x'.o):G:=h ⟨k⟩
theorem Zdf (h:G:=by exact q1y Y1v Y1f (Out.mk (by (refine congrArg AV.bool ?_;(rw [hB2];clear hB hB2 hno0 hli;(simp_all;done)))) Yb)):G:=h
theorem Zdg (k:G') (h:Hid G'→G:=by intro x';refine q12 (qnl _ _ _) rfl (by decide) ?_;exact x'.o):G:=h ⟨k⟩
theorem Zdh (k:G') (h:Hid G'→G:=by intro x';refine ao1 (by decide) (q20 (r:=((lo+hi:Nat):Int)) rfl rfl (by rw [show (lo:Int)+(hi:Int)=((lo+hi:Nat):Int) by omega];exact qd (by omega) (by omega))) ?_;exact x'.o):G:=h ⟨k⟩
theorem Zdi (k:G') (h:Hid G'→G:=by intro x';refine ao1 (by decide) (qp (r:=((lo+hi:Nat):Int)) rfl Y16) ?_;exact x'.o):G:=h ⟨k⟩
theorem Zdj (k:G') (h:Hid G'→G:=by intro x';refine ao1 (by decide) (qmh (r:=(((lo+hi) / 2:Nat):Int)) rfl rfl (by decide) (by rw [show ((2:Int) ^ min (1:Int).toNat IntKind.u64.bits)=((2:Nat):Int) from rfl,Int.fdiv_eq_ediv_of_nonneg _ (by omega)];exact (Int.natCast_ediv _ _).symm)) ?_;exact x'.o):G:=h ⟨k⟩
theorem Zdk (k:G') (h:Hid G'→G:=by intro x';refine ao1 (by decide) (qp (r:=(((lo+hi) / 2:Nat):Int)) rfl (qd (by omega) (by omega))) ?_;exact x'.o):G:=h ⟨k⟩
theorem Zdl (k:G') (h:Hid G'→G:=by intro x';refine ao1 (by decide) (q20 (r:=(((lo+hi) / 2+1:Nat):Int)) rfl rfl (by rw [show (((lo+hi) / 2:Nat):Int)+1=(((lo+hi) / 2+1:Nat):Int) by omega];exact qd (by omega) (by omega))) ?_;exact x'.o):G:=h ⟨k⟩
theorem Zdm (k:G') (h:Hid G'→G:=by intro x';refine q1c rfl rfl (by decide) (qk (v:=.fn _ _ _) rfl) ?_;exact x'.o):G:=h ⟨k⟩
theorem Zdn (k:G') (h:Hid G'→G:=by intro x';refine q1c rfl rfl (by decide) (qz rfl rfl hr rfl) ?_;exact x'.o):G:=h ⟨k⟩
theorem Zdo (k:G') (h:Hid G'→G:=by intro x';refine Z4m ?_;refine Zq ?_;exact x'.o):G:=h ⟨k⟩
theorem Zdp (k:G') (h:Hid G'→G:=by intro x';(try dsimp only [put,AV.cells,List.nil_append,List.length_cons,List.length_nil,Nat.reduceAdd,List.cons_append]);exact x'.o):G:=h ⟨k⟩
theorem Zdq (k:G') (h:Hid G'→G:=by intro x';refine ao2 Y21 (q1i (sz:=1) (v:=.pl _) (r':=[_,_,_,_]) rfl rfl rfl rfl rfl rfl rfl rfl (Nat.le_of_ble_eq_true rfl) rfl) ?_;exact x'.o):G:=h ⟨k⟩
theorem Zdr (h:G:=by exact q4u hB (q6s rfl (lk rfl rfl) rfl rfl rfl .nil) rfl rfl):G:=h
theorem Zds (k:G') (h:Hid G'→G:=by intro x';refine q12 (qhd _ _ Y23) rfl (by decide) ?_;exact x'.o):G:=h ⟨k⟩
theorem Zdt (k:G') (h:Hid G'→G:=by intro x';refine ao1 (by decide) (V1.up (q3g (cs:=[.int _ _,_,.int _ _,.int _ _]) rfl)) ?_;exact x'.o):G:=h ⟨k⟩
theorem Zdu (k:G') (h:Hid G'→G:=by intro x';(try dsimp only [AV.up,put,List.set_cons_zero]);exact x'.o):G:=h ⟨k⟩
theorem Zdv (h:G:=by refine Zdu ?_;exact Z68):G:=h
theorem Zdw (k:G') (h:Hid G'→G:=by intro x';refine q12 (qtp _ _ _ (by omega) Y23) rfl (by decide) ?_;exact x'.o):G:=h ⟨k⟩
theorem Zdx (k:G') (h:Hid G'→G:=by intro x';refine Z62 ?_;refine Z64 ?_;exact x'.o):G:=h ⟨k⟩
theorem Zdy (k:G') (h:Hid G'→G:=by intro x';refine q12 (qfg _ _ Y23) rfl (by decide) ?_;exact x'.o):G:=h ⟨k⟩
theorem Zdz (k:G') (h:Hid G'→G:=by intro x';refine q8b 1 rfl Y1v (by decide) (fun _=>V2.call (qlc _ _) rfl) ?_;exact x'.o):G:=h ⟨k⟩
theorem Ze0 (k:G') (h:Hid G'→G:=by intro x';refine q17 (g:=22) 4 rfl Y1v (by decide) rfl rfl rfl ?_;exact x'.o):G:=h ⟨k⟩
theorem Ze1 (k:G') (h:Hid G'→G:=by intro x';refine q17 (g:=22) 5 rfl Y1v (by decide) rfl rfl rfl ?_;exact x'.o):G:=h ⟨k⟩
theorem Ze2 (k:G') (h:Hid G'→G:=by intro x';refine q17 (g:=22) 6 rfl Y1v (by decide) rfl rfl rfl ?_;exact x'.o):G:=h ⟨k⟩
theorem Ze3 (k:G') (h:Hid G'→G:=by intro x';refine q64 (g:=25) 7 rfl Y1v (by decide) rfl rfl ?_;exact x'.o):G:=h ⟨k⟩
theorem Ze4 (k:G') (h:Hid G'→G:=by intro x';refine q64 (g:=25) 8 rfl Y1v (by decide) rfl rfl ?_;exact x'.o):G:=h ⟨k⟩
theorem Ze5 (k:G') (h:Hid G'→G:=by intro x';refine q64 (g:=25) 9 rfl Y1v (by decide) rfl rfl ?_;exact x'.o):G:=h ⟨k⟩
theorem Ze6 (k:G') (h:Hid G'→G:=by intro x';refine q64 (g:=25) 10 rfl Y1v (by decide) rfl rfl ?_;exact x'.o):G:=h ⟨k⟩
theorem Ze7 (k:G') (h:Hid G'→G:=by intro x';refine q64 (g:=25) 11 rfl Y1v (by decide) rfl rfl ?_;exact x'.o):G:=h ⟨k⟩
theorem Ze8 (k:G') (h:Hid G'→G:=by intro x';refine q64 (g:=25) 12 rfl Y1v (by decide) rfl rfl ?_;exact x'.o):G:=h ⟨k⟩
theorem Ze9 (k:G') (h:Hid G'→G:=by intro x';refine q64 (g:=25) 13 rfl Y1v (by decide) rfl rfl ?_;exact x'.o):G:=h ⟨k⟩
theorem Zea (k:G') (h:Hid G'→G:=by intro x';refine q64 (g:=25) 14 rfl Y1v (by decide) rfl rfl ?_;exact x'.o):G:=h ⟨k⟩
theorem Zeb (k:G') (h:Hid G'→G:=by intro x';refine q64 (g:=25) 15 rfl Y1v (by decide) rfl rfl ?_;exact x'.o):G:=h ⟨k⟩
theorem Zec (k:G') (h:Hid G'→G:=by intro x';refine q64 (g:=25) 16 rfl Y1v (by decide) rfl rfl ?_;exact x'.o):G:=h ⟨k⟩
theorem Zed (k:G') (h:Hid G'→G:=by intro x';refine q64 (g:=35) 17 rfl Y1v (by decide) rfl rfl ?_;exact x'.o):G:=h ⟨k⟩
theorem Zee (k:G') (h:Hid G'→G:=by intro x';refine q64 (g:=35) 18 rfl Y1v (by decide) rfl rfl ?_;exact x'.o):G:=h ⟨k⟩
theorem Zef (k:G') (h:Hid G'→G:=by intro x';refine q64 (g:=35) 19 rfl Y1v (by decide) rfl rfl ?_;exact x'.o):G:=h ⟨k⟩
theorem Zeg (k:G') (h:Hid G'→G:=by intro x';refine q64 (g:=35) 20 rfl Y1v (by decide) rfl rfl ?_;exact x'.o):G:=h ⟨k⟩
theorem Zeh (k:G') (h:Hid G'→G:=by intro x';refine q64 (g:=35) 21 rfl Y1v (by decide) rfl rfl ?_;exact x'.o):G:=h ⟨k⟩
theorem Zei (k:G') (h:Hid G'→G:=by intro x';refine q64 (g:=35) 22 rfl Y1v (by decide) rfl rfl ?_;exact x'.o):G:=h ⟨k⟩
theorem Zej (k:G') (h:Hid G'→G:=by intro x';refine q64 (g:=35) 23 rfl Y1v (by decide) rfl rfl ?_;exact x'.o):G:=h ⟨k⟩
theorem Zek (k:G') (h:Hid G'→G:=by intro x';refine q64 (g:=35) 24 rfl Y1v (by decide) rfl rfl ?_;exact x'.o):G:=h ⟨k⟩
theorem Zel (k:G') (h:Hid G'→G:=by intro x';refine q64 (g:=35) 25 rfl Y1v (by decide) rfl rfl ?_;exact x'.o):G:=h ⟨k⟩
theorem Zem (k:G') (h:Hid G'→G:=by intro x';refine q64 (g:=25) 26 rfl Y1v (by decide) rfl rfl ?_;exact x'.o):G:=h ⟨k⟩
theorem Zen (k:G') (h:Hid G'→G:=by intro x';refine q17 (g:=22) 27 rfl Y1v (by decide) rfl rfl rfl ?_;exact x'.o):G:=h ⟨k⟩
theorem Zeo (k:G') (h:Hid G'→G:=by intro x';refine aq0 28 rfl Y1v (by decide) (fun _=>q1q (v:=.bool _) rfl rfl) ?_;exact x'.o):G:=h ⟨k⟩
theorem Zep (h:G:=by exact q1y Y1v Y1f (Out.mk (by (refine congrArg AV.bool ?_;(clear hB hr1 hli;(simp_all;done)))) Yb)):G:=h
theorem Zeq (k:G') (h:Hid G'→G:=by intro x';refine q2s (g:=22) 4 rfl Y1v (by decide) rfl rfl (fun _=>qk (v:=.int _ _) rfl) ?_;exact x'.o):G:=h ⟨k⟩
theorem Zer (k:G') (h:Hid G'→G:=by intro x';refine q2s (g:=22) 5 rfl Y1v (by decide) rfl rfl (fun _=>qxh rfl rfl) ?_;exact x'.o):G:=h ⟨k⟩
theorem Zes (k:G') (h:Hid G'→G:=by intro x';refine q2s (g:=22) 6 rfl Y1v (by decide) rfl rfl (fun _=>qk (v:=.bool _) rfl) ?_;exact x'.o):G:=h ⟨k⟩
theorem Zet (k:G') (h:Hid G'→G:=by intro x';refine q2s (g:=22) 27 rfl Y1v (by decide) rfl rfl (fun _=>q1q (v:=.bool _) rfl rfl) ?_;exact x'.o):G:=h ⟨k⟩
theorem Zeu (k:G') (h:Hid G'→G:=by intro x';refine aq0 28 rfl Y1v (by decide) (fun _=>q1r (v:=.bool _) rfl rfl) ?_;exact x'.o):G:=h ⟨k⟩
theorem Zev (k:G') (h:Hid G'→G:=by intro x';refine q17 (g:=25) 7 rfl Y1v (by decide) rfl rfl rfl ?_;exact x'.o):G:=h ⟨k⟩
theorem Zew (k:G') (h:Hid G'→G:=by intro x';refine q17 (g:=25) 8 rfl Y1v (by decide) rfl rfl rfl ?_;exact x'.o):G:=h ⟨k⟩
theorem Zex (k:G') (h:Hid G'→G:=by intro x';refine q17 (g:=25) 9 rfl Y1v (by decide) rfl rfl rfl ?_;exact x'.o):G:=h ⟨k⟩
theorem Zey (k:G') (h:Hid G'→G:=by intro x';refine q17 (g:=25) 10 rfl Y1v (by decide) rfl rfl rfl ?_;exact x'.o):G:=h ⟨k⟩
theorem Zez (k:G') (h:Hid G'→G:=by intro x';refine q17 (g:=25) 11 rfl Y1v (by decide) rfl rfl rfl ?_;exact x'.o):G:=h ⟨k⟩
theorem Zf0 (k:G') (h:Hid G'→G:=by intro x';refine q17 (g:=25) 12 rfl Y1v (by decide) rfl rfl rfl ?_;exact x'.o):G:=h ⟨k⟩
theorem Zf1 (k:G') (h:Hid G'→G:=by intro x';refine q17 (g:=25) 13 rfl Y1v (by decide) rfl rfl rfl ?_;exact x'.o):G:=h ⟨k⟩
theorem Zf2 (k:G') (h:Hid G'→G:=by intro x';refine q17 (g:=25) 14 rfl Y1v (by decide) rfl rfl rfl ?_;exact x'.o):G:=h ⟨k⟩
theorem Zf3 (k:G') (h:Hid G'→G:=by intro x';refine q17 (g:=25) 15 rfl Y1v (by decide) rfl rfl rfl ?_;exact x'.o):G:=h ⟨k⟩
theorem Zf4 (k:G') (h:Hid G'→G:=by intro x';refine q17 (g:=25) 16 rfl Y1v (by decide) rfl rfl rfl ?_;exact x'.o):G:=h ⟨k⟩
theorem Zf5 (k:G') (h:Hid G'→G:=by intro x';refine q17 (g:=25) 26 rfl Y1v (by decide) rfl rfl rfl ?_;exact x'.o):G:=h ⟨k⟩
theorem Zf6 (k:G') (h:Hid G'→G:=by intro x';refine q2s (g:=22) 27 rfl Y1v (by decide) rfl rfl (fun _=>q1r (v:=.bool _) rfl rfl) ?_;exact x'.o):G:=h ⟨k⟩
theorem Zf7 (h:G:=by exact q1y Y1v Y1f (Out.mk (by (refine congrArg AV.bool ?_;(clear hB hli;(simp_all;done)))) Yb)):G:=h
theorem Zf8 (k:G') (h:Hid G'→G:=by intro x';refine Z47 ?_;refine Z4 ?_;exact x'.o):G:=h ⟨k⟩
theorem Zf9 (k:G') (h:Hid G'→G:=by intro x';refine q12 (qqa _ _ _ (by omega) Y23) rfl (by decide) ?_;exact x'.o):G:=h ⟨k⟩
theorem Zfa (h:G:=by exact qe (Out.mk (by (refine congrArg AV.bool ?_;(simp only [q7x];clear hB;(simp_all;omega)))) Yb)):G:=h
theorem Zfb (k:G') (h:Hid G'→G:=by intro x';refine q12 (qaz _ (by omega) _) rfl (by decide) ?_;exact x'.o):G:=h ⟨k⟩
theorem Zfc (h:G:=by exact qe (Out.mk (by (refine congrArg AV.bool ?_;(simp only [q2q];clear hB;(simp_all;done)))) Yb)):G:=h
theorem Zfd (h:G:=by exact qe (Out.mk (by (refine congrArg AV.bool ?_;(clear hB hs hd hr hx hxl;(simp_all;done)))) Yb)):G:=h
theorem Zfe (k:G') (h:Hid G'→G:=by intro x';refine q1c rfl rfl (by decide) (q2m (v:=.int _ _) rfl hr rfl) ?_;exact x'.o):G:=h ⟨k⟩
theorem Zff (k:G') (h:Hid G'→G:=by intro x';refine ao2 Y1o (q8v (sz:=9) (v:=.agg _) rfl rfl rfl rfl (by decide) rfl) ?_;exact x'.o):G:=h ⟨k⟩
theorem Zfg (k:G') (h:Hid G'→G:=by intro x';refine Z2 ?_;refine Zff ?_;exact x'.o):G:=h ⟨k⟩
theorem Zfh (k:G') (h:Hid G'→G:=by intro x';refine Z2 ?_;refine Z9d ?_;exact x'.o):G:=h ⟨k⟩
theorem Zfi (k:G') (h:Hid G'→G:=by intro x';refine Z5d ?_;refine Z5q ?_;exact x'.o):G:=h ⟨k⟩
theorem Zfj (k:G') (h:Hid G'→G:=by intro x';refine Zfh ?_;refine Zfi ?_;exact x'.o):G:=h ⟨k⟩
theorem Zfk (k:G') (h:Hid G'→G:=by intro x';refine Z77 ?_;refine Zc4 ?_;exact x'.o):G:=h ⟨k⟩
theorem Zfl (k:G') (h:Hid G'→G:=by intro x';(try dsimp only [Nat.reduceAdd,List.length_cons,List.length_nil,put,List.cons_append,List.nil_append,List.set_cons_zero,List.set_cons_succ]);exact x'.o):G:=h ⟨k⟩
theorem Zfm (k:G') (h:Hid G'→G:=by intro x';refine q39 mixed none 3 ?_;exact x'.o):G:=h ⟨k⟩
theorem Zfn (k:G') (h:Hid G'→G:=by intro x';refine q17 (g:=49) 10 rfl Y1v (by decide) rfl rfl rfl ?_;exact x'.o):G:=h ⟨k⟩
theorem Zfo (k:G') (h:Hid G'→G:=by intro x';refine q17 (g:=49) 11 rfl Y1v (by decide) rfl rfl rfl ?_;exact x'.o):G:=h ⟨k⟩
theorem Zfp (k:G') (h:Hid G'→G:=by intro x';refine q17 (g:=49) 12 rfl Y1v (by decide) rfl rfl rfl ?_;exact x'.o):G:=h ⟨k⟩
theorem Zfq (k:G') (h:Hid G'→G:=by intro x';refine q17 (g:=49) 13 rfl Y1v (by decide) rfl rfl rfl ?_;exact x'.o):G:=h ⟨k⟩
theorem Zfr (k:G') (h:Hid G'→G:=by intro x';refine q17 (g:=49) 14 rfl Y1v (by decide) rfl rfl rfl ?_;exact x'.o):G:=h ⟨k⟩
theorem Zfs (k:G') (h:Hid G'→G:=by intro x';refine q17 (g:=49) 15 rfl Y1v (by decide) rfl rfl rfl ?_;exact x'.o):G:=h ⟨k⟩
theorem Zft (k:G') (h:Hid G'→G:=by intro x';refine q17 (g:=49) 16 rfl Y1v (by decide) rfl rfl rfl ?_;exact x'.o):G:=h ⟨k⟩
theorem Zfu (k:G') (h:Hid G'→G:=by intro x';refine q17 (g:=49) 17 rfl Y1v (by decide) rfl rfl rfl ?_;exact x'.o):G:=h ⟨k⟩
theorem Zfv (k:G') (h:Hid G'→G:=by intro x';refine aq0 18 rfl Y1v (by decide) (fun _=>q1q (v:=.bool _) rfl rfl) ?_;exact x'.o):G:=h ⟨k⟩
theorem Zfw (k:G') (h:Hid G'→G:=by intro x';refine aq0 19 rfl Y1v (by decide) (fun _=>qk (v:=.bool _) rfl) ?_;exact x'.o):G:=h ⟨k⟩
theorem Zfx (k:G') (h:Hid G'→G:=by intro x';refine q17 (g:=59) 20 rfl Y1v (by decide) rfl rfl rfl ?_;exact x'.o):G:=h ⟨k⟩
theorem Zfy (k:G') (h:Hid G'→G:=by intro x';refine q17 (g:=59) 21 rfl Y1v (by decide) rfl rfl rfl ?_;exact x'.o):G:=h ⟨k⟩
theorem Zfz (k:G') (h:Hid G'→G:=by intro x';refine q17 (g:=59) 22 rfl Y1v (by decide) rfl rfl rfl ?_;exact x'.o):G:=h ⟨k⟩
theorem Zg0 (k:G') (h:Hid G'→G:=by intro x';refine q17 (g:=59) 23 rfl Y1v (by decide) rfl rfl rfl ?_;exact x'.o):G:=h ⟨k⟩
theorem Zg1 (k:G') (h:Hid G'→G:=by intro x';refine q17 (g:=59) 24 rfl Y1v (by decide) rfl rfl rfl ?_;exact x'.o):G:=h ⟨k⟩
theorem Zg2 (k:G') (h:Hid G'→G:=by intro x';refine aq0 25 rfl Y1v (by decide) (fun _=>q1q (v:=.bool _) rfl rfl) ?_;exact x'.o):G:=h ⟨k⟩
theorem Zg3 (k:G') (h:Hid G'→G:=by intro x';refine aq0 26 rfl Y1v (by decide) (fun _=>qk (v:=.bool _) rfl) ?_;exact x'.o):G:=h ⟨k⟩
theorem Zg4 (k:G') (h:Hid G'→G:=by intro x';refine q17 (g:=66) 27 rfl Y1v (by decide) rfl rfl rfl ?_;exact x'.o):G:=h ⟨k⟩
theorem Zg5 (k:G') (h:Hid G'→G:=by intro x';refine q17 (g:=66) 28 rfl Y1v (by decide) rfl rfl rfl ?_;exact x'.o):G:=h ⟨k⟩
theorem Zg6 (k:G') (h:Hid G'→G:=by intro x';refine q17 (g:=66) 29 rfl Y1v (by decide) rfl rfl rfl ?_;exact x'.o):G:=h ⟨k⟩
theorem Zg7 (k:G') (h:Hid G'→G:=by intro x';refine q17 (g:=66) 30 rfl Y1v (by decide) rfl rfl rfl ?_;exact x'.o):G:=h ⟨k⟩
theorem Zg8 (k:G') (h:Hid G'→G:=by intro x';refine q17 (g:=66) 31 rfl Y1v (by decide) rfl rfl rfl ?_;exact x'.o):G:=h ⟨k⟩
theorem Zg9 (k:G') (h:Hid G'→G:=by intro x';refine q17 (g:=66) 32 rfl Y1v (by decide) rfl rfl rfl ?_;exact x'.o):G:=h ⟨k⟩
theorem Zga (k:G') (h:Hid G'→G:=by intro x';refine aq0 33 rfl Y1v (by decide) (fun _=>q1q (v:=.bool _) rfl rfl) ?_;exact x'.o):G:=h ⟨k⟩
theorem Zgb (h:G:=by exact q1y Y1v Y1f (Out.mk (by (refine congrArg AV.bool ?_;(rw [hB2];clear hB hB2 hno0 hstep hbel hrl;(simp_all;done)))) Yb)):G:=h
theorem Zgc (h:G:=by exact q4u hB (q2n (by refine congrArg AV.bool ?_;rw [Bool.eq_iff_iff];simp;omega) .nil) rfl rfl):G:=h
theorem Zgd (k:G') (h:Hid G'→G:=by intro x';refine q5r rfl rfl (by decide) (V2.call (qfo _ _ _ (by omega) (by omega)) rfl) ?_;exact x'.o):G:=h ⟨k⟩
theorem Zge (k:G') (h:Hid G'→G:=by intro x';refine q5r rfl rfl (by decide) (V2.call (qml _ _ _) rfl) ?_;exact x'.o):G:=h ⟨k⟩
theorem Zgf (h:G:=by exact qe (Out.mk (by (refine congrArg AV.bool ?_;(clear hB;simp only [tm];(simp_all;done)))) Yb)):G:=h
theorem Zgg (h:G:=by exact qe (Out.mk (by (refine congrArg AV.bool ?_;(clear hB;simp only [tm];(simp_all;omega)))) Yb)):G:=h
theorem Zgh (k:G') (h:Hid G'→G:=by intro x';refine q5r rfl rfl (by decide) (V2.call (qhd _ _ Y23) rfl) ?_;exact x'.o):G:=h ⟨k⟩
theorem Zgi (h:G:=by exact qe (Out.mk (by (refine congrArg AV.bool ?_;(simp only [q34];clear hB;(simp_all;done)))) Yb)):G:=h
theorem Zgj (k:G') (h:Hid G'→G:=by intro x';refine aq0 0 rfl Y1v (by decide) (fun _=>qk (v:=.pt _ _ _ _) rfl) ?_;exact x'.o):G:=h ⟨k⟩
theorem Zgk (k:G') (h:Hid G'→G:=by intro x';refine aqp 1 rfl Y1v (by decide) (fun G=>qy rfl (lkF hF) rfl) ?_;exact x'.o):G:=h ⟨k⟩
theorem Zgl (k:G') (h:Hid G'→G:=by intro x';refine aqp 2 rfl Y1v (by decide) (fun G=>qc rfl (lkF hF) rfl (by decide)) ?_;exact x'.o):G:=h ⟨k⟩
theorem Zgm (k:G') (h:Hid G'→G:=by intro x';refine aqp 3 rfl Y1v (by decide) (fun G=>qc rfl (lkF hF) rfl (by decide)) ?_;exact x'.o):G:=h ⟨k⟩
theorem Zgn (k:G') (h:Hid G'→G:=by intro x';refine aqp 4 rfl Y1v (by decide) (fun G=>qh (v:=.pl _) rfl (lkF hF) rfl rfl rfl) ?_;exact x'.o):G:=h ⟨k⟩
theorem Zgo (k:G') (h:Hid G'→G:=by intro x';refine aq0 5 rfl Y1v (by decide) (fun _=>qk (v:=.pt _ _ _ _) rfl) ?_;exact x'.o):G:=h ⟨k⟩
theorem Zgp (k:G') (h:Hid G'→G:=by intro x';refine aqp 6 rfl Y1v (by decide) (fun G=>qy rfl (lkF hF) rfl) ?_;exact x'.o):G:=h ⟨k⟩
theorem Zgq (k:G') (h:Hid G'→G:=by intro x';refine aqp 7 rfl Y1v (by decide) (fun G=>qc rfl (lkF hF) rfl (by decide)) ?_;exact x'.o):G:=h ⟨k⟩
theorem Zgr (k:G') (h:Hid G'→G:=by intro x';refine aqp 8 rfl Y1v (by decide) (fun G=>qc rfl (lkF hF) rfl (by decide)) ?_;exact x'.o):G:=h ⟨k⟩
theorem Zgs (k:G') (h:Hid G'→G:=by intro x';refine aqp 9 rfl Y1v (by decide) (fun G=>qh (v:=.pl _) rfl (lkF hF) rfl rfl rfl) ?_;exact x'.o):G:=h ⟨k⟩
theorem Zgt (k:G') (h:Hid G'→G:=by intro x';refine aq0 10 rfl Y1v (by decide) (fun _=>qk (v:=.pt _ _ _ _) rfl) ?_;exact x'.o):G:=h ⟨k⟩
theorem Zgu (k:G') (h:Hid G'→G:=by intro x';refine aqp 11 rfl Y1v (by decide) (fun G=>qy rfl (lkF hF) rfl) ?_;exact x'.o):G:=h ⟨k⟩
theorem Zgv (k:G') (h:Hid G'→G:=by intro x';refine aqp 12 rfl Y1v (by decide) (fun G=>qc rfl (lkF hF) rfl (by decide)) ?_;exact x'.o):G:=h ⟨k⟩
theorem Zgw (k:G') (h:Hid G'→G:=by intro x';refine aqp 13 rfl Y1v (by decide) (fun G=>qc rfl (lkF hF) rfl (by decide)) ?_;exact x'.o):G:=h ⟨k⟩
theorem Zgx (k:G') (h:Hid G'→G:=by intro x';refine aqp 14 rfl Y1v (by decide) (fun G=>qh (v:=.pl _) rfl (lkF hF) rfl rfl rfl) ?_;exact x'.o):G:=h ⟨k⟩
theorem Zgy (k:G') (h:Hid G'→G:=by intro x';refine aq0 17 rfl Y1v (by decide) (fun _=>qx (v:=.pl _) rfl) ?_;exact x'.o):G:=h ⟨k⟩
theorem Zgz (k:G') (h:Hid G'→G:=by intro x';refine Z1l ?_;refine Z3b ?_;exact x'.o):G:=h ⟨k⟩
theorem Zh0 (k:G') (h:Hid G'→G:=by intro x';refine ao2 Y1o (q38 (sz:=9) rfl (by decide) rfl) ?_;exact x'.o):G:=h ⟨k⟩
theorem Zh1 (k:G') (h:Hid G'→G:=by intro x';refine q12 (qa5 _ _ (by omega)) rfl (by decide) ?_;exact x'.o):G:=h ⟨k⟩
theorem Zh2 (h:G:=by exact qe (Out.mk (by (refine congrArg AV.bool ?_;(clear hB;(simp_all;done)))) Yb)):G:=h
theorem Zh3 (k:G') (h:Hid G'→G:=by intro x';refine Z1w ?_;refine Zr ?_;exact x'.o):G:=h ⟨k⟩
theorem Zh4 (k:G') (h:Hid G'→G:=by intro x';refine ao1 (by decide) (V1.up (q3g (cs:=[_,_,_,.int _ _,_,_,.int _ _,.int _ _,.int _ _]) rfl)) ?_;exact x'.o):G:=h ⟨k⟩
theorem Zh5 (k:G') (h:Hid G'→G:=by intro x';refine ao2 Y21 (q2c (sz:=9) rfl rfl rfl rfl rfl rfl rfl rfl (Nat.le_of_ble_eq_true rfl)) ?_;exact x'.o):G:=h ⟨k⟩
theorem Zh6 (k:G') (h:Hid G'→G:=by intro x';refine Zh5 ?_;refine Z4 ?_;exact x'.o):G:=h ⟨k⟩
theorem Zh7 (k:G') (h:Hid G'→G:=by intro x';refine Z37 ?_;refine Z5q ?_;exact x'.o):G:=h ⟨k⟩
theorem Zh8 (k:G') (h:Hid G'→G:=by intro x';refine q12 (qfk _ _ (by omega)) rfl (by decide) ?_;exact x'.o):G:=h ⟨k⟩
theorem Zh9 (k:G') (h:Hid G'→G:=by intro x';refine ao1 (by decide) (V1.up (q3g (cs:=[.int _ _,.int _ _,.int _ _,.int _ _,.str _,.bool _,.int _ _,.int _ _,_,.int _ _,.int _ _,.int _ _,.int _ _]) rfl)) ?_;exact x'.o):G:=h ⟨k⟩
theorem Zha (k:G') (h:Hid G'→G:=by intro x';refine q12 (qk7 _ _ Y23) rfl (by decide) ?_;exact x'.o):G:=h ⟨k⟩
theorem Zhb (k:G') (h:Hid G'→G:=by intro x';refine ao2 Y1o (q2b (sz:=13) (v:=.agg _) rfl (by decide) (by decide) rfl rfl rfl rfl rfl) ?_;exact x'.o):G:=h ⟨k⟩
theorem Zhc (k:G') (h:Hid G'→G:=by intro x';refine ao2 Y1o (q46 rfl rfl rfl rfl rfl (q107 rfl rfl rfl rfl rfl rfl) rfl Y1z (by simp;done) Y1z Y1z) ?_;exact x'.o):G:=h ⟨k⟩
theorem Zhd (k:G') (h:Hid G'→G:=by intro x';refine Zfh ?_;refine Zfk ?_;exact x'.o):G:=h ⟨k⟩
theorem Zhe (k:G') (h:Hid G'→G:=by intro x';refine ao2 Y1o (q2b (sz:=4) (v:=.agg _) rfl (by decide) (by decide) rfl rfl rfl rfl rfl) ?_;exact x'.o):G:=h ⟨k⟩
theorem Zhf (k:G') (h:Hid G'→G:=by intro x';refine Z3e ?_;refine Z4 ?_;exact x'.o):G:=h ⟨k⟩
theorem Zhg (k:G') (h:Hid G'→G:=by intro x';refine ao2 Y1o (V2.callo (qnj l _ hw) rfl rfl) ?_;exact x'.o):G:=h ⟨k⟩
theorem Zhh (k:G') (h:Hid G'→G:=by intro x';refine Z90 ?_;refine Z4 ?_;exact x'.o):G:=h ⟨k⟩
theorem Zhi (k:G') (h:Hid G'→G:=by intro x';refine q96 8 rfl rfl rfl rfl (by simp) (q2a 0 l) ?_;exact x'.o):G:=h ⟨k⟩
theorem Zhj (h:G:=by refine q2y ?_;exact Z5b):G:=h
theorem Zhk (k:G') (h:Hid G'→G:=by intro x';refine ao1 (by decide) (q1m rfl (lk rfl rfl) rfl (qca hr) rfl) ?_;exact x'.o):G:=h ⟨k⟩
theorem Zhl (k:G') (h:Hid G'→G:=by intro x';refine Z7l ?_;refine Z14 ?_;exact x'.o):G:=h ⟨k⟩
theorem Zhm (k:G') (h:Hid G'→G:=by intro x';refine Zhl ?_;refine Z5d ?_;exact x'.o):G:=h ⟨k⟩
theorem Zhn (k:G') (h:Hid G'→G:=by intro x';refine Zhm ?_;refine Z5r ?_;exact x'.o):G:=h ⟨k⟩
theorem Zho (k:G') (h:Hid G'→G:=by intro x';refine Z4 ?_;refine Z1d ?_;exact x'.o):G:=h ⟨k⟩
theorem Zhp (k:G') (h:Hid G'→G:=by intro x';refine Z8t ?_;refine Z2d ?_;exact x'.o):G:=h ⟨k⟩
theorem Zhq (k:G') (h:Hid G'→G:=by intro x';refine ao1 (by decide) (qf6 rfl (lkF hF) rfl) ?_;exact x'.o):G:=h ⟨k⟩
theorem Zhr (k:G') (h:Hid G'→G:=by intro x';refine aq0 7 rfl Y1v (by decide) (fun _=>qx (v:=.sl _ _ _ _ _) rfl) ?_;exact x'.o):G:=h ⟨k⟩
theorem Zhs (k:G') (h:Hid G'→G:=by intro x';refine Z8t ?_;refine Z8s ?_;exact x'.o):G:=h ⟨k⟩
theorem Zht (k:G') (h:Hid G'→G:=by intro x';refine ao2 Y1o (V2.callo (qhn l _ hw) rfl rfl) ?_;exact x'.o):G:=h ⟨k⟩
theorem Zhu (k:G') (h:Hid G'→G:=by intro x';(try dsimp only [List.length_cons,List.length_nil,Nat.reduceAdd,put,List.cons_append,List.nil_append]);exact x'.o):G:=h ⟨k⟩
theorem Zhv (k:G') (h:Hid G'→G:=by intro x';refine q96 4 rfl rfl rfl rfl (by simp) (q1f 0 l) ?_;exact x'.o):G:=h ⟨k⟩
theorem Zhw (h:G:=by exact q4u hB (q2n rfl (q6s rfl (lk rfl rfl) rfl rfl rfl (q2n rfl .nil))) rfl rfl):G:=h
theorem Zhx (k:G') (h:Hid G'→G:=by intro x';refine q1y Y1v Y17 ?_;exact x'.o):G:=h ⟨k⟩
theorem Zhy (k:G') (h:Hid G'→G:=by intro x';(try dsimp only [put,List.set_cons_succ,List.set_cons_zero]);exact x'.o):G:=h ⟨k⟩
theorem Zhz (k:G') (h:Hid G'→G:=by intro x';refine ao1 (by decide) (qk (v:=.pt _ _ _ _) rfl) ?_;exact x'.o):G:=h ⟨k⟩
theorem Zi0 (k:G') (h:Hid G'→G:=by intro x';refine Z2 ?_;refine Zhz ?_;exact x'.o):G:=h ⟨k⟩
theorem Zi1 (k:G') (h:Hid G'→G:=by intro x';refine ao1 (by decide) (qc rfl (lkF hF) rfl (by decide)) ?_;exact x'.o):G:=h ⟨k⟩
theorem Zi2 (k:G') (h:Hid G'→G:=by intro x';refine ao1 (by decide) (qy rfl (lkF hF) rfl) ?_;refine Zi1 ?_;exact x'.o):G:=h ⟨k⟩
theorem Zi3 (k:G') (h:Hid G'→G:=by intro x';refine Zi0 ?_;refine Zi2 ?_;exact x'.o):G:=h ⟨k⟩
theorem Zi4 (k:G') (h:Hid G'→G:=by intro x';refine ao1 (by decide) (qh (v:=.pl _) rfl (lkF hF) rfl rfl rfl) ?_;exact x'.o):G:=h ⟨k⟩
theorem Zi5 (k:G') (h:Hid G'→G:=by intro x';refine Zi1 ?_;refine Zi4 ?_;exact x'.o):G:=h ⟨k⟩
theorem Zi6 (k:G') (h:Hid G'→G:=by intro x';refine ao1 (by decide) (q1o (v:=.pl _) rfl rfl) ?_;exact x'.o):G:=h ⟨k⟩
theorem Zi7 (k:G') (h:Hid G'→G:=by intro x';refine Z5x ?_;refine Zi6 ?_;exact x'.o):G:=h ⟨k⟩
theorem Zi8 (k:G') (h:Hid G'→G:=by intro x';refine Zi7 ?_;refine Z14 ?_;exact x'.o):G:=h ⟨k⟩
theorem Zi9 (k:G') (h:Hid G'→G:=by intro x';refine Z3p ?_;refine Z4 ?_;exact x'.o):G:=h ⟨k⟩
theorem Zia (k:G') (h:Hid G'→G:=by intro x';refine Zi8 ?_;refine Zi9 ?_;exact x'.o):G:=h ⟨k⟩
theorem Zib (k:G') (h:Hid G'→G:=by intro x';refine Zia ?_;refine Z63 ?_;exact x'.o):G:=h ⟨k⟩
theorem Zic (k:G') (h:Hid G'→G:=by intro x';refine q12 (qsy _ _ _ Y23) rfl (by decide) ?_;exact x'.o):G:=h ⟨k⟩
theorem Zid (k:G') (h:Hid G'→G:=by intro x';refine q16 ?_;refine Zhz ?_;exact x'.o):G:=h ⟨k⟩
theorem Zie (k:G') (h:Hid G'→G:=by intro x';refine Zhz ?_;refine Zi2 ?_;exact x'.o):G:=h ⟨k⟩
theorem Zif (k:G') (h:Hid G'→G:=by intro x';refine ao2 Y1o (V2.freeze1 (V2.call (qhn l _ hw) rfl) rfl (by simp) (q1f 0 l)) ?_;exact x'.o):G:=h ⟨k⟩
theorem Zig (k:G') (h:Hid G'→G:=by intro x';refine Zb3 ?_;refine Z36 ?_;exact x'.o):G:=h ⟨k⟩
theorem Zih (k:G') (h:Hid G'→G:=by intro x';refine aqp 1 rfl Y1v (by decide) (fun G=>qh (v:=.pl _) rfl (lk rfl rfl) rfl rfl rfl) ?_;exact x'.o):G:=h ⟨k⟩
theorem Zii (k:G') (h:Hid G'→G:=by intro x';refine aqp 3 rfl Y1v (by decide) (fun G=>qc rfl (lk rfl rfl) rfl (by decide)) ?_;exact x'.o):G:=h ⟨k⟩
theorem Zij (k:G') (h:Hid G'→G:=by intro x';refine aqp 4 rfl Y1v (by decide) (fun G=>qh (v:=.pl _) rfl (lk rfl rfl) rfl rfl rfl) ?_;exact x'.o):G:=h ⟨k⟩
theorem Zik (k:G') (h:Hid G'→G:=by intro x';refine aqp 6 rfl Y1v (by decide) (fun G=>qc rfl (lk rfl rfl) rfl (by decide)) ?_;exact x'.o):G:=h ⟨k⟩
theorem Zil (k:G') (h:Hid G'→G:=by intro x';refine aqp 9 rfl Y1v (by decide) (fun G=>qc rfl (lk rfl rfl) rfl (by decide)) ?_;exact x'.o):G:=h ⟨k⟩
theorem Zim (k:G') (h:Hid G'→G:=by intro x';refine aqst 10 rfl Y1v (fun G=>qi2 rfl rfl rfl rfl rfl rfl rfl rfl (Nat.le_of_ble_eq_true rfl) rfl rfl) ?_;exact x'.o):G:=h ⟨k⟩
theorem Zin (k:G') (h:Hid G'→G:=by intro x';refine aqp 11 rfl Y1v (by decide) (fun G=>qc rfl (lk rfl rfl) rfl (by decide)) ?_;exact x'.o):G:=h ⟨k⟩
theorem Zio (k:G') (h:Hid G'→G:=by intro x';refine aqst 12 rfl Y1v (fun G=>qi2 rfl rfl rfl rfl rfl rfl rfl rfl (Nat.le_of_ble_eq_true rfl) rfl rfl) ?_;exact x'.o):G:=h ⟨k⟩
theorem Zip (k:G') (h:Hid G'→G:=by intro x';refine aqp 13 rfl Y1v (by decide) (fun G=>qc rfl (lk rfl rfl) rfl (by decide)) ?_;exact x'.o):G:=h ⟨k⟩
theorem Ziq (k:G') (h:Hid G'→G:=by intro x';refine aqst 14 rfl Y1v (fun G=>qi2 rfl rfl rfl rfl rfl rfl rfl rfl (Nat.le_of_ble_eq_true rfl) rfl rfl) ?_;exact x'.o):G:=h ⟨k⟩
theorem Zir (k:G') (h:Hid G'→G:=by intro x';(try dsimp only [Nat.reduceAdd,List.cons_append,List.nil_append]);exact x'.o):G:=h ⟨k⟩
theorem Zis (k:G') (h:Hid G'→G:=by intro x';refine qe ?_;(try dsimp only [put,Nat.reduceAdd,List.set_cons_zero,List.set_cons_succ]);exact x'.o):G:=h ⟨k⟩
theorem Zit (k:G') (h:Hid G'→G:=by intro x';refine ao2 Y21 (q1i (sz:=1) (v:=.pl _) (r':=[_,_,_,_,_,_,_,_,_]) rfl rfl rfl rfl rfl rfl rfl rfl (Nat.le_of_ble_eq_true rfl) rfl) ?_;exact x'.o):G:=h ⟨k⟩
theorem Ziu (k:G') (h:Hid G'→G:=by intro x';(try dsimp only [put,Nat.reduceAdd,List.set_cons_succ,List.set_cons_zero]);exact x'.o):G:=h ⟨k⟩
theorem Ziv (k:G') (h:Hid G'→G:=by intro x';(try dsimp only [put,List.length_cons,List.length_nil,Nat.reduceAdd,AV.up,List.cons_append,List.nil_append,List.set_cons_zero,List.set_cons_succ]);exact x'.o):G:=h ⟨k⟩
theorem Ziw (h:G:=by exact qe (Out.mk (by (refine congrArg AV.bool ?_;(clear hB hlast;simp only [tm] at *;(simp_all;done)))) Yb)):G:=h
theorem Zix (k:G') (h:Hid G'→G:=by intro x';refine qr (ys:=l.map qv) 8 rfl rfl rfl rfl Yn (by simp) (q2a 0 _) ?_;exact x'.o):G:=h ⟨k⟩
theorem Ziy (h:G:=by exact q4u hB (q2n rfl (q2n rfl (q2n rfl .nil))) rfl rfl):G:=h
theorem Ziz (h:G:=by refine q2y ?_;exact Ziy):G:=h
theorem Zj0 (k:G') (h:Hid G'→G:=by intro x';refine aq0 3 rfl Y1v (by decide) (fun _=>qk (v:=.pl _) rfl) ?_;exact x'.o):G:=h ⟨k⟩
theorem Zj1 (k:G') (h:Hid G'→G:=by intro x';refine aq0 9 rfl Y1v (by decide) (fun _=>qk (v:=.int _ _) rfl) ?_;exact x'.o):G:=h ⟨k⟩
theorem Zj2 (k:G') (h:Hid G'→G:=by intro x';refine aq0 12 rfl Y1v (by decide) (fun _=>qx (v:=.int _ _) rfl) ?_;exact x'.o):G:=h ⟨k⟩
theorem Zj3 (h:G:=by exact qe (Out.mk (by (refine congrArg AV.bool ?_;(clear hB;(simp_all;omega)))) Yb)):G:=h
theorem Zj4 (k:G') (h:Hid G'→G:=by intro x';refine qr (ys:=h.map eI) 8 rfl rfl rfl rfl Yn (by simp) (qd4 0 _) ?_;exact x'.o):G:=h ⟨k⟩
theorem Zj5 (k:G') (h:Hid G'→G:=by intro x';refine Z90 ?_;refine Zho ?_;exact x'.o):G:=h ⟨k⟩
theorem Zj6 (k:G') (h:Hid G'→G:=by intro x';refine aq0 1 rfl Y1v (by decide) (fun _=>qk (v:=.pl _) rfl) ?_;exact x'.o):G:=h ⟨k⟩
theorem Zj7 (k:G') (h:Hid G'→G:=by intro x';refine aqp 2 rfl Y1v (by decide) (fun G=>qdg rfl) ?_;exact x'.o):G:=h ⟨k⟩
theorem Zj8 (k:G') (h:Hid G'→G:=by intro x';refine aqp 7 rfl Y1v (by decide) (fun G=>q1m rfl (lk rfl rfl) rfl rfl rfl) ?_;exact x'.o):G:=h ⟨k⟩
theorem Zj9 (k:G') (h:Hid G'→G:=by intro x';refine aq0 8 rfl Y1v (by decide) (fun _=>V1.up (q3g (cs:=[_,_,_,.int _ _,.int _ _,.int _ _,.str _,.bool _,.int _ _,.int _ _]) rfl)) ?_;exact x'.o):G:=h ⟨k⟩
theorem Zja (k:G') (h:Hid G'→G:=by intro x';refine aqs 9 rfl Y1v Y1f Y1o (q8v (sz:=10) (v:=.agg _) rfl rfl rfl rfl (by decide) rfl) ?_;exact x'.o):G:=h ⟨k⟩
theorem Zjb (k:G') (h:Hid G'→G:=by intro x';refine aq0 10 rfl Y1v (by decide) (fun _=>qx (v:=.pt _ _ _ _) rfl) ?_;exact x'.o):G:=h ⟨k⟩
theorem Zjc (k:G') (h:Hid G'→G:=by intro x';(try dsimp only [List.length_cons,List.length_nil,Nat.reduceAdd,List.cons_append,List.nil_append,put,AV.up,AV.cells]);exact x'.o):G:=h ⟨k⟩
theorem Zjd (k:G') (h:Hid G'→G:=by intro x';refine Zu ?_;refine Z8q ?_;exact x'.o):G:=h ⟨k⟩
theorem Zje (k:G') (h:Hid G'→G:=by intro x';refine Zjd ?_;refine Z1 ?_;exact x'.o):G:=h ⟨k⟩
theorem Zjf (k:G') (h:Hid G'→G:=by intro x';refine ao1 (by decide) (qy rfl (lk rfl rfl) rfl) ?_;refine Z2k ?_;exact x'.o):G:=h ⟨k⟩
theorem Zjg (k:G') (h:Hid G'→G:=by intro x';refine ao1 (by decide) (qh (v:=.sl _ _ _ _ _) rfl (lk rfl rfl) rfl rfl rfl) ?_;exact x'.o):G:=h ⟨k⟩
theorem Zjh (k:G') (h:Hid G'→G:=by intro x';refine ao2 Y21 (q1i (sz:=1) (v:=.bool true) (r':=[.bool true]) rfl rfl rfl rfl hrow rfl rfl rfl (Nat.le_refl 1) rfl) ?_;exact x'.o):G:=h ⟨k⟩
theorem Zji (k:G') (h:Hid G'→G:=by intro x';refine qz9 (M++[]) (by rw [← hM,List.append_nil];rfl) ?_;exact x'.o):G:=h ⟨k⟩
theorem Zjj (k:G') (h:Hid G'→G:=by intro x';refine q103 mixed (some 18) 1 hF hK ?_;exact x'.o):G:=h ⟨k⟩
theorem Zjk (k:G') (h:Hid G'→G:=by intro x';refine qn6 1 rfl Y1v (by decide) (fun M G hn hp hp2=>qy rfl (lkF hp) rfl) ?_;exact x'.o):G:=h ⟨k⟩
theorem Zjl (k:G') (h:Hid G'→G:=by intro x';refine qn6 2 rfl Y1v (by decide) (fun M G hn hp hp2=>qc rfl (lkF hp) rfl (by decide)) ?_;exact x'.o):G:=h ⟨k⟩
theorem Zjm (k:G') (h:Hid G'→G:=by intro x';refine qn6 4 rfl Y1v (by decide) (fun M G hn hp hp2=>qc rfl (lk hn rfl) rfl (by decide)) ?_;exact x'.o):G:=h ⟨k⟩
theorem Zjn (k:G') (h:Hid G'→G:=by intro x';refine qn6 5 rfl Y1v (by decide) (fun M G hn hp hp2=>qh (v:=.int _ _) rfl (lk hn rfl) rfl rfl rfl) ?_;exact x'.o):G:=h ⟨k⟩
theorem Zjo (k:G') (h:Hid G'→G:=by intro x';refine aq0 6 rfl Y1v (by decide) (fun _=>qk (v:=.pt _ _ _ _) rfl) ?_;exact x'.o):G:=h ⟨k⟩
theorem Zjp (k:G') (h:Hid G'→G:=by intro x';refine qn6 7 rfl Y1v (by decide) (fun M G hn hp hp2=>qy rfl (lkF hp) rfl) ?_;exact x'.o):G:=h ⟨k⟩
theorem Zjq (k:G') (h:Hid G'→G:=by intro x';refine qn6 8 rfl Y1v (by decide) (fun M G hn hp hp2=>qc rfl (lkF hp) rfl (by decide)) ?_;exact x'.o):G:=h ⟨k⟩
theorem Zjr (k:G') (h:Hid G'→G:=by intro x';refine qn6 10 rfl Y1v (by decide) (fun M G hn hp hp2=>qc rfl (lk hn rfl) rfl (by decide)) ?_;exact x'.o):G:=h ⟨k⟩
theorem Zjs (k:G') (h:Hid G'→G:=by intro x';refine qn6 11 rfl Y1v (by decide) (fun M G hn hp hp2=>qh (v:=.int _ _) rfl (lk hn rfl) rfl rfl rfl) ?_;exact x'.o):G:=h ⟨k⟩
theorem Zjt (k:G') (h:Hid G'→G:=by intro x';refine qn6 12 rfl Y1v (by decide) (fun M G hn hp hp2=>qw rfl (lkF hp2) rfl rfl rfl (by omega)) ?_;exact x'.o):G:=h ⟨k⟩
theorem Zju (k:G') (h:Hid G'→G:=by intro x';refine qn6 13 rfl Y1v (by decide) (fun M G hn hp hp2=>qh (v:=.sl _ _ _ _ _) rfl (lkF hp2) rfl (qca hcell) rfl) ?_;exact x'.o):G:=h ⟨k⟩
theorem Zjv (k:G') (h:Hid G'→G:=by intro x';refine aq0 14 rfl Y1v (by decide) (fun _=>qk (v:=.int _ _) rfl) ?_;exact x'.o):G:=h ⟨k⟩
theorem Zjw (k:G') (h:Hid G'→G:=by intro x';refine q8b 15 rfl Y1v (by decide) (fun _=>q5e (sz:=1) (v:=.int .i64 (i:Int)) (cs:=[.int .i64 (i:Int)]) rfl (by decide) (by decide) rfl rfl rfl rfl rfl) ?_;exact x'.o):G:=h ⟨k⟩
theorem Zjx (k:G') (h:Hid G'→G:=by intro x';refine aqs 16 rfl Y1v (by exact fun _=>⟨_,_,rfl,rfl,hF,hK⟩) Y1o (q5g ((q3d g i u).length+1) rfl hR rfl rfl (Src.pl (ys:=[[.int .i64 (i:Int)]]) rfl Yi) rfl Y20 Y1z Y1z Y20) ?_;exact x'.o):G:=h ⟨k⟩
theorem Zjy (k:G') (h:Hid G'→G:=by intro x';refine qn6 17 rfl Y1v (by decide) (fun M G hn hp hp2=>qw rfl (lkF hp2) rfl rfl rfl (by omega)) ?_;exact x'.o):G:=h ⟨k⟩
theorem Zjz (k:G') (h:Hid G'→G:=by intro x';refine aqs 18 rfl Y1v (by exact fun _=>⟨_,_,rfl,by simp,hF3,hK3⟩) Y21 (q1a (sz:=1) (v:=.sl _ _ _ _ _) (r':=[.sl (H.length+(u+4)) ((q3d g i u).length+1) 0 ((q3d g i u).length+1) ((q3d g i u).length+1)]) rfl hK3 rfl (qca hcell) rfl rfl rfl (Nat.le_refl 1) rfl) ?_;exact x'.o):G:=h ⟨k⟩
theorem Zk0 (k:G') (h:Hid G'→G:=by intro x';(try dsimp only [put,Nat.reduceAdd,List.length_cons,List.length_nil]);exact x'.o):G:=h ⟨k⟩
theorem Zk1 (k:G') (h:Hid G'→G:=by intro x';refine ao1 (by decide) (qx (v:=.pt _ _ _ _) rfl) ?_;exact x'.o):G:=h ⟨k⟩
theorem Zk2 (k:G') (h:Hid G'→G:=by intro x';refine ao1 (by decide) (qz rfl rfl hkr rfl) ?_;exact x'.o):G:=h ⟨k⟩
theorem Zk3 (k:G') (h:Hid G'→G:=by intro x';refine ao1 (by decide) (q2m (v:=.pl _) rfl hkr rfl) ?_;exact x'.o):G:=h ⟨k⟩
theorem Zk4 (k:G') (h:Hid G'→G:=by intro x';(try dsimp only [Nat.reduceAdd,List.nil_append]);exact x'.o):G:=h ⟨k⟩
theorem Zk5 (k:G') (h:Hid G'→G:=by intro x';refine ao1 (by decide) (qf6 rfl (lk rfl rfl) rfl) ?_;exact x'.o):G:=h ⟨k⟩
theorem Zk6 (k:G') (h:Hid G'→G:=by intro x';refine q1c rfl rfl (by decide) (qk (v:=.pt _ _ _ _) rfl) ?_;exact x'.o):G:=h ⟨k⟩
theorem Zk7 (k:G') (h:Hid G'→G:=by intro x';refine q1c rfl rfl (by decide) (qy rfl (lkF hF) rfl) ?_;exact x'.o):G:=h ⟨k⟩
theorem Zk8 (k:G') (h:Hid G'→G:=by intro x';refine q1c rfl rfl (by decide) (qc rfl (lkF hF) rfl (by decide)) ?_;exact x'.o):G:=h ⟨k⟩
theorem Zk9 (k:G') (h:Hid G'→G:=by intro x';refine q1c rfl rfl (by decide) (q4s rfl (by decide)) ?_;exact x'.o):G:=h ⟨k⟩
theorem Zka (k:G') (h:Hid G'→G:=by intro x';refine Z3e ?_;refine Z1p ?_;exact x'.o):G:=h ⟨k⟩
theorem Zkb (k:G') (h:Hid G'→G:=by intro x';refine q17 (g:=21) 4 rfl Y1v (by decide) rfl rfl rfl ?_;exact x'.o):G:=h ⟨k⟩
theorem Zkc (k:G') (h:Hid G'→G:=by intro x';refine q17 (g:=21) 5 rfl Y1v (by decide) rfl rfl rfl ?_;exact x'.o):G:=h ⟨k⟩
theorem Zkd (k:G') (h:Hid G'→G:=by intro x';refine q17 (g:=21) 6 rfl Y1v (by decide) rfl rfl rfl ?_;exact x'.o):G:=h ⟨k⟩
theorem Zke (k:G') (h:Hid G'→G:=by intro x';refine aq0 12 rfl Y1v (by decide) (fun _=>q1q (v:=.bool _) rfl rfl) ?_;exact x'.o):G:=h ⟨k⟩
theorem Zkf (k:G') (h:Hid G'→G:=by intro x';refine aq0 13 rfl Y1v (by decide) (fun _=>qk (v:=.bool _) rfl) ?_;exact x'.o):G:=h ⟨k⟩
theorem Zkg (k:G') (h:Hid G'→G:=by intro x';refine q17 (g:=31) 14 rfl Y1v (by decide) rfl rfl rfl ?_;exact x'.o):G:=h ⟨k⟩
theorem Zkh (k:G') (h:Hid G'→G:=by intro x';refine q17 (g:=31) 15 rfl Y1v (by decide) rfl rfl rfl ?_;exact x'.o):G:=h ⟨k⟩
theorem Zki (k:G') (h:Hid G'→G:=by intro x';refine q17 (g:=31) 16 rfl Y1v (by decide) rfl rfl rfl ?_;exact x'.o):G:=h ⟨k⟩
theorem Zkj (k:G') (h:Hid G'→G:=by intro x';refine q17 (g:=31) 17 rfl Y1v (by decide) rfl rfl rfl ?_;exact x'.o):G:=h ⟨k⟩
theorem Zkk (k:G') (h:Hid G'→G:=by intro x';refine q17 (g:=31) 18 rfl Y1v (by decide) rfl rfl rfl ?_;exact x'.o):G:=h ⟨k⟩
theorem Zkl (k:G') (h:Hid G'→G:=by intro x';refine q17 (g:=31) 19 rfl Y1v (by decide) rfl rfl rfl ?_;exact x'.o):G:=h ⟨k⟩
theorem Zkm (k:G') (h:Hid G'→G:=by intro x';refine q17 (g:=31) 20 rfl Y1v (by decide) rfl rfl rfl ?_;exact x'.o):G:=h ⟨k⟩
theorem Zkn (k:G') (h:Hid G'→G:=by intro x';refine q64 (g:=38) 21 rfl Y1v (by decide) rfl rfl ?_;exact x'.o):G:=h ⟨k⟩
theorem Zko (k:G') (h:Hid G'→G:=by intro x';refine q64 (g:=38) 22 rfl Y1v (by decide) rfl rfl ?_;exact x'.o):G:=h ⟨k⟩
theorem Zkp (k:G') (h:Hid G'→G:=by intro x';refine q64 (g:=38) 23 rfl Y1v (by decide) rfl rfl ?_;exact x'.o):G:=h ⟨k⟩
theorem Zkq (k:G') (h:Hid G'→G:=by intro x';refine q64 (g:=38) 24 rfl Y1v (by decide) rfl rfl ?_;exact x'.o):G:=h ⟨k⟩
theorem Zkr (k:G') (h:Hid G'→G:=by intro x';refine q64 (g:=38) 25 rfl Y1v (by decide) rfl rfl ?_;exact x'.o):G:=h ⟨k⟩
theorem Zks (k:G') (h:Hid G'→G:=by intro x';refine q64 (g:=38) 26 rfl Y1v (by decide) rfl rfl ?_;exact x'.o):G:=h ⟨k⟩
theorem Zkt (k:G') (h:Hid G'→G:=by intro x';refine q64 (g:=38) 27 rfl Y1v (by decide) rfl rfl ?_;exact x'.o):G:=h ⟨k⟩
theorem Zku (k:G') (h:Hid G'→G:=by intro x';refine q64 (g:=38) 28 rfl Y1v (by decide) rfl rfl ?_;exact x'.o):G:=h ⟨k⟩
theorem Zkv (k:G') (h:Hid G'→G:=by intro x';refine q17 (g:=31) 29 rfl Y1v (by decide) rfl rfl rfl ?_;exact x'.o):G:=h ⟨k⟩
theorem Zkw (k:G') (h:Hid G'→G:=by intro x';refine aq0 30 rfl Y1v (by decide) (fun _=>q1q (v:=.bool _) rfl rfl) ?_;exact x'.o):G:=h ⟨k⟩
theorem Zkx (h:G:=by exact q1y Y1v Y1f (Out.mk (by (refine congrArg AV.bool ?_;(clear hB hmem hkr hrT hrI;(simp_all;done)))) Yb)):G:=h
theorem Zky (k:G') (h:Hid G'→G:=by intro x';refine aq0 12 rfl Y1v (by decide) (fun _=>q1r (v:=.bool _) rfl rfl) ?_;exact x'.o):G:=h ⟨k⟩
theorem Zkz (k:G') (h:Hid G'→G:=by intro x';refine aq0 30 rfl Y1v (by decide) (fun _=>q1r (v:=.bool _) rfl rfl) ?_;exact x'.o):G:=h ⟨k⟩
theorem Zl0 (k:G') (h:Hid G'→G:=by intro x';refine aqp 4 rfl Y1v (by decide) (fun G=>qc rfl (lkF hF) rfl (by decide)) ?_;exact x'.o):G:=h ⟨k⟩
theorem Zl1 (k:G') (h:Hid G'→G:=by intro x';refine aq0 16 rfl Y1v (by decide) (fun _=>qx (v:=.pl _) rfl) ?_;exact x'.o):G:=h ⟨k⟩
theorem Zl2 (k:G') (h:Hid G'→G:=by intro x';refine ao1 (by decide) (qh (v:=.pl (qsa g)) rfl (lkF hF) rfl rfl rfl) ?_;exact x'.o):G:=h ⟨k⟩
theorem Zl3 (h:G:=by exact qe (Out.mk (by (refine congrArg AV.bool ?_;(simp only [mmay];clear hB;(simp_all;done)))) Yb)):G:=h
theorem Zl4 (k:G') (h:Hid G'→G:=by intro x';refine Zk1 ?_;refine qe ?_;exact x'.o):G:=h ⟨k⟩
theorem Zl5 (k:G') (h:Hid G'→G:=by intro x';(try dsimp only [put,List.cons_append,List.nil_append]);exact x'.o):G:=h ⟨k⟩
theorem Zl6 (k:G') (h:Hid G'→G:=by intro x';refine ao2 Y1o (V2.callv (hcall _) rfl rfl) ?_;exact x'.o):G:=h ⟨k⟩
theorem Zl7 (k:G') (h:Hid G'→G:=by intro x';refine Z19 ?_;refine Z3k ?_;exact x'.o):G:=h ⟨k⟩
theorem Zl8 (h:G:=by exact qe (Out.mk (by (refine congrArg AV.bool ?_;(clear hB hrow hr;(simp_all;done)))) Yb)):G:=h
theorem Zl9 (k:G') (h:Hid G'→G:=by intro x';refine q1c rfl rfl (by decide) (qh (v:=.pl _) rfl (lkF hb) rfl rfl rfl) ?_;exact x'.o):G:=h ⟨k⟩
theorem Zla (k:G') (h:Hid G'→G:=by intro x';refine q1c rfl rfl (by decide) (qyn rfl rfl) ?_;exact x'.o):G:=h ⟨k⟩
theorem Zlb (k:G') (h:Hid G'→G:=by intro x';refine Z1q ?_;refine Z2 ?_;exact x'.o):G:=h ⟨k⟩
theorem Zlc (k:G') (h:Hid G'→G:=by intro x';refine ao2 Y1o (q8v (sz:=1) (v:=.pl _) rfl rfl rfl rfl (by decide) rfl) ?_;exact x'.o):G:=h ⟨k⟩
theorem Zld (k:G') (h:Hid G'→G:=by intro x';refine ao2 Y1o (q38 (sz:=1) rfl (by decide) rfl) ?_;exact x'.o):G:=h ⟨k⟩
theorem Zle (k:G') (h:Hid G'→G:=by intro x';refine q1c rfl rfl (by decide) (q7a (vs:=[]) (us:=[_]) rfl rfl) ?_;exact x'.o):G:=h ⟨k⟩
theorem Zlf (k:G') (h:Hid G'→G:=by intro x';refine aq0 2 rfl Y1v (by decide) (fun _=>qxh rfl rfl) ?_;exact x'.o):G:=h ⟨k⟩
theorem Zlg (k:G') (h:Hid G'→G:=by intro x';refine aq0 16 rfl Y1v (by decide) (fun _=>q1r (v:=.bool _) rfl rfl) ?_;exact x'.o):G:=h ⟨k⟩
theorem Zlh (k:G') (h:Hid G'→G:=by intro x';refine ao1 (by decide) (q20 (r:=((a+(i+1):Nat):Int)) rfl rfl (qd (by omega) (by omega))) ?_;exact x'.o):G:=h ⟨k⟩
theorem Zli (k:G') (h:Hid G'→G:=by intro x';refine q39 mixed none 0 ?_;exact x'.o):G:=h ⟨k⟩
theorem Zlj (k:G') (h:Hid G'→G:=by intro x';(try dsimp only [List.take_zero]);exact x'.o):G:=h ⟨k⟩
theorem Zlk (k:G') (h:Hid G'→G:=by intro x';refine q39 mixed (some 15) 0 ?_;exact x'.o):G:=h ⟨k⟩
theorem Zll (k:G') (h:Hid G'→G:=by intro x';refine aq0 6 rfl Y1v (by decide) (fun _=>qk (v:=.int _ _) rfl) ?_;exact x'.o):G:=h ⟨k⟩
theorem Zlm (k:G') (h:Hid G'→G:=by intro x';refine aq0 5 rfl Y1v (by decide) (fun _=>qk (v:=.sl _ _ _ _ _) rfl) ?_;refine Zll ?_;exact x'.o):G:=h ⟨k⟩
theorem Zln (k:G') (h:Hid G'→G:=by intro x';refine aqp 8 rfl Y1v (by decide) (fun G=>qw rfl (lkF hM) rfl rfl rfl (by omega)) ?_;exact x'.o):G:=h ⟨k⟩
theorem Zlo (k:G') (h:Hid G'→G:=by intro x';refine aq0 10 rfl Y1v (by decide) (fun _=>qk (v:=.sl _ _ _ _ _) rfl) ?_;exact x'.o):G:=h ⟨k⟩
theorem Zlp (k:G') (h:Hid G'→G:=by intro x';refine aq0 11 rfl Y1v (by decide) (fun _=>qk (v:=.int _ _) rfl) ?_;exact x'.o):G:=h ⟨k⟩
theorem Zlq (k:G') (h:Hid G'→G:=by intro x';refine qtw [13,12] 12 rfl Y1v (by decide) (fun G=>qw rfl (lkF hM) rfl rfl rfl (by omega)) ?_;exact x'.o):G:=h ⟨k⟩
theorem Zlr (k:G') (h:Hid G'→G:=by intro x';refine aqp 14 rfl Y1v (by decide) (fun G=>qw rfl (lkF hM) rfl rfl rfl (by omega)) ?_;exact x'.o):G:=h ⟨k⟩
theorem Zls (k:G') (h:Hid G'→G:=by intro x';refine aqs 16 rfl Y1v Yy Y1o (V1.toV2 (qw rfl (lkF hM2) rfl rfl rfl (by omega))) ?_;exact x'.o):G:=h ⟨k⟩
theorem Zlt (k:G') (h:Hid G'→G:=by intro x';refine aq0 10 rfl Y1v (by decide) (fun _=>qk (v:=.int _ _) rfl) ?_;exact x'.o):G:=h ⟨k⟩
theorem Zlu (k:G') (h:Hid G'→G:=by intro x';refine ao1 (by decide) (q20 (r:=((i+1:Nat):Int)) rfl rfl (qd (by omega) (by omega))) ?_;exact x'.o):G:=h ⟨k⟩
theorem Zlv (k:G') (h:Hid G'→G:=by intro x';refine ao1 (by decide) (q3e (r:=((p.length:Nat):Int)) rfl rfl (by rw [show (m:Int)-(u.length:Int)=((p.length:Nat):Int) by omega];exact qd (by omega) (by omega))) ?_;exact x'.o):G:=h ⟨k⟩
theorem Zlw (k:G') (h:Hid G'→G:=by intro x';refine Z1t ?_;refine ao2 Y1o (V2.call (AC.rowset cs) rfl) ?_;exact x'.o):G:=h ⟨k⟩
theorem Zlx (k:G') (h:Hid G'→G:=by intro x';refine Zlw ?_;refine Z3j ?_;exact x'.o):G:=h ⟨k⟩
theorem Zly (k:G') (h:Hid G'→G:=by intro x';refine ao1 (by decide) (q20 (r:=((s+r:Nat):Int)) rfl rfl (qd (by omega) (by omega))) ?_;exact x'.o):G:=h ⟨k⟩
theorem Zlz (k:G') (h:Hid G'→G:=by intro x';refine ao1 (by decide) (qp (r:=((s+r:Nat):Int)) rfl Y16) ?_;exact x'.o):G:=h ⟨k⟩
theorem Zm0 (k:G') (h:Hid G'→G:=by intro x';refine ao1 (by decide) (qmh (r:=(((s+r) / 2:Nat):Int)) rfl rfl (by decide) (q138 _)) ?_;exact x'.o):G:=h ⟨k⟩
theorem Zm1 (k:G') (h:Hid G'→G:=by intro x';refine ao1 (by decide) (qp (r:=(((s+r) / 2:Nat):Int)) rfl (qd (by omega) (by omega))) ?_;exact x'.o):G:=h ⟨k⟩
theorem Zm2 (k:G') (h:Hid G'→G:=by intro x';refine aq0 0 rfl Y1v (by decide) (fun _=>qk (v:=.fn _ _ _) rfl) ?_;exact x'.o):G:=h ⟨k⟩
theorem Zm3 (k:G') (h:Hid G'→G:=by intro x';refine aq0 1 rfl Y1v (by decide) (fun _=>qk (v:=.sl _ _ _ _ _) rfl) ?_;exact x'.o):G:=h ⟨k⟩
theorem Zm4 (k:G') (h:Hid G'→G:=by intro x';refine aqp 3 rfl Y1v (by decide) (fun G=>qw rfl (lkF hid) rfl rfl rfl (by omega)) ?_;exact x'.o):G:=h ⟨k⟩
theorem Zm5 (k:G') (h:Hid G'→G:=by intro x';refine aqp 7 rfl Y1v (by decide) (fun G=>qw rfl (lkF hid) rfl rfl rfl (by omega)) ?_;exact x'.o):G:=h ⟨k⟩
theorem Zm6 (k:G') (h:Hid G'→G:=by intro x';refine aq0 10 rfl Y1v (by decide) (fun _=>qzd rfl rfl) ?_;exact x'.o):G:=h ⟨k⟩
theorem Zm7 (h:G:=by exact q1y Y1v Y1f (Out.mk (by (refine congrArg AV.bool ?_;(rw [qp9]))) Yb)):G:=h
theorem Zm8 (k:G') (h:Hid G'→G:=by intro x';refine ao1 (by decide) (q20 (r:=(((s+r) / 2+1:Nat):Int)) rfl rfl (qd (by omega) (by omega))) ?_;exact x'.o):G:=h ⟨k⟩
theorem Zm9 (k:G') (h:Hid G'→G:=by intro x';refine aqp 9 rfl Y1v (by decide) (fun G=>q1m rfl (lkF hM) rfl (qca hr2) rfl) ?_;exact x'.o):G:=h ⟨k⟩
theorem Zma (k:G') (h:Hid G'→G:=by intro x';refine aqp 13 rfl Y1v (by decide) (fun G=>q1m rfl (lkF hM) rfl (qca hr1) rfl) ?_;exact x'.o):G:=h ⟨k⟩
theorem Zmb (k:G') (h:Hid G'→G:=by intro x';refine aqs 15 rfl Y1v Y1f Y21 (q1a (sz:=13) (v:=.agg (qv y)) (r':=qv y) rfl hM rfl (qca hr1) rfl rfl rfl (Nat.le_of_ble_eq_true rfl) rfl) ?_;exact x'.o):G:=h ⟨k⟩
theorem Zmc (k:G') (h:Hid G'→G:=by intro x';refine aqs 17 rfl Y1v Yy Y21 (q1a (sz:=13) (v:=.agg (qv x)) (r':=qv x) rfl hM2 rfl hr3 rfl rfl rfl (Nat.le_of_ble_eq_true rfl) rfl) ?_;exact x'.o):G:=h ⟨k⟩
theorem Zmd (h:G:=by exact qe (Out.mk (by (refine congrArg AV.bool ?_;((simp_all;done)))) Yb)):G:=h
theorem Zme (h:G:=by exact qe (Out.mk (by (refine congrArg AV.bool ?_;((simp_all;omega)))) Yb)):G:=h
theorem Zmf (k:G') (h:Hid G'→G:=by intro x';refine ao1 (by decide) (qjp (r:=((2 * k:Nat):Int)) rfl rfl (qd (by omega) (by omega))) ?_;exact x'.o):G:=h ⟨k⟩
theorem Zmg (k:G') (h:Hid G'→G:=by intro x';refine ao1 (by decide) (q20 (r:=((a+k:Nat):Int)) rfl rfl (qd (by omega) (by omega))) ?_;exact x'.o):G:=h ⟨k⟩
theorem Zmh (h:G:=by exact qe (Out.mk (by (refine congrArg AV.bool ?_;(unfold q5f;clear hB hbf hst hr;(simp_all;done)))) Yb)):G:=h
theorem Zmi (k:G') (h:Hid G'→G:=by intro x';(try dsimp only [List.length_cons,List.length_nil,Nat.reduceAdd,put,List.set_cons_succ,List.set_cons_zero]);exact x'.o):G:=h ⟨k⟩
theorem Zmj (k:G') (h:Hid G'→G:=by intro x';refine Z3p ?_;refine qe ?_;exact x'.o):G:=h ⟨k⟩
theorem Zmk (k:G') (h:Hid G'→G:=by intro x';refine ao1 (by decide) (q59 rfl (lkF hF) rfl rfl (.some rfl rfl) .none (by omega) (by omega)) ?_;exact x'.o):G:=h ⟨k⟩
theorem Zml (k:G') (h:Hid G'→G:=by intro x';refine q39 mixed (some 8) 999 ?_;exact x'.o):G:=h ⟨k⟩
theorem Zmm (k:G') (h:Hid G'→G:=by intro x';refine qtw [4,3] 3 rfl Y1v (by decide) (fun G=>q20 (r:=((i+1:Nat):Int)) rfl rfl (by rw [show (i:Int)+((1:Nat):Int)=((i+1:Nat):Int) by omega];exact qd (by omega) (by omega))) ?_;exact x'.o):G:=h ⟨k⟩
theorem Zmn (k:G') (h:Hid G'→G:=by intro x';refine aqp 7 rfl Y1v (by decide) (fun G=>q59 rfl (lkF hF) rfl rfl (.some rfl rfl) .none (by omega) (by omega)) ?_;exact x'.o):G:=h ⟨k⟩
theorem Zmo (k:G') (h:Hid G'→G:=by intro x';(try dsimp only [List.take_succ_cons]);exact x'.o):G:=h ⟨k⟩
theorem Zmp (k:G') (h:Hid G'→G:=by intro x';(try dsimp only [List.length_cons,List.length_nil,Nat.reduceAdd,put,List.set_cons_zero]);exact x'.o):G:=h ⟨k⟩
theorem Zmq (h:G:=by exact qe (Out.mk (by (refine congrArg AV.bool ?_;(simp only [tm];clear hB;(simp_all;done)))) Yb)):G:=h
theorem Zmr (k:G') (h:Hid G'→G:=by intro x';refine aq0 2 rfl Y1v (by decide) (fun _=>qk (v:=.pl _) rfl) ?_;exact x'.o):G:=h ⟨k⟩
theorem Zms (k:G') (h:Hid G'→G:=by intro x';refine aq0 9 rfl Y1v (by decide) (fun _=>q1o (v:=.pl _) rfl rfl) ?_;exact x'.o):G:=h ⟨k⟩
theorem Zmt (k:G') (h:Hid G'→G:=by intro x';refine ao1 (by decide) (q6g (cs:=[_,_,_,_,_,_,_]) rfl (lk rfl rfl) rfl rfl rfl rfl) ?_;exact x'.o):G:=h ⟨k⟩
theorem Zmu (k:G') (h:Hid G'→G:=by intro x';refine Z27 ?_;refine Zh ?_;exact x'.o):G:=h ⟨k⟩
theorem Zmv (h:G:=by exact qe (Out.mk (by (refine congrArg AV.bool ?_;(clear hB;grind))) Yb)):G:=h
theorem Zmw (k:G') (h:Hid G'→G:=by intro x';refine q96 16 rfl rfl rfl rfl (by simp) (q1f 0 sb) ?_;exact x'.o):G:=h ⟨k⟩
theorem Zmx (k:G') (h:Hid G'→G:=by intro x';refine q96 17 rfl rfl rfl rfl (by simp) (q1f 0 sk) ?_;exact x'.o):G:=h ⟨k⟩
theorem Zmy (k:G') (h:Hid G'→G:=by intro x';refine ao2 Y1o (q5e (sz:=4) (v:=.agg (qi ⟨w.id,th,t,q21 w.spec t⟩)) (cs:=qi ⟨w.id,th,t,q21 w.spec t⟩) rfl (by decide) (by decide) rfl rfl rfl rfl rfl) ?_;exact x'.o):G:=h ⟨k⟩
theorem Zmz (k:G') (h:Hid G'→G:=by intro x';refine ao2 Y1o (q46 rfl rfl rfl rfl rfl (Src.pl (ys:=[qi ⟨w.id,th,t,q21 w.spec t⟩]) rfl (by simp)) rfl (by simp) (by simp) Y22 Y22) ?_;exact x'.o):G:=h ⟨k⟩
theorem Zn0 (k:G') (h:Hid G'→G:=by intro x';refine qtw [2,1] 1 rfl Y1v (by decide) (fun G=>qc rfl (lk rfl rfl) rfl (by decide)) ?_;exact x'.o):G:=h ⟨k⟩
theorem Zn1 (k:G') (h:Hid G'→G:=by intro x';refine aqp 2 rfl Y1v (by decide) (fun G=>qh (v:=.int _ _) rfl (lk rfl rfl) rfl rfl rfl) ?_;exact x'.o):G:=h ⟨k⟩
theorem Zn2 (k:G') (h:Hid G'→G:=by intro x';refine aq0 3 rfl Y1v (by decide) (fun _=>qk (v:=.pt _ _ _ _) rfl) ?_;exact x'.o):G:=h ⟨k⟩
theorem Zn3 (k:G') (h:Hid G'→G:=by intro x';refine qtw [7,6,5,4] 4 rfl Y1v (by decide) (fun G=>qy rfl (lkF hF) rfl) ?_;exact x'.o):G:=h ⟨k⟩
theorem Zn4 (k:G') (h:Hid G'→G:=by intro x';refine qtw [7,6,5] 5 rfl Y1v (by decide) (fun G=>qc rfl (lkF hF) rfl (by decide)) ?_;exact x'.o):G:=h ⟨k⟩
theorem Zn5 (k:G') (h:Hid G'→G:=by intro x';refine qtw [7,6] 6 rfl Y1v (by decide) (fun G=>qc rfl (lkF hF) rfl (by decide)) ?_;exact x'.o):G:=h ⟨k⟩
theorem Zn6 (k:G') (h:Hid G'→G:=by intro x';refine aqp 7 rfl Y1v (by decide) (fun G=>qh (v:=.int _ _) rfl (lkF hF) rfl rfl rfl) ?_;exact x'.o):G:=h ⟨k⟩
theorem Zn7 (k:G') (h:Hid G'→G:=by intro x';(try dsimp only [put,Nat.reduceAdd]);exact x'.o):G:=h ⟨k⟩
theorem Zn8 (k:G') (h:Hid G'→G:=by intro x';refine aq0 19 rfl Y1v (by decide) (fun _=>q1q (v:=.bool _) rfl rfl) ?_;exact x'.o):G:=h ⟨k⟩
theorem Zn9 (h:G:=by exact q1y Y1v Y1f (Out.mk (by (refine congrArg AV.bool ?_;(clear hB hst hr hF hF0;(simp_all;done)))) Yb)):G:=h
theorem Zna (k:G') (h:Hid G'→G:=by intro x';(try dsimp only [List.length_cons,List.length_nil,Nat.reduceAdd,AV.up,put,List.set_cons_zero]);exact x'.o):G:=h ⟨k⟩
theorem Znb (k:G') (h:Hid G'→G:=by intro x';refine aq0 7 rfl Y1v (by decide) (fun _=>qk (v:=.pt _ _ _ _) rfl) ?_;exact x'.o):G:=h ⟨k⟩
theorem Znc (k:G') (h:Hid G'→G:=by intro x';refine aq0 8 rfl Y1v (by decide) (fun _=>qk (v:=.tup _) rfl) ?_;exact x'.o):G:=h ⟨k⟩
theorem Znd (k:G') (h:Hid G'→G:=by intro x';refine aq0 10 rfl Y1v (by decide) (fun _=>q1o (v:=.int _ _) rfl rfl) ?_;exact x'.o):G:=h ⟨k⟩
theorem Zne (k:G') (h:Hid G'→G:=by intro x';(try dsimp only [put,List.length_nil,List.nil_append]);exact x'.o):G:=h ⟨k⟩
theorem Znf (k:G') (h:Hid G'→G:=by intro x';refine q12 (qgn _ _ Y23) rfl (by decide) ?_;exact x'.o):G:=h ⟨k⟩
theorem Zng (k:G') (h:Hid G'→G:=by intro x';refine Z37 ?_;refine q12 (qlt _ _ Y23 Y23) rfl (by decide) ?_;exact x'.o):G:=h ⟨k⟩
theorem Znh (h:G:=by refine Zh6 ?_;exact Z69):G:=h
theorem Zni (k:G') (h:Hid G'→G:=by intro x';refine Zl4 ?_;(try dsimp only [List.length_cons,List.length_nil,Nat.reduceAdd,AV.up,put,AV.cells,List.cons_append,List.nil_append]);exact x'.o):G:=h ⟨k⟩
theorem Znj (k:G') (h:Hid G'→G:=by intro x';refine ao2 Y1o (V2.callTS (q7t z (Lid H.length 2) _ hri (by omega) (lk rfl rfl)) rfl rfl) ?_;exact x'.o):G:=h ⟨k⟩
theorem Znk (k:G') (h:Hid G'→G:=by intro x';refine Z15 ?_;refine Z5t ?_;exact x'.o):G:=h ⟨k⟩
theorem Znl (h:G:=by exact q4u hB (q6s rfl (lk rfl rfl) rfl rfl rfl (q2n rfl (q2n rfl .nil))) rfl rfl):G:=h
theorem Znm (h:G:=by refine Znk ?_;exact Znl):G:=h
theorem Znn (k:G') (h:Hid G'→G:=by intro x';refine aqp 1 rfl Y1v (by decide) (fun G=>qy rfl (lk rfl rfl) rfl) ?_;exact x'.o):G:=h ⟨k⟩
theorem Zno (k:G') (h:Hid G'→G:=by intro x';refine aqp 2 rfl Y1v (by decide) (fun G=>qc rfl (lk rfl rfl) rfl (by decide)) ?_;exact x'.o):G:=h ⟨k⟩
theorem Znp (k:G') (h:Hid G'→G:=by intro x';refine aq0 13 rfl Y1v (by decide) (fun _=>qk (v:=.tup _) rfl) ?_;exact x'.o):G:=h ⟨k⟩
theorem Znq (k:G') (h:Hid G'→G:=by intro x';refine aq0 14 rfl Y1v (by decide) (fun _=>q1o (v:=.pl _) rfl rfl) ?_;exact x'.o):G:=h ⟨k⟩
theorem Znr (k:G') (h:Hid G'→G:=by intro x';refine aq0 15 rfl Y1v (by decide) (fun _=>q1o (v:=.int _ _) rfl rfl) ?_;exact x'.o):G:=h ⟨k⟩
theorem Zns (k:G') (h:Hid G'→G:=by intro x';(try dsimp only [Nat.reduceAdd,put,List.set_cons_succ,List.set_cons_zero]);exact x'.o):G:=h ⟨k⟩
theorem Znt (k:G') (h:Hid G'→G:=by intro x';refine Zi3 ?_;refine Zi4 ?_;exact x'.o):G:=h ⟨k⟩
theorem Znu (k:G') (h:Hid G'→G:=by intro x';refine Zq ?_;refine Zp ?_;exact x'.o):G:=h ⟨k⟩
theorem Znv (k:G') (h:Hid G'→G:=by intro x';refine Znu ?_;refine Zb7 ?_;exact x'.o):G:=h ⟨k⟩
theorem Znw (k:G') (h:Hid G'→G:=by intro x';refine Znv ?_;refine Z1y ?_;exact x'.o):G:=h ⟨k⟩
theorem Znx (k:G') (h:Hid G'→G:=by intro x';refine Z11 ?_;refine Zg ?_;exact x'.o):G:=h ⟨k⟩
theorem Zny (k:G') (h:Hid G'→G:=by intro x';refine q1v (k:=0) 4 1 rfl (by decide) rfl ?_;exact x'.o):G:=h ⟨k⟩
theorem Znz (k:G') (h:Hid G'→G:=by intro x';refine q1c rfl rfl (by decide) (q20 (r:=(last:Int)+(far:Int)) rfl rfl (qd (by omega) (by omega))) ?_;exact x'.o):G:=h ⟨k⟩
theorem Zo0 (k:G') (h:Hid G'→G:=by intro x';refine q1c rfl rfl (by decide) (q20 (r:=(last:Int)+(far:Int)+(more:Int)) rfl rfl (by have h1:=of_decide_eq_true hg2;have h2:=of_decide_eq_true hg6;exact qd (by omega) (by omega))) ?_;exact x'.o):G:=h ⟨k⟩
theorem Zo1 (k:G') (h:Hid G'→G:=by intro x';refine Z4m ?_;refine Z53 ?_;exact x'.o):G:=h ⟨k⟩
theorem Zo2 (k:G') (h:Hid G'→G:=by intro x';(repeat (first | refine q7w ?_ | refine q7y ?_ | refine q61 ?_ | refine qa8 ?_ | refine q7v ?_ | refine q9u ?_ | refine q80 rfl ?_ | refine q83 ?_ | refine qa3 ?_ | refine q119 ?_ | refine qat ?_ | refine q7z ?_ | refine q9v ?_ | refine q7q ?_ | refine q124 ?_));exact x'.o):G:=h ⟨k⟩
theorem Zo3 (k:G') (h:Hid G'→G:=by intro x';refine Zo2 ?_;refine qs7 ?_;exact x'.o):G:=h ⟨k⟩
theorem Zo4 (k:G') (h:Hid G'→G:=by intro x';refine ao1 (by decide) (qy rfl (lk h1 rfl) rfl) ?_;exact x'.o):G:=h ⟨k⟩
theorem Zo5 (k:G') (h:Hid G'→G:=by intro x';refine ao1 (by decide) (qc rfl (lk h1 rfl) rfl (by decide)) ?_;exact x'.o):G:=h ⟨k⟩
theorem Zo6 (k:G') (h:Hid G'→G:=by intro x';refine ao1 (by decide) (qh (v:=.pl _) rfl (lk h1 rfl) rfl rfl rfl) ?_;exact x'.o):G:=h ⟨k⟩
theorem Zo7 (k:G') (h:Hid G'→G:=by intro x';refine Z3h ?_;refine ao1 (by decide) (q7a (vs:=[]) (us:=[_]) rfl rfl) ?_;exact x'.o):G:=h ⟨k⟩
theorem Zo8 (k:G') (h:Hid G'→G:=by intro x';refine q12 (qmv _ b _ hb) rfl (by decide) ?_;exact x'.o):G:=h ⟨k⟩
theorem Zo9 (h:G:=by refine q26 2 rfl ?_;exact Zhj):G:=h
theorem Zoa (k:G') (h:Hid G'→G:=by intro x';refine q12 (c1) rfl (by decide) ?_;exact x'.o):G:=h ⟨k⟩
theorem Zob (k:G') (h:Hid G'→G:=by intro x';refine Zo7 ?_;refine Zoa ?_;exact x'.o):G:=h ⟨k⟩
theorem Zoc (k:G') (h:Hid G'→G:=by intro x';refine Zob ?_;refine Z4 ?_;exact x'.o):G:=h ⟨k⟩
theorem Zod (k:G') (h:Hid G'→G:=by intro x';(try dsimp only [List.length_cons,List.length_nil,Nat.reduceAdd,AV.cells,put]);exact x'.o):G:=h ⟨k⟩
theorem Zoe (h:G:=by exact qe (Out.mk (by (refine congrArg AV.bool ?_;(clear hB hstep hq1 hp;rw [Bool.eq_iff_iff];by_cases h0:0<i<;>simp_all))) Yb)):G:=h
theorem Zof (k:G') (h:Hid G'→G:=by intro x';refine qdw mixed none 1 ?_;exact x'.o):G:=h ⟨k⟩
theorem Zog (k:G') (h:Hid G'→G:=by intro x';refine aqr 2 rfl Y1v (by decide) (fun G hG=>qh (v:=.int _ _) rfl (lk rfl hG) rfl rfl rfl) ?_;exact x'.o):G:=h ⟨k⟩
theorem Zoh (k:G') (h:Hid G'→G:=by intro x';refine ao1 (by decide) (q6a rfl (lk rfl rfl) rfl rfl (by omega) (by omega)) ?_;exact x'.o):G:=h ⟨k⟩
theorem Zoi (k:G') (h:Hid G'→G:=by intro x';(try dsimp only [List.length_cons,List.length_nil,Nat.reduceAdd,put,AV.cells,List.cons_append,List.nil_append]);exact x'.o):G:=h ⟨k⟩
theorem Zoj (k:G') (h:Hid G'→G:=by intro x';refine ao2 Y1o (V2.callo3 (k:=1) (c1 _ (Lid H.length 1) (lk rfl rfl)) rfl rfl) ?_;exact x'.o):G:=h ⟨k⟩
theorem Zok (k:G') (h:Hid G'→G:=by intro x';refine ao1 (by decide) (q20 (r:=((k+1:Nat):Int)) rfl rfl (qd (by omega) (by omega))) ?_;exact x'.o):G:=h ⟨k⟩
theorem Zol (k:G') (h:Hid G'→G:=by intro x';refine Z2 ?_;refine Zok ?_;exact x'.o):G:=h ⟨k⟩
theorem Zom (k:G') (h:Hid G'→G:=by intro x';refine Zol ?_;refine Z4e ?_;exact x'.o):G:=h ⟨k⟩
theorem Zon (k:G') (h:Hid G'→G:=by intro x';refine qdw mixed none 0 ?_;exact x'.o):G:=h ⟨k⟩
theorem Zoo (k:G') (h:Hid G'→G:=by intro x';refine aqr 1 rfl Y1v (by decide) (fun G hG=>qc rfl (lk rfl hG) rfl (by decide)) ?_;exact x'.o):G:=h ⟨k⟩
theorem Zop (k:G') (h:Hid G'→G:=by intro x';refine aqr 5 rfl Y1v (by decide) (fun G hG=>qc rfl (lk rfl hG) rfl (by decide)) ?_;exact x'.o):G:=h ⟨k⟩
theorem Zoq (k:G') (h:Hid G'→G:=by intro x';refine aqr 6 rfl Y1v (by decide) (fun G hG=>qh (v:=.int _ _) rfl (lk rfl hG) rfl rfl rfl) ?_;exact x'.o):G:=h ⟨k⟩
theorem Zor (k:G') (h:Hid G'→G:=by intro x';refine ao1 (by decide) (q130 (r:=((n / 2:Nat):Int)) rfl rfl (by decide) (by rw [hdiv];exact qd (by omega) (by omega))) ?_;exact x'.o):G:=h ⟨k⟩
theorem Zos (k:G') (h:Hid G'→G:=by intro x';refine ao2 Y1o (q38 (sz:=7) rfl (by decide) rfl) ?_;exact x'.o):G:=h ⟨k⟩
theorem Zot (k:G') (h:Hid G'→G:=by intro x';refine ao1 (by decide) (qc rfl (lk (q3v _ _ _ _) rfl) rfl (by decide)) ?_;exact x'.o):G:=h ⟨k⟩
theorem Zou (k:G') (h:Hid G'→G:=by intro x';refine ao2 Y21 (q1i (sz:=1) (v:=.int _ _) (r':=[_,_,_,_,_,_,_]) rfl (q3v _ _ _ _) rfl rfl rfl rfl rfl rfl (Nat.le_of_ble_eq_true rfl) rfl) ?_;exact x'.o):G:=h ⟨k⟩
theorem Zov (k:G') (h:Hid G'→G:=by intro x';refine ao1 (by decide) (q1m rfl (lk (q3v _ _ _ _) rfl) rfl rfl rfl) ?_;exact x'.o):G:=h ⟨k⟩
theorem Zow (k:G') (h:Hid G'→G:=by intro x';refine q12 (cr _) rfl (by decide) ?_;exact x'.o):G:=h ⟨k⟩
theorem Zox (k:G') (h:Hid G'→G:=by intro x';refine ao1 (by decide) (V1.up (q3g (cs:=[.int _ _,.int _ _,.int _ _,.str _,.bool _,.int _ _,.int _ _]) rfl)) ?_;exact x'.o):G:=h ⟨k⟩
theorem Zoy (k:G') (h:Hid G'→G:=by intro x';refine ao2 Y21 (q2c (sz:=7) rfl rfl rfl rfl rfl rfl rfl rfl (Nat.le_of_ble_eq_true rfl)) ?_;exact x'.o):G:=h ⟨k⟩
theorem Zoz (k:G') (h:Hid G'→G:=by intro x';refine q12 (qpk _ _) rfl (by decide) ?_;exact x'.o):G:=h ⟨k⟩
theorem Zp0 (k:G') (h:Hid G'→G:=by intro x';refine aq0 9 rfl Y1v (by decide) (fun _=>qx (v:=.sl _ _ _ _ _) rfl) ?_;exact x'.o):G:=h ⟨k⟩
theorem Zp1 (k:G') (h:Hid G'→G:=by intro x';(try dsimp only [Nat.reduceAdd,List.length_cons,List.length_nil,put,List.cons_append,List.nil_append,List.set_cons_succ,List.set_cons_zero]);exact x'.o):G:=h ⟨k⟩
theorem Zp2 (k:G') (h:Hid G'→G:=by intro x';refine ao1 (by decide) (qp (r:=((o.at_.toNat:Nat):Int)) rfl Y16) ?_;exact x'.o):G:=h ⟨k⟩
theorem Zp3 (k:G') (h:Hid G'→G:=by intro x';refine ao1 (by decide) (qc rfl (lkF hF2) rfl (by decide)) ?_;exact x'.o):G:=h ⟨k⟩
theorem Zp4 (k:G') (h:Hid G'→G:=by intro x';refine ao1 (by decide) (qjp (r:=((4 * m:Nat):Int)) rfl rfl (by rw [show (4:Int) * (m:Int)=((4 * m:Nat):Int) by omega];exact qd (by omega) (by omega))) ?_;exact x'.o):G:=h ⟨k⟩
theorem Zp5 (k:G') (h:Hid G'→G:=by intro x';refine ao1 (by decide) (q20 (r:=((m+1:Nat):Int)) rfl rfl (qd (by omega) (by omega))) ?_;exact x'.o):G:=h ⟨k⟩
theorem Zp6 (k:G') (h:Hid G'→G:=by intro x';refine ao2 Y1o (V2.call (cs _) rfl) ?_;exact x'.o):G:=h ⟨k⟩
theorem Zp7 (k:G') (h:Hid G'→G:=by intro x';refine ao1 (by decide) (V1.up (q3g (cs:=[.int _ _,.int _ _,.int _ _,.int _ _,.str _,.bool _,.int _ _,.int _ _,_,.int _ _,.int _ _,.int _ _,_]) rfl)) ?_;exact x'.o):G:=h ⟨k⟩
theorem Zp8 (k:G') (h:Hid G'→G:=by intro x';refine aqp 1 rfl Y1v (by decide) (fun G=>q5d rfl rfl (by decide) hc0 rfl) ?_;exact x'.o):G:=h ⟨k⟩
theorem Zp9 (k:G') (h:Hid G'→G:=by intro x';refine aqp 2 rfl Y1v (by decide) (fun G=>q2m (v:=.int _ _) rfl hc0 rfl) ?_;exact x'.o):G:=h ⟨k⟩
theorem Zpa (k:G') (h:Hid G'→G:=by intro x';refine aq0 3 rfl Y1v (by decide) (fun _=>qp (r:=(c.toNat:Int)) rfl (qd (by omega) (by omega))) ?_;exact x'.o):G:=h ⟨k⟩
theorem Zpb (k:G') (h:Hid G'→G:=by intro x';refine aq0 5 rfl Y1v (by decide) (fun _=>qk (v:=.pl _) rfl) ?_;exact x'.o):G:=h ⟨k⟩
theorem Zpc (k:G') (h:Hid G'→G:=by intro x';refine aat rfl Y1o (q8v (sz:=2) (v:=.agg _) rfl rfl rfl rfl (by decide) rfl) ?_;exact x'.o):G:=h ⟨k⟩
theorem Zpd (k:G') (h:Hid G'→G:=by intro x';refine aqs 10 rfl Y1v Y1f Y21 (q2c (sz:=13) rfl rfl rfl rfl rfl rfl rfl rfl (Nat.le_of_ble_eq_true rfl)) ?_;exact x'.o):G:=h ⟨k⟩
theorem Zpe (k:G') (h:Hid G'→G:=by intro x';refine aq0 11 rfl Y1v (by decide) (fun _=>qx (v:=.pt _ _ _ _) rfl) ?_;exact x'.o):G:=h ⟨k⟩
theorem Zpf (k:G') (h:Hid G'→G:=by intro x';refine ao1 (by decide) (qy rfl (lkF hF1) rfl) ?_;exact x'.o):G:=h ⟨k⟩
theorem Zpg (k:G') (h:Hid G'→G:=by intro x';refine ao1 (by decide) (qc rfl (lkF hF1) rfl (by decide)) ?_;exact x'.o):G:=h ⟨k⟩
theorem Zph (k:G') (h:Hid G'→G:=by intro x';refine ao1 (by decide) (qh (v:=.pl _) rfl (lkF hF1) rfl rfl rfl) ?_;exact x'.o):G:=h ⟨k⟩
theorem Zpi (k:G') (h:Hid G'→G:=by intro x';refine ao1 (by decide) (qc rfl (lkF hI1.op) rfl (by decide)) ?_;exact x'.o):G:=h ⟨k⟩
theorem Zpj (k:G') (h:Hid G'→G:=by intro x';refine ao1 (by decide) (qy rfl (lkF hI2.rd) rfl) ?_;exact x'.o):G:=h ⟨k⟩
theorem Zpk (k:G') (h:Hid G'→G:=by intro x';refine ao1 (by decide) (qc rfl (lkF hI2.rd) rfl (by decide)) ?_;exact x'.o):G:=h ⟨k⟩
theorem Zpl (k:G') (h:Hid G'→G:=by intro x';refine ao1 (by decide) (qy rfl (lkF hI3.rd) rfl) ?_;exact x'.o):G:=h ⟨k⟩
theorem Zpm (k:G') (h:Hid G'→G:=by intro x';refine ao1 (by decide) (qc rfl (lkF hI3.rd) rfl (by decide)) ?_;exact x'.o):G:=h ⟨k⟩
theorem Zpn (k:G') (h:Hid G'→G:=by intro x';refine ao2 Y1o (V2.callF (qbd r false 8 (by decide) _ q 0 (lkF hI.rd)) rfl hI.rd) ?_;exact x'.o):G:=h ⟨k⟩
theorem Zpo (k:G') (h:Hid G'→G:=by intro x';refine ao1 (by decide) (qp (r:=IntKind.i64.wrap (rnV r 8:Int)) rfl rfl) ?_;exact x'.o):G:=h ⟨k⟩
theorem Zpp (k:G') (h:Hid G'→G:=by intro x';refine ao2 Y21 (q1a (sz:=1) (v:=.int .i64 (IntKind.i64.wrap (rnV r 8:Int))) (r':=eOp ⟨c.toNat,q2h,[],0,0,IntKind.i64.wrap (rnV r 8:Int),[]⟩) rfl hI1.op rfl rfl rfl rfl rfl (Nat.le_of_ble_eq_true rfl) rfl) ?_;exact x'.o):G:=h ⟨k⟩
theorem Zpq (k:G') (h:Hid G'→G:=by intro x';refine ao2 Y1o (V2.call (cr _) rfl) ?_;exact x'.o):G:=h ⟨k⟩
theorem Zpr (k:G') (h:Hid G'→G:=by intro x';refine ao1 (by decide) (qc rfl (lkF hI2.op) rfl (by decide)) ?_;exact x'.o):G:=h ⟨k⟩
theorem Zps (k:G') (h:Hid G'→G:=by intro x';refine ao2 Y21 (q1a (sz:=1) (v:=.pl (l.map eI)) (r':=eOp ⟨c.toNat,q2h,[],0,0,IntKind.i64.wrap (rnV r 8:Int),l⟩) rfl hI2.op rfl rfl rfl rfl rfl (Nat.le_of_ble_eq_true rfl) rfl) ?_;exact x'.o):G:=h ⟨k⟩
theorem Zpt (k:G') (h:Hid G'→G:=by intro x';refine ao1 (by decide) (qy rfl (lkF hI4.rd) rfl) ?_;exact x'.o):G:=h ⟨k⟩
theorem Zpu (k:G') (h:Hid G'→G:=by intro x';refine ao1 (by decide) (qc rfl (lkF hI4.rd) rfl (by decide)) ?_;exact x'.o):G:=h ⟨k⟩
theorem Zpv (k:G') (h:Hid G'→G:=by intro x';refine ao2 Y21 (qbn (sz:=1) (v:=.pl []) (r':=[.pl [],.bool (rnB r 8 false||decide (e≠0))]) rfl hI4.rd rfl rfl rfl rfl rfl (Nat.le_of_ble_eq_true rfl) rfl) ?_;exact x'.o):G:=h ⟨k⟩
theorem Zpw (h:G:=by exact qe (Out.mk (by (refine congrArg AV.bool ?_;(clear hB hI hF hF1 hs hfin hlast;(simp_all;done)))) Yb)):G:=h
theorem Zpx (k:G') (h:Hid G'→G:=by intro x';refine q1c rfl rfl (by decide) (qc rfl (lkF hF1) rfl (by decide)) ?_;exact x'.o):G:=h ⟨k⟩
theorem Zpy (k:G') (h:Hid G'→G:=by intro x';refine q1c rfl rfl (by decide) (qh (v:=.pl _) rfl (lkF hF1) rfl rfl rfl) ?_;exact x'.o):G:=h ⟨k⟩
theorem Zpz (h:G:=by exact q4u hB (q6s rfl (lk rfl (hlast _)) rfl rfl rfl (q2n rfl .nil)) rfl rfl):G:=h
theorem Zq0 (k:G') (h:Hid G'→G:=by intro x';refine ao2 Y1o (qbm (sz:=1)) ?_;exact x'.o):G:=h ⟨k⟩
theorem Zq1 (k:G') (h:Hid G'→G:=by intro x';refine ao1 (by decide) (q4q rfl) ?_;exact x'.o):G:=h ⟨k⟩
theorem Zq2 (k:G') (h:Hid G'→G:=by intro x';refine ao1 (by decide) (qmh (r:=((n / 256:Nat):Int)) rfl rfl (by decide) (q151 n)) ?_;exact x'.o):G:=h ⟨k⟩
theorem Zq3 (k:G') (h:Hid G'→G:=by intro x';refine ao1 (by decide) (qp (r:=((n / 256:Nat):Int)) rfl Y1a) ?_;exact x'.o):G:=h ⟨k⟩
theorem Zq4 (k:G') (h:Hid G'→G:=by intro x';refine ao1 (by decide) (qp (r:=((n % 256:Nat):Int)) rfl Y1a) ?_;exact x'.o):G:=h ⟨k⟩
theorem Zq5 (h:G:=by exact qe (Out.mk (by (refine congrArg AV.bool ?_;(simp only [okE];grind))) Yb)):G:=h
theorem Zq6 (k:G') (h:Hid G'→G:=by intro x';refine aq0 6 rfl Y1v (by decide) (fun _=>qk (v:=.bool _) rfl) ?_;exact x'.o):G:=h ⟨k⟩
theorem Zq7 (k:G') (h:Hid G'→G:=by intro x';refine q17 (g:=27) 7 rfl Y1v (by decide) rfl rfl rfl ?_;exact x'.o):G:=h ⟨k⟩
theorem Zq8 (k:G') (h:Hid G'→G:=by intro x';refine q17 (g:=27) 8 rfl Y1v (by decide) rfl rfl rfl ?_;exact x'.o):G:=h ⟨k⟩
theorem Zq9 (k:G') (h:Hid G'→G:=by intro x';refine q17 (g:=27) 9 rfl Y1v (by decide) rfl rfl rfl ?_;exact x'.o):G:=h ⟨k⟩
theorem Zqa (k:G') (h:Hid G'→G:=by intro x';refine q17 (g:=27) 10 rfl Y1v (by decide) rfl rfl rfl ?_;exact x'.o):G:=h ⟨k⟩
theorem Zqb (k:G') (h:Hid G'→G:=by intro x';refine q17 (g:=27) 11 rfl Y1v (by decide) rfl rfl rfl ?_;exact x'.o):G:=h ⟨k⟩
theorem Zqc (k:G') (h:Hid G'→G:=by intro x';refine q17 (g:=34) 14 rfl Y1v (by decide) rfl rfl rfl ?_;exact x'.o):G:=h ⟨k⟩
theorem Zqd (k:G') (h:Hid G'→G:=by intro x';refine q17 (g:=34) 15 rfl Y1v (by decide) rfl rfl rfl ?_;exact x'.o):G:=h ⟨k⟩
theorem Zqe (k:G') (h:Hid G'→G:=by intro x';refine q17 (g:=34) 16 rfl Y1v (by decide) rfl rfl rfl ?_;exact x'.o):G:=h ⟨k⟩
theorem Zqf (k:G') (h:Hid G'→G:=by intro x';refine q17 (g:=34) 17 rfl Y1v (by decide) rfl rfl rfl ?_;exact x'.o):G:=h ⟨k⟩
theorem Zqg (k:G') (h:Hid G'→G:=by intro x';refine q17 (g:=34) 18 rfl Y1v (by decide) rfl rfl rfl ?_;exact x'.o):G:=h ⟨k⟩
theorem Zqh (k:G') (h:Hid G'→G:=by intro x';refine q17 (g:=34) 19 rfl Y1v (by decide) rfl rfl rfl ?_;exact x'.o):G:=h ⟨k⟩
theorem Zqi (k:G') (h:Hid G'→G:=by intro x';refine q17 (g:=34) 20 rfl Y1v (by decide) rfl rfl rfl ?_;exact x'.o):G:=h ⟨k⟩
theorem Zqj (k:G') (h:Hid G'→G:=by intro x';refine q17 (g:=34) 21 rfl Y1v (by decide) rfl rfl rfl ?_;exact x'.o):G:=h ⟨k⟩
theorem Zqk (k:G') (h:Hid G'→G:=by intro x';refine q17 (g:=34) 22 rfl Y1v (by decide) rfl rfl rfl ?_;exact x'.o):G:=h ⟨k⟩
theorem Zql (k:G') (h:Hid G'→G:=by intro x';refine q17 (g:=34) 23 rfl Y1v (by decide) rfl rfl rfl ?_;exact x'.o):G:=h ⟨k⟩
theorem Zqm (k:G') (h:Hid G'→G:=by intro x';refine q17 (g:=34) 24 rfl Y1v (by decide) rfl rfl rfl ?_;exact x'.o):G:=h ⟨k⟩
theorem Zqn (k:G') (h:Hid G'→G:=by intro x';refine q17 (g:=34) 25 rfl Y1v (by decide) rfl rfl rfl ?_;exact x'.o):G:=h ⟨k⟩
theorem Zqo (h:G:=by exact q1y Y1v Y1f (Out.mk (by (refine congrArg AV.bool ?_;(rw [hN];clear hB hN hNx hb;(simp_all;omega)))) Yb)):G:=h
theorem Zqp (k:G') (h:Hid G'→G:=by intro x';refine ao2 Y1o (V2.call (cn _) rfl) ?_;exact x'.o):G:=h ⟨k⟩
theorem Zqq (k:G') (h:Hid G'→G:=by intro x';refine aqp 2 rfl Y1v (by decide) (fun G=>qz rfl rfl hr1 rfl) ?_;exact x'.o):G:=h ⟨k⟩
theorem Zqr (k:G') (h:Hid G'→G:=by intro x';refine aqp 3 rfl Y1v (by decide) (fun G=>q5c rfl hr1 rfl) ?_;exact x'.o):G:=h ⟨k⟩
theorem Zqs (k:G') (h:Hid G'→G:=by intro x';refine aqp 6 rfl Y1v (by decide) (fun G=>qz rfl rfl hr2 rfl) ?_;exact x'.o):G:=h ⟨k⟩
theorem Zqt (k:G') (h:Hid G'→G:=by intro x';refine aqp 7 rfl Y1v (by decide) (fun G=>q5c rfl hr2 rfl) ?_;exact x'.o):G:=h ⟨k⟩
theorem Zqu (k:G') (h:Hid G'→G:=by intro x';refine aq0 9 rfl Y1v (by decide) (fun _=>qa2 rfl) ?_;exact x'.o):G:=h ⟨k⟩
theorem Zqv (k:G') (h:Hid G'→G:=by intro x';refine ao2 Y1o (V2.call (qls a.graph b.graph _ (by omega)) rfl) ?_;exact x'.o):G:=h ⟨k⟩
theorem Zqw (h:G:=by exact qe (Out.mk (by (refine congrArg AV.bool ?_;(clear hB;simp_all))) Yb)):G:=h
theorem Zqx (k:G') (h:Hid G'→G:=by intro x';(try dsimp only [List.cons_append,List.nil_append,List.length_nil,put]);exact x'.o):G:=h ⟨k⟩
theorem Zqy (k:G') (h:Hid G'→G:=by intro x';refine Z3h ?_;refine Z2d ?_;exact x'.o):G:=h ⟨k⟩
theorem Zqz (k:G') (h:Hid G'→G:=by intro x';refine ao1 (by decide) (V1.up (q3g (cs:=[_,.int _ _,.int _ _,_,_,_,_,.int _ _,_,_,.int _ _,.int _ _,.int _ _]) rfl)) ?_;exact x'.o):G:=h ⟨k⟩
theorem Zr0 (k:G') (h:Hid G'→G:=by intro x';(try dsimp only [Nat.reduceAdd,put,List.set_cons_zero,List.set_cons_succ]);exact x'.o):G:=h ⟨k⟩
theorem Zr1 (k:G') (h:Hid G'→G:=by intro x';(try dsimp only [List.cons_append,List.nil_append,List.length_nil,put,AV.cells,List.length_cons,Nat.reduceAdd]);exact x'.o):G:=h ⟨k⟩
theorem Zr2 (k:G') (h:Hid G'→G:=by intro x';refine ao2 Y1o (V2.callT (cs _) rfl rfl) ?_;exact x'.o):G:=h ⟨k⟩
theorem Zr3 (h:G:=by exact qe (Out.mk (by (refine congrArg AV.bool ?_;(clear hB he;(simp_all;done)))) Yb)):G:=h
theorem Zr4 (k:G') (h:Hid G'→G:=by intro x';refine ao1 (by decide) (qz rfl rfl hr1 rfl) ?_;exact x'.o):G:=h ⟨k⟩
theorem Zr5 (k:G') (h:Hid G'→G:=by intro x';refine ao1 (by decide) (q5c rfl hr1 rfl) ?_;exact x'.o):G:=h ⟨k⟩
theorem Zr6 (k:G') (h:Hid G'→G:=by intro x';refine ao2 Y1o (V2.callv (hF x hxl y _) rfl rfl) ?_;exact x'.o):G:=h ⟨k⟩
theorem Zr7 (k:G') (h:Hid G'→G:=by intro x';(repeat (first | refine qej ?_ | refine qew ?_ | refine q7w ?_ | refine q7y ?_ | refine q61 ?_ | refine qa8 ?_ | refine q7v ?_ | refine q9u ?_ | refine q80 rfl ?_ | refine q83 ?_ | refine qa3 ?_ | refine qau ?_ | refine qat ?_ | refine q7z ?_ | refine q9v ?_ | refine q7q ?_ | refine q2y ?_));exact x'.o):G:=h ⟨k⟩
theorem Zr8 (k:G') (h:Hid G'→G:=by intro x';refine Zr7 ?_;refine q16 ?_;exact x'.o):G:=h ⟨k⟩
theorem Zr9 (k:G') (h:Hid G'→G:=by intro x';refine ao1 (by decide) (qx (v:=.fn _ _ _) rfl) ?_;exact x'.o):G:=h ⟨k⟩
theorem Zra (k:G') (h:Hid G'→G:=by intro x';refine aqp 1 rfl Y1v (by decide) (fun G=>q6g (cs:=[_,_,_,_,_,_,_,_,_]) rfl (lk rfl rfl) rfl rfl rfl rfl) ?_;exact x'.o):G:=h ⟨k⟩
theorem Zrb (k:G') (h:Hid G'→G:=by intro x';refine aat rfl Y1o (q38 (sz:=9) rfl (by decide) rfl) ?_;exact x'.o):G:=h ⟨k⟩
theorem Zrc (k:G') (h:Hid G'→G:=by intro x';refine aqs 6 rfl Y1v Y1f Y21 (q2c (sz:=9) rfl rfl rfl rfl rfl rfl rfl rfl (Nat.le_of_ble_eq_true rfl)) ?_;exact x'.o):G:=h ⟨k⟩
theorem Zrd (k:G') (h:Hid G'→G:=by intro x';refine aqs 7 rfl Y1v Y1f Y21 (q2c (sz:=9) rfl rfl rfl rfl rfl rfl rfl rfl (Nat.le_of_ble_eq_true rfl)) ?_;exact x'.o):G:=h ⟨k⟩
theorem Zre (k:G') (h:Hid G'→G:=by intro x';(try dsimp only [put,List.cons_append,List.nil_append,List.length_cons,List.length_nil,Nat.reduceAdd,List.set_cons_zero,List.set_cons_succ]);exact x'.o):G:=h ⟨k⟩
theorem Zrf (k:G') (h:Hid G'→G:=by intro x';refine q12 (qi0 _ _ (by omega) _) rfl (by decide) ?_;exact x'.o):G:=h ⟨k⟩
theorem Zrg (k:G') (h:Hid G'→G:=by intro x';refine q1c rfl rfl (by decide) (qc rfl (lkF hF2) rfl (by decide)) ?_;exact x'.o):G:=h ⟨k⟩
theorem Zrh (k:G') (h:Hid G'→G:=by intro x';refine q1c rfl rfl (by decide) (qh (v:=.int _ _) rfl (lkF hF2) rfl rfl rfl) ?_;exact x'.o):G:=h ⟨k⟩
theorem Zri (k:G') (h:Hid G'→G:=by intro x';refine q1c rfl rfl (by decide) (qc rfl (lkF hF3) rfl (by decide)) ?_;exact x'.o):G:=h ⟨k⟩
theorem Zrj (k:G') (h:Hid G'→G:=by intro x';refine q1c rfl rfl (by decide) (qh (v:=.int _ _) rfl (lkF hF3) rfl rfl rfl) ?_;exact x'.o):G:=h ⟨k⟩
theorem Zrk (h:G:=by exact qe (Out.mk (by (refine congrArg AV.bool ?_;(clear hB w7 w8 hF hF1 hF2 hF3 hs;(simp_all;done)))) Yb)):G:=h
theorem Zrl (k:G') (h:Hid G'→G:=by intro x';refine q1c rfl rfl (by decide) (qh (v:=.pl _) rfl (lkF hF) rfl rfl rfl) ?_;exact x'.o):G:=h ⟨k⟩
theorem Zrm (k:G') (h:Hid G'→G:=by intro x';refine q5r rfl rfl (by decide) (V2.call (q7r _ _ (by omega) _) rfl) ?_;exact x'.o):G:=h ⟨k⟩
theorem Zrn (k:G') (h:Hid G'→G:=by intro x';refine q1c rfl rfl (by decide) (qh (v:=.int _ _) rfl (lkF hF) rfl rfl rfl) ?_;exact x'.o):G:=h ⟨k⟩
theorem Zro (k:G') (h:Hid G'→G:=by intro x';refine q1c rfl rfl (by decide) (qh (v:=.int _ _) rfl (lkF hF1) rfl rfl rfl) ?_;exact x'.o):G:=h ⟨k⟩
theorem Zrp (k:G') (h:Hid G'→G:=by intro x';(try dsimp only [List.cons_append,List.nil_append,put,List.length_cons,List.length_nil,Nat.reduceAdd,List.set_cons_zero,List.set_cons_succ]);exact x'.o):G:=h ⟨k⟩
theorem Zrq (k:G') (h:Hid G'→G:=by intro x';refine ao1 (by decide) (V1.up (q3g (cs:=[.int _ _,.int _ _,.str _]) rfl)) ?_;exact x'.o):G:=h ⟨k⟩
theorem Zrr (k:G') (h:Hid G'→G:=by intro x';(try dsimp only [AV.up,put]);exact x'.o):G:=h ⟨k⟩
theorem Zrs (k:G') (h:Hid G'→G:=by intro x';(try dsimp only [List.cons_append,List.nil_append,put,List.length_nil,List.set_cons_zero]);exact x'.o):G:=h ⟨k⟩
theorem Zrt (k:G') (h:Hid G'→G:=by intro x';refine ao2 Y1o (V2.callT (c2 _) rfl rfl) ?_;exact x'.o):G:=h ⟨k⟩
theorem Zru (k:G') (h:Hid G'→G:=by intro x';(try dsimp only [List.cons_append,List.nil_append,Nat.reduceAdd,put,List.length_cons,List.length_nil,List.set_cons_zero,List.set_cons_succ]);exact x'.o):G:=h ⟨k⟩
theorem Zrv (h:G:=by refine Z4n ?_;exact qe (Out.mk (by (refine congrArg AV.bool ?_;(clear hB c1 c2 c3 c4 c5;(simp_all;done)))) Yb)):G:=h
theorem Zrw (h:G:=by refine Z54 ?_;exact Zrv):G:=h
theorem Zrx (k:G') (h:Hid G'→G:=by intro x';refine q1c rfl rfl (by decide) (q6g (cs:=[_,_,_,_,_,_,_,_,_]) rfl (lk rfl rfl) rfl rfl rfl rfl) ?_;exact x'.o):G:=h ⟨k⟩
theorem Zry (h:G:=by exact qe (Out.mk (by (refine congrArg AV.bool ?_;(clear hB hr;(simp_all;done)))) Yb)):G:=h
theorem Zrz (k:G') (h:Hid G'→G:=by intro x';refine ao2 Y1o (V2.callT (qno _) rfl rfl) ?_;exact x'.o):G:=h ⟨k⟩
theorem Zs0 (k:G') (h:Hid G'→G:=by intro x';refine ao2 Y1o (V2.callT (cr _) rfl rfl) ?_;exact x'.o):G:=h ⟨k⟩
theorem Zs1 (h:G:=by exact qe (Out.mk (by (refine congrArg AV.bool ?_;(clear hB cr cn hse;simp_all))) Yb)):G:=h
theorem Zs2 (k:G') (h:Hid G'→G:=by intro x';refine q17 (g:=79) 19 rfl Y1v (by decide) rfl rfl rfl ?_;exact x'.o):G:=h ⟨k⟩
theorem Zs3 (k:G') (h:Hid G'→G:=by intro x';refine q17 (g:=79) 20 rfl Y1v (by decide) rfl rfl rfl ?_;exact x'.o):G:=h ⟨k⟩
theorem Zs4 (k:G') (h:Hid G'→G:=by intro x';refine q17 (g:=79) 21 rfl Y1v (by decide) rfl rfl rfl ?_;exact x'.o):G:=h ⟨k⟩
theorem Zs5 (k:G') (h:Hid G'→G:=by intro x';refine q17 (g:=79) 22 rfl Y1v (by decide) rfl rfl rfl ?_;exact x'.o):G:=h ⟨k⟩
theorem Zs6 (k:G') (h:Hid G'→G:=by intro x';refine aq0 23 rfl Y1v (by decide) (fun _=>q1q (v:=.bool _) rfl rfl) ?_;exact x'.o):G:=h ⟨k⟩
theorem Zs7 (h:G:=by exact q1y Y1v Y1f (Out.mk (by (refine congrArg AV.bool ?_;(clear hB cr cn cs cl1 cl2 hsg hsw;(simp_all;done)))) Yb)):G:=h
theorem Zs8 (k:G') (h:Hid G'→G:=by intro x';refine ao2 Y1o (V2.call (cl1 _) rfl) ?_;exact x'.o):G:=h ⟨k⟩
theorem Zs9 (k:G') (h:Hid G'→G:=by intro x';refine ao2 Y1o (V2.call (cl2 _) rfl) ?_;exact x'.o):G:=h ⟨k⟩
theorem Zsa (h:G:=by exact qe (Out.mk (by (refine congrArg AV.bool ?_;(clear hB cr cn cs cl1 cl2 hsg hsw;(exfalso;simp at *;done)))) Yb)):G:=h
theorem Zsb (k:G') (h:Hid G'→G:=by intro x';refine ao1 (by decide) (qrt rfl rfl (by omega) rfl) ?_;exact x'.o):G:=h ⟨k⟩
theorem Zsc (k:G') (h:Hid G'→G:=by intro x';refine ao1 (by decide) (qp rfl rfl) ?_;exact x'.o):G:=h ⟨k⟩
theorem Zsd (k:G') (h:Hid G'→G:=by intro x';refine ao1 (by decide) (q20 rfl rfl rfl) ?_;exact x'.o):G:=h ⟨k⟩
theorem Zse (k:G') (h:Hid G'→G:=by intro x';refine q12 (qmq _ _) rfl (by decide) ?_;exact x'.o):G:=h ⟨k⟩
theorem Zsf (k:G') (h:Hid G'→G:=by intro x';refine aqp 3 rfl Y1v (by decide) (fun G=>qz rfl rfl hr rfl) ?_;exact x'.o):G:=h ⟨k⟩
theorem Zsg (k:G') (h:Hid G'→G:=by intro x';refine aqp 4 rfl Y1v (by decide) (fun G=>q5c rfl hr rfl) ?_;exact x'.o):G:=h ⟨k⟩
theorem Zsh (k:G') (h:Hid G'→G:=by intro x';refine q8b 5 rfl Y1v (by decide) (fun _=>V2.callT (cd _) rfl rfl) ?_;exact x'.o):G:=h ⟨k⟩
theorem Zsi (k:G') (h:Hid G'→G:=by intro x';refine aq0 6 rfl Y1v (by decide) (fun _=>qk (v:=.tup _) rfl) ?_;exact x'.o):G:=h ⟨k⟩
theorem Zsj (k:G') (h:Hid G'→G:=by intro x';refine aq0 7 rfl Y1v (by decide) (fun _=>q1o (v:=.agg _) rfl rfl) ?_;exact x'.o):G:=h ⟨k⟩
theorem Zsk (k:G') (h:Hid G'→G:=by intro x';refine aq0 8 rfl Y1v (by decide) (fun _=>q1o (v:=.int _ _) rfl rfl) ?_;exact x'.o):G:=h ⟨k⟩
theorem Zsl (k:G') (h:Hid G'→G:=by intro x';refine aq0 9 rfl Y1v (by decide) (fun _=>q1o (v:=.int _ _) rfl rfl) ?_;exact x'.o):G:=h ⟨k⟩
theorem Zsm (k:G') (h:Hid G'→G:=by intro x';refine aqs 10 rfl Y1v Y1f Y1o (q38 (sz:=13) rfl (by decide) rfl) ?_;exact x'.o):G:=h ⟨k⟩
theorem Zsn (k:G') (h:Hid G'→G:=by intro x';refine aqs 11 rfl Y1v Y1f Y21 (q2c (sz:=13) rfl rfl rfl rfl rfl rfl rfl rfl (Nat.le_of_ble_eq_true rfl)) ?_;exact x'.o):G:=h ⟨k⟩
theorem Zso (k:G') (h:Hid G'→G:=by intro x';refine aq0 13 rfl Y1v (by decide) (fun _=>qx (v:=.int _ _) rfl) ?_;exact x'.o):G:=h ⟨k⟩
theorem Zsp (k:G') (h:Hid G'→G:=by intro x';(try dsimp only [List.cons_append,List.nil_append,List.length_cons,List.length_nil,Nat.reduceAdd,put,List.set_cons_zero,List.set_cons_succ]);exact x'.o):G:=h ⟨k⟩
theorem Zsq (h:G:=by exact qe (Out.mk (by (refine congrArg AV.bool ?_;(clear hB cd cd2 cl1 cl2 rd1 rd2 hsg hrd hsl hn hs hni;(exfalso;simp at *;done)))) Yb)):G:=h
theorem Zsr (h:G:=by exact qe (Out.mk (by (refine congrArg AV.bool ?_;(clear hB cd cd2 cl1 cl2 rd1 rd2 hsg hrd hsl hn hs hni h1 h2;rw [hlen,hlen0] at *;rcases hcs with ⟨q1,q2⟩ | ⟨q1,q2⟩<;>((simp [q1,q2] at *;done))))) Yb)):G:=h
theorem Zss (k:G') (h:Hid G'→G:=by intro x';refine q1c rfl rfl (by decide) (q20 (r:=((os.length+1:Nat):Int)) rfl rfl (by rw [hlen0];exact qd (by omega) (by omega))) ?_;exact x'.o):G:=h ⟨k⟩
theorem Zst (k:G') (h:Hid G'→G:=by intro x';refine ao1 (by decide) (q20 (r:=((w+1:Nat):Int)) rfl rfl (qd (by omega) (by omega))) ?_;exact x'.o):G:=h ⟨k⟩
theorem Zsu (h:G:=by exact qe (Out.mk (by (refine congrArg AV.bool ?_;(clear hB cn cr c1 hown1 hcutt1 hr2 hu0;(simp_all;done)))) Yb)):G:=h
theorem Zsv (k:G') (h:Hid G'→G:=by intro x';refine ao1 (by decide) (q6r (ys:=(s.log.take at_).map q15) rfl (Bd.some rfl rfl) Y1b (q11 _) Y1p) ?_;exact x'.o):G:=h ⟨k⟩
theorem Zsw (k:G') (h:Hid G'→G:=by intro x';(try dsimp only [List.cons_append,List.nil_append,Nat.reduceAdd,put,List.set_cons_zero,List.set_cons_succ]);exact x'.o):G:=h ⟨k⟩
theorem Zsx (k:G') (h:Hid G'→G:=by intro x';refine aq0 1 rfl Y1v (by decide) (fun _=>qyn rfl rfl) ?_;exact x'.o):G:=h ⟨k⟩
theorem Zsy (k:G') (h:Hid G'→G:=by intro x';refine q17 (g:=159) 3 rfl Y1v (by decide) rfl rfl rfl ?_;exact x'.o):G:=h ⟨k⟩
theorem Zsz (k:G') (h:Hid G'→G:=by intro x';refine q17 (g:=159) 4 rfl Y1v (by decide) rfl rfl rfl ?_;exact x'.o):G:=h ⟨k⟩
theorem Zt0 (k:G') (h:Hid G'→G:=by intro x';refine q17 (g:=159) 5 rfl Y1v (by decide) rfl rfl rfl ?_;exact x'.o):G:=h ⟨k⟩
theorem Zt1 (k:G') (h:Hid G'→G:=by intro x';refine q17 (g:=159) 6 rfl Y1v (by decide) rfl rfl rfl ?_;exact x'.o):G:=h ⟨k⟩
theorem Zt2 (k:G') (h:Hid G'→G:=by intro x';refine q17 (g:=159) 7 rfl Y1v (by decide) rfl rfl rfl ?_;exact x'.o):G:=h ⟨k⟩
theorem Zt3 (k:G') (h:Hid G'→G:=by intro x';refine q17 (g:=159) 8 rfl Y1v (by decide) rfl rfl rfl ?_;exact x'.o):G:=h ⟨k⟩
theorem Zt4 (k:G') (h:Hid G'→G:=by intro x';refine q17 (g:=159) 9 rfl Y1v (by decide) rfl rfl rfl ?_;exact x'.o):G:=h ⟨k⟩
theorem Zt5 (h:G:=by exact q1y Y1v Y1f (Out.mk (by (refine congrArg AV.bool ?_;(clear hB cn cr c1 c2 c3 hown1 hcutt1 hu0;(exfalso;simp at *;done)))) Yb)):G:=h
theorem Zt6 (k:G') (h:Hid G'→G:=by intro x';refine q2x (g:=159) 3 rfl Y1v (by decide) rfl rfl (fun G=>q1m rfl (lk rfl rfl) rfl rfl rfl) ?_;exact x'.o):G:=h ⟨k⟩
theorem Zt7 (k:G') (h:Hid G'→G:=by intro x';refine q2s (g:=159) 4 rfl Y1v (by decide) rfl rfl (fun _=>qk (v:=.sl _ _ _ _ _) rfl) ?_;exact x'.o):G:=h ⟨k⟩
theorem Zt8 (k:G') (h:Hid G'→G:=by intro x';refine q2s (g:=159) 5 rfl Y1v (by decide) rfl rfl (fun _=>qk (v:=.int _ _) rfl) ?_;exact x'.o):G:=h ⟨k⟩
theorem Zt9 (k:G') (h:Hid G'→G:=by intro x';refine q2x (g:=159) 6 rfl Y1v (by decide) rfl rfl (fun G=>qw rfl (lk rfl rfl) rfl rfl rfl (by omega)) ?_;exact x'.o):G:=h ⟨k⟩
theorem Zta (k:G') (h:Hid G'→G:=by intro x';refine q2x (g:=159) 7 rfl Y1v (by decide) rfl rfl (fun G=>q1m rfl (lk rfl rfl) rfl (qca hu0) rfl) ?_;exact x'.o):G:=h ⟨k⟩
theorem Ztb (k:G') (h:Hid G'→G:=by intro x';refine qct (g:=159) 8 rfl Y1v (by decide) rfl rfl (fun _=>V2.call (q8x u u hug.graph hug.ri _) rfl) ?_;exact x'.o):G:=h ⟨k⟩
theorem Ztc (k:G') (h:Hid G'→G:=by intro x';refine q2s (g:=159) 9 rfl Y1v (by decide) rfl rfl (fun _=>qa2 rfl) ?_;exact x'.o):G:=h ⟨k⟩
theorem Ztd (h:G:=by exact q1y Y1v Y1f (Out.mk (by (refine congrArg AV.bool ?_;(clear hB cn cr c1 c2 c3 hown1 hcutt1 hu0;(simp;done)))) Yb)):G:=h
theorem Zte (k:G') (h:Hid G'→G:=by intro x';refine ao1 (by decide) (qh (v:=.pl _) rfl (lk rfl rfl) rfl (qca hu0) rfl) ?_;exact x'.o):G:=h ⟨k⟩
theorem Ztf (k:G') (h:Hid G'→G:=by intro x';refine ao2 Y1o (q6p (k:=3) (sz:=1) (bytes:=1) rfl (Src.pl (ys:=u.log.map q15) rfl (q11 _)) rfl (by decide) Y1b Y1b rfl) ?_;exact x'.o):G:=h ⟨k⟩
theorem Ztg (k:G') (h:Hid G'→G:=by intro x';refine ao2 Y1o (qcy (bs:=u.log) (cs:=more) (en:=q15) (by rw [show u.log.length=(u.log.map q15).length from (List.length_map _).symm];rfl) rfl rfl (Src.pl rfl (q11 _)) rfl (by omega) (by omega)) ?_;exact x'.o):G:=h ⟨k⟩
theorem Zth (k:G') (h:Hid G'→G:=by intro x';(try dsimp only [List.cons_append,List.nil_append,Nat.reduceAdd,put,List.set_cons_succ,List.set_cons_zero,List.length_cons,List.length_nil]);exact x'.o):G:=h ⟨k⟩
theorem Zti (k:G') (h:Hid G'→G:=by intro x';refine q39 mixed none 5 ?_;exact x'.o):G:=h ⟨k⟩
theorem Ztj (k:G') (h:Hid G'→G:=by intro x';refine aq0 1 rfl Y1v (by decide) (fun _=>o_eq rfl rfl) ?_;exact x'.o):G:=h ⟨k⟩
theorem Ztk (k:G') (h:Hid G'→G:=by intro x';refine q2x (g:=186) 3 rfl Y1v (by decide) rfl rfl (fun G=>q1m rfl (lk rfl rfl) rfl rfl rfl) ?_;exact x'.o):G:=h ⟨k⟩
theorem Ztl (k:G') (h:Hid G'→G:=by intro x';refine q2s (g:=186) 4 rfl Y1v (by decide) rfl rfl (fun _=>qk (v:=.sl _ _ _ _ _) rfl) ?_;exact x'.o):G:=h ⟨k⟩
theorem Ztm (k:G') (h:Hid G'→G:=by intro x';refine q2s (g:=186) 5 rfl Y1v (by decide) rfl rfl (fun _=>qk (v:=.int _ _) rfl) ?_;exact x'.o):G:=h ⟨k⟩
theorem Ztn (k:G') (h:Hid G'→G:=by intro x';refine q2x (g:=186) 6 rfl Y1v (by decide) rfl rfl (fun G=>qw rfl (lk rfl rfl) rfl rfl rfl (by omega)) ?_;exact x'.o):G:=h ⟨k⟩
theorem Zto (k:G') (h:Hid G'→G:=by intro x';refine q2x (g:=186) 7 rfl Y1v (by decide) rfl rfl (fun G=>q1m rfl (lk rfl rfl) rfl (qca hu0) rfl) ?_;exact x'.o):G:=h ⟨k⟩
theorem Ztp (k:G') (h:Hid G'→G:=by intro x';refine qct (g:=186) 8 rfl Y1v (by decide) rfl rfl (fun _=>V2.call (q8x u u hug.graph hug.ri _) rfl) ?_;exact x'.o):G:=h ⟨k⟩
theorem Ztq (k:G') (h:Hid G'→G:=by intro x';refine aq0 9 rfl Y1v (by decide) (fun _=>q1q (v:=.bool _) rfl rfl) ?_;exact x'.o):G:=h ⟨k⟩
theorem Ztr (k:G') (h:Hid G'→G:=by intro x';refine aq0 10 rfl Y1v (by decide) (fun _=>qx (v:=.bool _) rfl) ?_;exact x'.o):G:=h ⟨k⟩
theorem Zts (k:G') (h:Hid G'→G:=by intro x';refine q17 (g:=186) 3 rfl Y1v (by decide) rfl rfl rfl ?_;exact x'.o):G:=h ⟨k⟩
theorem Ztt (k:G') (h:Hid G'→G:=by intro x';refine q17 (g:=186) 4 rfl Y1v (by decide) rfl rfl rfl ?_;exact x'.o):G:=h ⟨k⟩
theorem Ztu (k:G') (h:Hid G'→G:=by intro x';refine q17 (g:=186) 5 rfl Y1v (by decide) rfl rfl rfl ?_;exact x'.o):G:=h ⟨k⟩
theorem Ztv (k:G') (h:Hid G'→G:=by intro x';refine q17 (g:=186) 6 rfl Y1v (by decide) rfl rfl rfl ?_;exact x'.o):G:=h ⟨k⟩
theorem Ztw (k:G') (h:Hid G'→G:=by intro x';refine q17 (g:=186) 7 rfl Y1v (by decide) rfl rfl rfl ?_;exact x'.o):G:=h ⟨k⟩
theorem Ztx (k:G') (h:Hid G'→G:=by intro x';refine q17 (g:=186) 8 rfl Y1v (by decide) rfl rfl rfl ?_;exact x'.o):G:=h ⟨k⟩
theorem Zty (k:G') (h:Hid G'→G:=by intro x';refine aq0 9 rfl Y1v (by decide) (fun _=>q1r (v:=.bool _) rfl rfl) ?_;exact x'.o):G:=h ⟨k⟩
end Go.Av
