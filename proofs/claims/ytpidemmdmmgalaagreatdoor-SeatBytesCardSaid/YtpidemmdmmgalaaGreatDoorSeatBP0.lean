/- Steps of walks: each a theorem whose last argument is a tactic. -/
import Derived.KernelRfl
namespace Go.Av
variable {p : Prop}
theorem Y20 (h:p:=by cases hb):p:=h
theorem Y1y (h:p:=by assumption):p:=h
theorem Y1z (h:p:=by kernel_rfl):p:=h
theorem Y1w (h:p:=by rintro _ ⟨⟩):p:=h
theorem Y1x (h:p:=by simp;omega):p:=h
theorem Y1v (h:p:=by (simp;done)):p:=h
theorem Y1u (h:p:=by (simp;omega)):p:=h
theorem Y1q (h:p:=by decide +kernel):p:=h
theorem Y1r (h:p:=by simpa using hb):p:=h
theorem Y1s (h:p:=by simpa using hk):p:=h
theorem Y1t (h:p:=by simpa using hc):p:=h
theorem Y1p (h:p:=by rw [hc];decide):p:=h
theorem Y1o (h:p:=by rw [hc1];decide):p:=h
theorem Y1m (h:p:=by show _≤1;omega):p:=h
theorem Y1n (h:p:=by unfold Lid;omega):p:=h
theorem Y1l (h:p:=by simp [AV.bel,Lid]):p:=h
theorem Y1k (h:p:=by rintro _ ⟨⟩;decide):p:=h
theorem Y1h (h:p:=by rw [qnu];omega):p:=h
theorem Y1i (h:p:=by rw [qoa];omega):p:=h
theorem Y1j (h:p:=by (simp [q4g];done)):p:=h
theorem Y1f (h:p:=by rintro _ ⟨⟩;exact hd):p:=h
theorem Y1g (h:p:=by rintro v r e;cases e):p:=h
theorem Y1e (h:p:=by simp [AV.bels,AV.bel]):p:=h
theorem Y1b (h:p:=by exact fun _=>⟨_,rfl⟩):p:=h
theorem Y1c (h:p:=by rw [h0] at hr;cases hr):p:=h
theorem Y1d (h:p:=by rintro e r e1;cases e1):p:=h
theorem Y1a (h:p:=by rw [List.map_append];rfl):p:=h
theorem Y18 (h:p:=by rw [IntKind.wrap_u8];omega):p:=h
theorem Y19 (h:p:=by rw [q57 _ _ hai];exact ha):p:=h
theorem Y14 (h:p:=by rw [IntKind.wrap_u64];omega):p:=h
theorem Y15 (h:p:=by exact fun _=>⟨_,rfl,rfl⟩):p:=h
theorem Y16 (h:p:=by rw [List.length_drop];omega):p:=h
theorem Y17 (h:p:=by rw [List.length_take];omega):p:=h
theorem Y13 (h:p:=by rintro _ ⟨G,rfl⟩;exact h1 G):p:=h
theorem Y12 (h:p:=by rw [List.length_append];omega):p:=h
theorem Y11 (h:p:=by rw [q4p (by omega)];rfl):p:=h
theorem Yz (h:p:=by rw [ok.gen];exact Nat.le_refl _):p:=h
theorem Y10 (h:p:=by first | rfl | (simp [get];done)):p:=h
theorem Yx (h:p:=by exact fun _=>⟨_,rfl,rfl,rfl⟩):p:=h
theorem Yy (h:p:=by rw [q27];exact Nat.le_refl _):p:=h
theorem Yw (h:p:=by exact qz6 Y1q):p:=h
theorem Yv (h:p:=by simpa [List.filterMap_cons] using h1):p:=h
theorem Yu (h:p:=by simp only [List.length_append];omega):p:=h
theorem Ys (h:p:=by rw [List.drop_zero,← hn,List.take_length]):p:=h
theorem Yt (h:p:=by rw [show (0:Int)=(q22 b).2 by omega]):p:=h
theorem Yr (h:p:=by rw [List.drop_zero,← hlen,List.take_length]):p:=h
theorem Yq (h:p:=by rw [List.length_take,List.length_drop];omega):p:=h
theorem Yp (h:p:=by subst e;rw [hx] at hy;exact Option.some.inj hy):p:=h
theorem Yo (h:p:=by (repeat (refine q4u ?_));exact qfy hB hres):p:=h
theorem Ym (h:p:=by rw [List.drop_zero,List.take_of_length_le (by simp)]):p:=h
theorem Yn (h:p:=by rw [← hv.1];exact (List.getElem?_eq_some_iff.1 hj).1):p:=h
theorem Yl (h:p:=by simp only [List.length_append,List.length_nil];omega):p:=h
theorem Yk (h:p:=by rw [List.drop_zero,List.take_of_length_le Y1x]):p:=h
theorem Yj (h:p:=by rw [List.take_length,hlen,List.take_length] at ht;exact ht):p:=h
theorem Yi (h:p:=by intro r hr;simp only [List.mem_singleton] at hr;subst hr;rfl):p:=h
theorem Yh (h:p:=by refine congrArg (fun x=>[AV.bool x,AV.int .i64 3]) ?_;simp;omega):p:=h
theorem Yg (h:p:=by refine congrArg (fun x=>[AV.bool x,AV.int .i64 3]) ?_;(simp_all;done)):p:=h
theorem Ye (h:p:=by refine congrArg (fun x=>[AV.bool x,AV.int .i64 3]) ?_;(simp_all;omega)):p:=h
theorem Yf (h:p:=by rintro e r e1;cases e1;(repeat (refine q4u ?_));exact qfy hB hres):p:=h
theorem Yd (h:p:=by rw [show i+(j-i-1)+1=j by omega];exact List.getElem?_eq_getElem hj):p:=h
theorem Yc (h:p:=by (repeat (first | refine q4u ?_ | refine qij ?_));exact qfy hB hres):p:=h
theorem Yb (h:p:=by repeat (first | exact SubX.refl _ _ | refine SubX.at ?_ | refine SubX.put rfl ?_)):p:=h
theorem Ya (h:p:=by intro o ho r hr;simp only [List.mem_singleton] at ho;subst ho;exact qd3 _ _ r hr):p:=h
theorem Y9 (h:p:=by first | rfl | (simp [AV.bel,AV.bels,Lid];done) | (simp [AV.bel,AV.bels,Lid];omega)):p:=h
theorem Y8 (h:p:=by repeat (first | exact Sub.nil | refine Sub.cons Y10 ?_)):p:=h
theorem Y6 (h:p:=by rw [show (i:Int)-1=((i-1:Nat):Int) by omega];exact qc (by omega) (by omega)):p:=h
theorem Y7 (h:p:=by rw [Nat.zero_add,Nat.zero_add,← List.map_set,← List.map_set,e3,List.set_set,List.set_set]):p:=h
theorem Y5 (h:p:=by intro r hr;simp only [List.mem_singleton] at hr;subst hr;(simp [AV.bels,AV.bel,q4g];done)):p:=h
theorem Y4 (h:p:=by rw [hh];exact Y8):p:=h
theorem Y2 (h:p:=by rw [show ((a+(j+1):Nat):Int)-1=((a+j:Nat):Int) by omega];exact qc (by omega) (by omega)):p:=h
theorem Y3 (h:p:=by rw [show ((a+(k+1):Nat):Int)-1=((a+k:Nat):Int) by omega];exact qc (by omega) (by omega)):p:=h
theorem Y1 (h:p:=by repeat (first | exact EBel.nil | refine EBel.cons Y9 ?_)):p:=h
structure Hid (p : Prop) : Prop where
 o:p
variable {G G' : Prop}
theorem Z1 (k:G') (h:Hid G'→G:=by intro x';(repeat (first | refine q7z ?_ | refine q7y ?_ | refine q5u ?_ | refine q9t ?_ | refine q7s ?_ | refine qaa ?_ | refine q7v rfl ?_ | refine q7w ?_ | refine q9y ?_ | refine qaj ?_ | refine qb4 ?_ | refine q86 ?_ | refine q9x ?_ | refine q7k ?_ | refine q2z ?_));exact x'.o):G:=h ⟨k⟩
theorem Z2 (k:G') (h:Hid G'→G:=by intro x';refine Z1 ?_;refine q18 ?_;exact x'.o):G:=h ⟨k⟩
theorem Z3 (k:G') (h:Hid G'→G:=by intro x';refine ao1 (by decide) (q11 (v:=.int _ _) rfl) ?_;exact x'.o):G:=h ⟨k⟩
theorem Z4 (k:G') (h:Hid G'→G:=by intro x';refine Z3 ?_;refine qe ?_;exact x'.o):G:=h ⟨k⟩
theorem Z5 (k:G') (h:Hid G'→G:=by intro x';refine Z2 ?_;refine Z4 ?_;exact x'.o):G:=h ⟨k⟩
theorem Z6 (k:G') (h:Hid G'→G:=by intro x';refine ao1 (by decide) (qi (v:=.str _) rfl) ?_;exact x'.o):G:=h ⟨k⟩
theorem Z7 (k:G') (h:Hid G'→G:=by intro x';refine Z2 ?_;refine Z6 ?_;exact x'.o):G:=h ⟨k⟩
theorem Z8 (k:G') (h:Hid G'→G:=by intro x';refine ao1 (by decide) (qi (v:=.int _ _) rfl) ?_;exact x'.o):G:=h ⟨k⟩
theorem Z9 (k:G') (h:Hid G'→G:=by intro x';refine qe ?_;refine Z1 ?_;exact x'.o):G:=h ⟨k⟩
theorem Za (k:G') (h:Hid G'→G:=by intro x';refine Z3 ?_;refine Z9 ?_;exact x'.o):G:=h ⟨k⟩
theorem Zb (h:G:=by exact q4r hB (q2o rfl .nil) rfl rfl):G:=h
theorem Zc (h:G:=by refine Za ?_;exact Zb):G:=h
theorem Zd (k:G') (h:Hid G'→G:=by intro x';refine ao1 (by decide) (q11 (v:=.bool _) rfl) ?_;exact x'.o):G:=h ⟨k⟩
theorem Ze (k:G') (h:Hid G'→G:=by intro x';refine Zd ?_;refine Z9 ?_;exact x'.o):G:=h ⟨k⟩
theorem Zf (k:G') (h:Hid G'→G:=by intro x';refine Z2 ?_;refine Ze ?_;exact x'.o):G:=h ⟨k⟩
theorem Zg (k:G') (h:Hid G'→G:=by intro x';refine ao1 (by decide) (o_le rfl rfl) ?_;exact x'.o):G:=h ⟨k⟩
theorem Zh (k:G') (h:Hid G'→G:=by intro x';refine ao1 (by decide) (qi (v:=.bool _) rfl) ?_;exact x'.o):G:=h ⟨k⟩
theorem Zi (k:G') (h:Hid G'→G:=by intro x';refine Zg ?_;refine Zh ?_;exact x'.o):G:=h ⟨k⟩
theorem Zj (k:G') (h:Hid G'→G:=by intro x';refine q1j rfl rfl (by decide) (qi (v:=.int _ _) rfl) ?_;exact x'.o):G:=h ⟨k⟩
theorem Zk (k:G') (h:Hid G'→G:=by intro x';refine q1j rfl rfl (by decide) (qwh rfl rfl) ?_;exact x'.o):G:=h ⟨k⟩
theorem Zl (k:G') (h:Hid G'→G:=by intro x';refine Zj ?_;refine Zk ?_;exact x'.o):G:=h ⟨k⟩
theorem Zm (k:G') (h:Hid G'→G:=by intro x';refine ao1 (by decide) (q1n (v:=.bool _) rfl rfl) ?_;exact x'.o):G:=h ⟨k⟩
theorem Zn (k:G') (h:Hid G'→G:=by intro x';refine Zm ?_;refine Zd ?_;exact x'.o):G:=h ⟨k⟩
theorem Zo (h:G:=by exact qe (Out.mk (by (refine congrArg AV.bool ?_;(refine Bool.eq_iff_iff.mpr ?_;simp only [Bool.and_eq_true,Bool.or_eq_true,Bool.not_eq_true',decide_eq_true_eq,decide_eq_false_iff_not,beq_iff_eq,bne_iff_ne,beq_eq_false_iff_ne,Bool.false_eq_true,Bool.true_eq_false,Bool.and_eq_false_iff,Bool.or_eq_false_iff,List.length_map,false_iff,true_iff,iff_true,iff_false] at *;omega))) Yb)):G:=h
theorem Zp (k:G') (h:Hid G'→G:=by intro x';refine q149 rfl rfl (by decide) ?_;exact x'.o):G:=h ⟨k⟩
theorem Zq (k:G') (h:Hid G'→G:=by intro x';refine Zp ?_;refine Zp ?_;exact x'.o):G:=h ⟨k⟩
theorem Zr (k:G') (h:Hid G'→G:=by intro x';refine ao1 (by decide) (q1m (v:=.bool _) rfl rfl) ?_;exact x'.o):G:=h ⟨k⟩
theorem Zs (k:G') (h:Hid G'→G:=by intro x';refine Zq ?_;refine Zr ?_;exact x'.o):G:=h ⟨k⟩
theorem Zt (k:G') (h:Hid G'→G:=by intro x';refine Zs ?_;refine Zd ?_;exact x'.o):G:=h ⟨k⟩
theorem Zu (k:G') (h:Hid G'→G:=by intro x';refine ao1 (by decide) (qwh rfl rfl) ?_;exact x'.o):G:=h ⟨k⟩
theorem Zv (k:G') (h:Hid G'→G:=by intro x';refine Zu ?_;refine Zh ?_;exact x'.o):G:=h ⟨k⟩
theorem Zw (k:G') (h:Hid G'→G:=by intro x';refine Z8 ?_;refine Zv ?_;exact x'.o):G:=h ⟨k⟩
theorem Zx (k:G') (h:Hid G'→G:=by intro x';refine q1j rfl rfl (by decide) (o_le rfl rfl) ?_;exact x'.o):G:=h ⟨k⟩
theorem Zy (k:G') (h:Hid G'→G:=by intro x';refine Zx ?_;refine Zn ?_;exact x'.o):G:=h ⟨k⟩
theorem Zz (k:G') (h:Hid G'→G:=by intro x';refine Z2 ?_;refine Za ?_;exact x'.o):G:=h ⟨k⟩
theorem Z10 (h:G:=by exact qe (Out.mk (by rfl) Yb)):G:=h
theorem Z11 (k:G') (h:Hid G'→G:=by intro x';refine Z2 ?_;refine Z8 ?_;exact x'.o):G:=h ⟨k⟩
theorem Z12 (k:G') (h:Hid G'→G:=by intro x';refine ao1 (by decide) (o_eq rfl rfl) ?_;exact x'.o):G:=h ⟨k⟩
theorem Z13 (k:G') (h:Hid G'→G:=by intro x';refine Z12 ?_;refine Ze ?_;exact x'.o):G:=h ⟨k⟩
theorem Z14 (k:G') (h:Hid G'→G:=by intro x';refine ao1 (by decide) (q2f (v:=.int _ _) rfl rfl) ?_;exact x'.o):G:=h ⟨k⟩
theorem Z15 (k:G') (h:Hid G'→G:=by intro x';refine Z3 ?_;refine Z4 ?_;exact x'.o):G:=h ⟨k⟩
theorem Z16 (k:G') (h:Hid G'→G:=by intro x';refine Z12 ?_;refine Z9 ?_;exact x'.o):G:=h ⟨k⟩
theorem Z17 (k:G') (h:Hid G'→G:=by intro x';refine Z11 ?_;refine Z16 ?_;exact x'.o):G:=h ⟨k⟩
theorem Z18 (h:G:=by refine Z2 ?_;exact Zc):G:=h
theorem Z19 (k:G') (h:Hid G'→G:=by intro x';refine ao1 (by decide) (qc1 rfl) ?_;exact x'.o):G:=h ⟨k⟩
theorem Z1a (k:G') (h:Hid G'→G:=by intro x';refine ao1 (by decide) (q11 (v:=.str _) rfl) ?_;exact x'.o):G:=h ⟨k⟩
theorem Z1b (k:G') (h:Hid G'→G:=by intro x';refine ao1 (by decide) (qwr rfl) ?_;exact x'.o):G:=h ⟨k⟩
theorem Z1c (k:G') (h:Hid G'→G:=by intro x';refine Z11 ?_;refine Z4 ?_;exact x'.o):G:=h ⟨k⟩
theorem Z1d (k:G') (h:Hid G'→G:=by intro x';(repeat (first | refine q7z ?_ | refine q7y ?_ | refine q5u ?_ | refine q9t ?_ | refine q7s ?_ | refine qaa ?_ | refine q7v rfl ?_ | refine q7w ?_ | refine q9y ?_ | refine qaj ?_ | refine qb4 ?_ | refine q86 ?_ | refine q9x ?_ | refine q7k ?_));exact x'.o):G:=h ⟨k⟩
theorem Z1e (k:G') (h:Hid G'→G:=by intro x';refine Z5 ?_;refine Z1d ?_;exact x'.o):G:=h ⟨k⟩
theorem Z1f (k:G') (h:Hid G'→G:=by intro x';refine Zu ?_;refine Z9 ?_;exact x'.o):G:=h ⟨k⟩
theorem Z1g (k:G') (h:Hid G'→G:=by intro x';refine q3i mixed none 999 ?_;exact x'.o):G:=h ⟨k⟩
theorem Z1h (k:G') (h:Hid G'→G:=by intro x';refine aq0 0 rfl Y1q (by decide) (fun _=>qi (v:=.str _) rfl) ?_;exact x'.o):G:=h ⟨k⟩
theorem Z1i (k:G') (h:Hid G'→G:=by intro x';refine aq0 1 rfl Y1q (by decide) (fun _=>qi (v:=.int _ _) rfl) ?_;exact x'.o):G:=h ⟨k⟩
theorem Z1j (k:G') (h:Hid G'→G:=by intro x';refine aq0 4 rfl Y1q (by decide) (fun _=>qi (v:=.int _ _) rfl) ?_;exact x'.o):G:=h ⟨k⟩
theorem Z1k (k:G') (h:Hid G'→G:=by intro x';refine q1y Y1q Y1b ?_;exact x'.o):G:=h ⟨k⟩
theorem Z1l (k:G') (h:Hid G'→G:=by intro x';refine aq0 5 rfl Y1q (by decide) (fun _=>qi (v:=.int _ _) rfl) ?_;exact x'.o):G:=h ⟨k⟩
theorem Z1m (k:G') (h:Hid G'→G:=by intro x';refine aq0 8 rfl Y1q (by decide) (fun _=>q11 (v:=.int _ _) rfl) ?_;exact x'.o):G:=h ⟨k⟩
theorem Z1n (k:G') (h:Hid G'→G:=by intro x';refine Zd ?_;refine qe ?_;exact x'.o):G:=h ⟨k⟩
theorem Z1o (k:G') (h:Hid G'→G:=by intro x';refine Z2 ?_;refine Z1n ?_;exact x'.o):G:=h ⟨k⟩
theorem Z1p (k:G') (h:Hid G'→G:=by intro x';refine ao1 (by decide) (o_ge rfl rfl) ?_;exact x'.o):G:=h ⟨k⟩
theorem Z1q (h:G:=by refine Ze ?_;exact Zb):G:=h
theorem Z1r (k:G') (h:Hid G'→G:=by intro x';refine ao1 (by decide) (qi (v:=.fn _ _ _) rfl) ?_;exact x'.o):G:=h ⟨k⟩
theorem Z1s (k:G') (h:Hid G'→G:=by intro x';refine Z2 ?_;refine Z1r ?_;exact x'.o):G:=h ⟨k⟩
theorem Z1t (k:G') (h:Hid G'→G:=by intro x';refine Z11 ?_;refine Za ?_;exact x'.o):G:=h ⟨k⟩
theorem Z1u (k:G') (h:Hid G'→G:=by intro x';refine q1j rfl rfl (by decide) (qi (v:=.str _) rfl) ?_;exact x'.o):G:=h ⟨k⟩
theorem Z1v (k:G') (h:Hid G'→G:=by intro x';refine q1j rfl rfl (by decide) (qc1 rfl) ?_;exact x'.o):G:=h ⟨k⟩
theorem Z1w (h:G:=by exact qe (Out.mk (by (refine congrArg AV.bool ?_;(simp_all;done))) Yb)):G:=h
theorem Z1x (k:G') (h:Hid G'→G:=by intro x';refine Zp ?_;refine Zr ?_;exact x'.o):G:=h ⟨k⟩
theorem Z1y (k:G') (h:Hid G'→G:=by intro x';refine Zq ?_;refine Z1x ?_;exact x'.o):G:=h ⟨k⟩
theorem Z1z (k:G') (h:Hid G'→G:=by intro x';refine Z1y ?_;refine Zd ?_;exact x'.o):G:=h ⟨k⟩
theorem Z20 (h:G:=by refine Z1 ?_;exact Zb):G:=h
theorem Z21 (k:G') (h:Hid G'→G:=by intro x';refine Z1p ?_;refine Zh ?_;exact x'.o):G:=h ⟨k⟩
theorem Z22 (k:G') (h:Hid G'→G:=by intro x';refine q1j rfl rfl (by decide) (q75 rfl rfl (by omega) h1) ?_;exact x'.o):G:=h ⟨k⟩
theorem Z23 (k:G') (h:Hid G'→G:=by intro x';refine Z19 ?_;refine Zh ?_;exact x'.o):G:=h ⟨k⟩
theorem Z24 (k:G') (h:Hid G'→G:=by intro x';refine q1j rfl rfl (by decide) (o_ge rfl rfl) ?_;exact x'.o):G:=h ⟨k⟩
theorem Z25 (k:G') (h:Hid G'→G:=by intro x';refine q1j rfl rfl (by decide) (qi (v:=.bool _) rfl) ?_;exact x'.o):G:=h ⟨k⟩
theorem Z26 (k:G') (h:Hid G'→G:=by intro x';refine q1j rfl rfl (by decide) (q1n (v:=.bool _) rfl rfl) ?_;exact x'.o):G:=h ⟨k⟩
theorem Z27 (k:G') (h:Hid G'→G:=by intro x';refine Z1v ?_;refine Zm ?_;exact x'.o):G:=h ⟨k⟩
theorem Z28 (h:G:=by exact qe (Out.mk (by (refine congrArg AV.bool ?_;simp only [qj3,qfs] at *;grind)) Yb)):G:=h
theorem Z29 (k:G') (h:Hid G'→G:=by intro x';refine Zq ?_;refine Zq ?_;exact x'.o):G:=h ⟨k⟩
theorem Z2a (k:G') (h:Hid G'→G:=by intro x';refine q1j rfl rfl (by decide) (q1m (v:=.bool _) rfl rfl) ?_;exact x'.o):G:=h ⟨k⟩
theorem Z2b (k:G') (h:Hid G'→G:=by intro x';refine q14d rfl rfl (by decide) ?_;exact x'.o):G:=h ⟨k⟩
theorem Z2c (k:G') (h:Hid G'→G:=by intro x';refine Z2b ?_;refine Z2b ?_;exact x'.o):G:=h ⟨k⟩
theorem Z2d (k:G') (h:Hid G'→G:=by intro x';refine Zp ?_;refine Z2c ?_;exact x'.o):G:=h ⟨k⟩
theorem Z2e (k:G') (h:Hid G'→G:=by intro x';refine Zq ?_;refine Zs ?_;exact x'.o):G:=h ⟨k⟩
theorem Z2f (k:G') (h:Hid G'→G:=by intro x';refine ao1 (by decide) (q1x rfl rfl (qc (by omega) (by omega))) ?_;exact x'.o):G:=h ⟨k⟩
theorem Z2g (k:G') (h:Hid G'→G:=by intro x';refine Z11 ?_;refine Z2f ?_;exact x'.o):G:=h ⟨k⟩
theorem Z2h (k:G') (h:Hid G'→G:=by intro x';refine Z2g ?_;refine Za ?_;exact x'.o):G:=h ⟨k⟩
theorem Z2i (k:G') (h:Hid G'→G:=by intro x';refine ao1 (by decide) (q10x rfl rfl rfl) ?_;exact x'.o):G:=h ⟨k⟩
theorem Z2j (k:G') (h:Hid G'→G:=by intro x';refine qu (qtd _ _) rfl (by decide) ?_;exact x'.o):G:=h ⟨k⟩
theorem Z2k (k:G') (h:Hid G'→G:=by intro x';refine Z11 ?_;refine Z8 ?_;exact x'.o):G:=h ⟨k⟩
theorem Z2l (k:G') (h:Hid G'→G:=by intro x';refine ao1 (by decide) (qyz rfl rfl) ?_;exact x'.o):G:=h ⟨k⟩
theorem Z2m (k:G') (h:Hid G'→G:=by intro x';refine qu (qvd _ _) rfl (by decide) ?_;exact x'.o):G:=h ⟨k⟩
theorem Z2n (k:G') (h:Hid G'→G:=by intro x';refine Z2 ?_;refine Zh ?_;exact x'.o):G:=h ⟨k⟩
theorem Z2o (k:G') (h:Hid G'→G:=by intro x';refine Z2k ?_;refine Z1f ?_;exact x'.o):G:=h ⟨k⟩
theorem Z2p (k:G') (h:Hid G'→G:=by intro x';refine ao1 (by decide) (qwm rfl rfl) ?_;exact x'.o):G:=h ⟨k⟩
theorem Z2q (k:G') (h:Hid G'→G:=by intro x';refine Z2p ?_;refine Z9 ?_;exact x'.o):G:=h ⟨k⟩
theorem Z2r (k:G') (h:Hid G'→G:=by intro x';refine Z8 ?_;refine Z8 ?_;exact x'.o):G:=h ⟨k⟩
theorem Z2s (k:G') (h:Hid G'→G:=by intro x';refine Zj ?_;refine Zj ?_;exact x'.o):G:=h ⟨k⟩
theorem Z2t (k:G') (h:Hid G'→G:=by intro x';refine ao2 Y1k (q8z (sz:=7) (v:=.agg _) rfl rfl rfl rfl (by decide) rfl) ?_;exact x'.o):G:=h ⟨k⟩
theorem Z2u (k:G') (h:Hid G'→G:=by intro x';refine Z2 ?_;refine Z2t ?_;exact x'.o):G:=h ⟨k⟩
theorem Z2v (k:G') (h:Hid G'→G:=by intro x';(try dsimp only [List.length_nil,put,AV.cells,List.nil_append]);exact x'.o):G:=h ⟨k⟩
theorem Z2w (k:G') (h:Hid G'→G:=by intro x';refine Z1n ?_;refine Z2v ?_;exact x'.o):G:=h ⟨k⟩
theorem Z2x (k:G') (h:Hid G'→G:=by intro x';refine Z2w ?_;refine Z1 ?_;exact x'.o):G:=h ⟨k⟩
theorem Z2y (k:G') (h:Hid G'→G:=by intro x';refine ao1 (by decide) (qd rfl (lk rfl rfl) rfl (by decide)) ?_;exact x'.o):G:=h ⟨k⟩
theorem Z2z (k:G') (h:Hid G'→G:=by intro x';refine ao1 (by decide) (qh (v:=.int _ _) rfl (lk rfl rfl) rfl rfl rfl) ?_;exact x'.o):G:=h ⟨k⟩
theorem Z30 (k:G') (h:Hid G'→G:=by intro x';refine Z2y ?_;refine Z2z ?_;exact x'.o):G:=h ⟨k⟩
theorem Z31 (k:G') (h:Hid G'→G:=by intro x';refine q1j rfl rfl (by decide) (qd rfl (lk rfl rfl) rfl (by decide)) ?_;exact x'.o):G:=h ⟨k⟩
theorem Z32 (k:G') (h:Hid G'→G:=by intro x';refine Z31 ?_;refine q1j rfl rfl (by decide) (qh (v:=.int _ _) rfl (lk rfl rfl) rfl rfl rfl) ?_;exact x'.o):G:=h ⟨k⟩
theorem Z33 (k:G') (h:Hid G'→G:=by intro x';refine q6d rfl rfl (by decide) (V2.call (qe1 _ _ _ _) rfl) ?_;exact x'.o):G:=h ⟨k⟩
theorem Z34 (k:G') (h:Hid G'→G:=by intro x';refine Zm ?_;refine Zh ?_;exact x'.o):G:=h ⟨k⟩
theorem Z35 (h:G:=by exact qe (Out.mk (by (refine congrArg AV.bool ?_;(simp only [qi4] at *;(simp_all;done)))) Yb)):G:=h
theorem Z36 (h:G:=by exact qe (Out.mk (by (refine congrArg AV.bool ?_;(simp only [qi4] at *;(simp_all;omega)))) Yb)):G:=h
theorem Z37 (k:G') (h:Hid G'→G:=by intro x';refine Z1y ?_;refine Zh ?_;exact x'.o):G:=h ⟨k⟩
theorem Z38 (k:G') (h:Hid G'→G:=by intro x';refine Z37 ?_;refine Z1z ?_;exact x'.o):G:=h ⟨k⟩
theorem Z39 (k:G') (h:Hid G'→G:=by intro x';refine ao1 (by decide) (qh (v:=.bool _) rfl (lk rfl rfl) rfl rfl rfl) ?_;exact x'.o):G:=h ⟨k⟩
theorem Z3a (k:G') (h:Hid G'→G:=by intro x';refine q13u rfl rfl (by decide) ?_;exact x'.o):G:=h ⟨k⟩
theorem Z3b (k:G') (h:Hid G'→G:=by intro x';refine Z3a ?_;refine Z3a ?_;exact x'.o):G:=h ⟨k⟩
theorem Z3c (k:G') (h:Hid G'→G:=by intro x';refine Z3b ?_;refine Z3a ?_;exact x'.o):G:=h ⟨k⟩
theorem Z3d (k:G') (h:Hid G'→G:=by intro x';refine Z3c ?_;refine Z34 ?_;exact x'.o):G:=h ⟨k⟩
theorem Z3e (h:G:=by exact qe (Out.mk (by (refine congrArg AV.bool ?_;(simp only [qpz] at *;(simp_all;done)))) Yb)):G:=h
theorem Z3f (k:G') (h:Hid G'→G:=by intro x';refine q1j rfl rfl (by decide) (qwm rfl rfl) ?_;exact x'.o):G:=h ⟨k⟩
theorem Z3g (k:G') (h:Hid G'→G:=by intro x';refine Zr ?_;refine Zh ?_;exact x'.o):G:=h ⟨k⟩
theorem Z3h (k:G') (h:Hid G'→G:=by intro x';refine Zr ?_;refine Zd ?_;exact x'.o):G:=h ⟨k⟩
theorem Z3i (h:G:=by exact qe (Out.mk (by (refine congrArg AV.bool ?_;(simp only [qpz] at *;(simp_all;omega)))) Yb)):G:=h
theorem Z3j (k:G') (h:Hid G'→G:=by intro x';refine Zh ?_;refine Zh ?_;exact x'.o):G:=h ⟨k⟩
theorem Z3k (h:G:=by exact qe (Out.mk (by (refine congrArg AV.bool ?_;(simp only [q1c] at *;(simp_all;done)))) Yb)):G:=h
theorem Z3l (h:G:=by exact qe (Out.mk (by (refine congrArg AV.bool ?_;(simp only [q1c] at *;(simp_all;omega)))) Yb)):G:=h
theorem Z3m (k:G') (h:Hid G'→G:=by intro x';refine Z3d ?_;refine Z3d ?_;exact x'.o):G:=h ⟨k⟩
theorem Z3n (k:G') (h:Hid G'→G:=by intro x';refine Z3c ?_;refine Zm ?_;exact x'.o):G:=h ⟨k⟩
theorem Z3o (k:G') (h:Hid G'→G:=by intro x';refine Z12 ?_;refine Zh ?_;exact x'.o):G:=h ⟨k⟩
theorem Z3p (k:G') (h:Hid G'→G:=by intro x';refine q1j rfl rfl (by decide) (o_eq rfl rfl) ?_;exact x'.o):G:=h ⟨k⟩
theorem Z3q (k:G') (h:Hid G'→G:=by intro x';refine Z3p ?_;refine Z34 ?_;exact x'.o):G:=h ⟨k⟩
theorem Z3r (k:G') (h:Hid G'→G:=by intro x';refine ao1 (by decide) (qh (v:=.str _) rfl (lk rfl rfl) rfl rfl rfl) ?_;exact x'.o):G:=h ⟨k⟩
theorem Z3s (k:G') (h:Hid G'→G:=by intro x';refine Z32 ?_;refine Z24 ?_;exact x'.o):G:=h ⟨k⟩
theorem Z3t (k:G') (h:Hid G'→G:=by intro x';refine Z4 ?_;refine Z2v ?_;exact x'.o):G:=h ⟨k⟩
theorem Z3u (k:G') (h:Hid G'→G:=by intro x';refine ao1 (by decide) (q1q rfl (lk rfl rfl) rfl rfl rfl) ?_;exact x'.o):G:=h ⟨k⟩
theorem Z3v (k:G') (h:Hid G'→G:=by intro x';refine Z2 ?_;refine Z3u ?_;exact x'.o):G:=h ⟨k⟩
theorem Z3w (k:G') (h:Hid G'→G:=by intro x';refine qu (qbr _ _) rfl (by decide) ?_;exact x'.o):G:=h ⟨k⟩
theorem Z3x (k:G') (h:Hid G'→G:=by intro x';refine Z19 ?_;refine Z9 ?_;exact x'.o):G:=h ⟨k⟩
theorem Z3y (k:G') (h:Hid G'→G:=by intro x';refine qu (qsg _ _ _) rfl (by decide) ?_;exact x'.o):G:=h ⟨k⟩
theorem Z3z (k:G') (h:Hid G'→G:=by intro x';(try dsimp only [Nat.reduceAdd]);exact x'.o):G:=h ⟨k⟩
theorem Z40 (k:G') (h:Hid G'→G:=by intro x';refine Z4 ?_;refine Z3z ?_;exact x'.o):G:=h ⟨k⟩
theorem Z41 (k:G') (h:Hid G'→G:=by intro x';refine ao1 (by decide) (q11 (v:=.nsl) rfl) ?_;exact x'.o):G:=h ⟨k⟩
theorem Z42 (k:G') (h:Hid G'→G:=by intro x';refine Z2 ?_;refine Z41 ?_;exact x'.o):G:=h ⟨k⟩
theorem Z43 (k:G') (h:Hid G'→G:=by intro x';refine Z42 ?_;refine qe ?_;exact x'.o):G:=h ⟨k⟩
theorem Z44 (k:G') (h:Hid G'→G:=by intro x';refine ao1 (by decide) (qi (v:=.pl _) rfl) ?_;exact x'.o):G:=h ⟨k⟩
theorem Z45 (k:G') (h:Hid G'→G:=by intro x';refine Z2 ?_;refine Z44 ?_;exact x'.o):G:=h ⟨k⟩
theorem Z46 (k:G') (h:Hid G'→G:=by intro x';refine Z43 ?_;refine Z45 ?_;exact x'.o):G:=h ⟨k⟩
theorem Z47 (k:G') (h:Hid G'→G:=by intro x';refine qe ?_;(try dsimp only [put]);exact x'.o):G:=h ⟨k⟩
theorem Z48 (k:G') (h:Hid G'→G:=by intro x';refine Z47 ?_;refine Z1 ?_;exact x'.o):G:=h ⟨k⟩
theorem Z49 (k:G') (h:Hid G'→G:=by intro x';refine Z43 ?_;refine Z1d ?_;exact x'.o):G:=h ⟨k⟩
theorem Z4a (k:G') (h:Hid G'→G:=by intro x';refine Z49 ?_;refine q23 2 rfl ?_;exact x'.o):G:=h ⟨k⟩
theorem Z4b (k:G') (h:Hid G'→G:=by intro x';refine ao2 Y1k (qaw) ?_;exact x'.o):G:=h ⟨k⟩
theorem Z4c (k:G') (h:Hid G'→G:=by intro x';refine ao1 (by decide) (q11 (v:=.pl _) rfl) ?_;exact x'.o):G:=h ⟨k⟩
theorem Z4d (k:G') (h:Hid G'→G:=by intro x';refine Z4c ?_;refine Z47 ?_;exact x'.o):G:=h ⟨k⟩
theorem Z4e (h:G:=by refine Z4d ?_;exact Z20):G:=h
theorem Z4f (k:G') (h:Hid G'→G:=by intro x';refine ao2 Y1k (q8z (sz:=13) (v:=.agg _) rfl rfl rfl rfl (by decide) rfl) ?_;exact x'.o):G:=h ⟨k⟩
theorem Z4g (k:G') (h:Hid G'→G:=by intro x';refine Z2 ?_;refine Z4f ?_;exact x'.o):G:=h ⟨k⟩
theorem Z4h (k:G') (h:Hid G'→G:=by intro x';refine ao1 (by decide) (qh (v:=.pl _) rfl (lk rfl rfl) rfl rfl rfl) ?_;exact x'.o):G:=h ⟨k⟩
theorem Z4i (k:G') (h:Hid G'→G:=by intro x';refine Z2y ?_;refine Z4h ?_;exact x'.o):G:=h ⟨k⟩
theorem Z4j (k:G') (h:Hid G'→G:=by intro x';refine Z2 ?_;refine Z4i ?_;exact x'.o):G:=h ⟨k⟩
theorem Z4k (k:G') (h:Hid G'→G:=by intro x';refine ao1 (by decide) (qhc rfl) ?_;exact x'.o):G:=h ⟨k⟩
theorem Z4l (k:G') (h:Hid G'→G:=by intro x';refine qe ?_;refine Z3z ?_;exact x'.o):G:=h ⟨k⟩
theorem Z4m (k:G') (h:Hid G'→G:=by intro x';refine Z4l ?_;refine Z1 ?_;exact x'.o):G:=h ⟨k⟩
theorem Z4n (k:G') (h:Hid G'→G:=by intro x';refine Z8 ?_;refine qe ?_;exact x'.o):G:=h ⟨k⟩
theorem Z4o (k:G') (h:Hid G'→G:=by intro x';refine Z4k ?_;refine Z4n ?_;exact x'.o):G:=h ⟨k⟩
theorem Z4p (k:G') (h:Hid G'→G:=by intro x';refine Z4o ?_;refine Z3z ?_;exact x'.o):G:=h ⟨k⟩
theorem Z4q (k:G') (h:Hid G'→G:=by intro x';refine Z4p ?_;refine Z1d ?_;exact x'.o):G:=h ⟨k⟩
theorem Z4r (k:G') (h:Hid G'→G:=by intro x';refine Z2 ?_;refine Z1f ?_;exact x'.o):G:=h ⟨k⟩
theorem Z4s (k:G') (h:Hid G'→G:=by intro x';refine ao1 (by decide) (q16 rfl rfl hr rfl) ?_;exact x'.o):G:=h ⟨k⟩
theorem Z4t (k:G') (h:Hid G'→G:=by intro x';refine ao1 (by decide) (q29 (v:=.int _ _) rfl hr rfl) ?_;exact x'.o):G:=h ⟨k⟩
theorem Z4u (k:G') (h:Hid G'→G:=by intro x';refine Z4s ?_;refine Z4t ?_;exact x'.o):G:=h ⟨k⟩
theorem Z4v (k:G') (h:Hid G'→G:=by intro x';refine Z2 ?_;refine Z4u ?_;exact x'.o):G:=h ⟨k⟩
theorem Z4w (k:G') (h:Hid G'→G:=by intro x';refine Z3b ?_;refine Z3b ?_;exact x'.o):G:=h ⟨k⟩
theorem Z4x (k:G') (h:Hid G'→G:=by intro x';refine Z4w ?_;refine Zm ?_;exact x'.o):G:=h ⟨k⟩
theorem Z4y (h:G:=by exact qe (Out.mk (by (refine congrArg AV.bool ?_;(rw [hok] at *;simp only [Bool.not_not] at *;(simp_all;done)))) Yb)):G:=h
theorem Z4z (h:G:=by exact qe (Out.mk (by (refine congrArg AV.bool ?_;(rw [hok] at *;simp only [Bool.not_not] at *;(simp_all;omega)))) Yb)):G:=h
theorem Z50 (k:G') (h:Hid G'→G:=by intro x';refine Z2 ?_;refine Z2f ?_;exact x'.o):G:=h ⟨k⟩
theorem Z51 (k:G') (h:Hid G'→G:=by intro x';refine Z8 ?_;refine Z9 ?_;exact x'.o):G:=h ⟨k⟩
theorem Z52 (k:G') (h:Hid G'→G:=by intro x';refine Z50 ?_;refine Z51 ?_;exact x'.o):G:=h ⟨k⟩
theorem Z53 (h:G:=by refine Zf ?_;exact Zb):G:=h
theorem Z54 (k:G') (h:Hid G'→G:=by intro x';refine qu (qh7 _ _) rfl (by decide) ?_;exact x'.o):G:=h ⟨k⟩
theorem Z55 (k:G') (h:Hid G'→G:=by intro x';refine Z32 ?_;refine Z32 ?_;exact x'.o):G:=h ⟨k⟩
theorem Z56 (k:G') (h:Hid G'→G:=by intro x';refine Zq ?_;refine Z1z ?_;exact x'.o):G:=h ⟨k⟩
theorem Z57 (k:G') (h:Hid G'→G:=by intro x';refine q1j rfl rfl (by decide) (qwq rfl rfl rfl) ?_;exact x'.o):G:=h ⟨k⟩
theorem Z58 (k:G') (h:Hid G'→G:=by intro x';refine Z2 ?_;refine Z30 ?_;exact x'.o):G:=h ⟨k⟩
theorem Z59 (k:G') (h:Hid G'→G:=by intro x';refine Z58 ?_;refine Z4l ?_;exact x'.o):G:=h ⟨k⟩
theorem Z5a (k:G') (h:Hid G'→G:=by intro x';refine Z2 ?_;refine Z13 ?_;exact x'.o):G:=h ⟨k⟩
theorem Z5b (k:G') (h:Hid G'→G:=by intro x';refine Z59 ?_;refine Z5a ?_;exact x'.o):G:=h ⟨k⟩
theorem Z5c (h:G:=by exact qe (Out.mk (by (refine congrArg AV.bool ?_;(simp only [q4q,hs] at *;(simp_all;done)))) Yb)):G:=h
theorem Z5d (h:G:=by refine Zn ?_;exact Z5c):G:=h
theorem Z5e (k:G') (h:Hid G'→G:=by intro x';refine Z1x ?_;refine Zd ?_;exact x'.o):G:=h ⟨k⟩
theorem Z5f (h:G:=by exact qe (Out.mk (by (refine congrArg AV.bool ?_;(simp only [q4q,h0,h1,h2,h3,h4,h5] at *;(simp_all;done)))) Yb)):G:=h
theorem Z5g (k:G') (h:Hid G'→G:=by intro x';refine q1j rfl rfl (by decide) (q7q (cs:=[_,_,_,_,_,_,_]) rfl (lk rfl rfl) rfl rfl rfl rfl) ?_;exact x'.o):G:=h ⟨k⟩
theorem Z5h (k:G') (h:Hid G'→G:=by intro x';refine q6d rfl rfl (by decide) (V2.call (qbr _ _) rfl) ?_;exact x'.o):G:=h ⟨k⟩
theorem Z5i (k:G') (h:Hid G'→G:=by intro x';refine q1j rfl rfl (by decide) (q1q rfl (lk rfl rfl) rfl rfl rfl) ?_;exact x'.o):G:=h ⟨k⟩
theorem Z5j (k:G') (h:Hid G'→G:=by intro x';refine q6d rfl rfl (by decide) (V2.call (qh7 _ _) rfl) ?_;exact x'.o):G:=h ⟨k⟩
theorem Z5k (h:G:=by exact qe (Out.mk (by (refine congrArg AV.bool ?_;(simp only [q28,tm] at *;(simp_all;done)))) Yb)):G:=h
theorem Z5l (h:G:=by exact qe (Out.mk (by (refine congrArg AV.bool ?_;(simp only [q28,tm] at *;(simp_all;omega)))) Yb)):G:=h
theorem Z5m (k:G') (h:Hid G'→G:=by intro x';refine Z37 ?_;refine Zt ?_;exact x'.o):G:=h ⟨k⟩
theorem Z5n (k:G') (h:Hid G'→G:=by intro x';refine Zs ?_;refine Zh ?_;exact x'.o):G:=h ⟨k⟩
theorem Z5o (k:G') (h:Hid G'→G:=by intro x';refine Z3 ?_;refine Ze ?_;exact x'.o):G:=h ⟨k⟩
theorem Z5p (k:G') (h:Hid G'→G:=by intro x';refine Z2 ?_;refine Z5o ?_;exact x'.o):G:=h ⟨k⟩
theorem Z5q (k:G') (h:Hid G'→G:=by intro x';refine Z8 ?_;refine Z3o ?_;exact x'.o):G:=h ⟨k⟩
theorem Z5r (k:G') (h:Hid G'→G:=by intro x';refine Zj ?_;refine Z3p ?_;exact x'.o):G:=h ⟨k⟩
theorem Z5s (k:G') (h:Hid G'→G:=by intro x';refine Z5r ?_;refine Zn ?_;exact x'.o):G:=h ⟨k⟩
theorem Z5t (h:G:=by refine Z5s ?_;exact qe (Out.mk (by (refine congrArg AV.bool ?_;grind)) Yb)):G:=h
theorem Z5u (h:G:=by exact q4r hB (q2o rfl (q2o rfl .nil)) rfl rfl):G:=h
theorem Z5v (h:G:=by exact qe (Out.mk (by (refine congrArg AV.bool ?_;(simp_all;omega))) Yb)):G:=h
theorem Z5w (k:G') (h:Hid G'→G:=by intro x';refine ao2 Y1k (q3y (sz:=13) rfl (by decide) rfl) ?_;exact x'.o):G:=h ⟨k⟩
theorem Z5x (k:G') (h:Hid G'→G:=by intro x';(try dsimp only [List.length_nil,put,AV.cells,List.nil_append,List.length_cons,Nat.reduceAdd,List.cons_append]);exact x'.o):G:=h ⟨k⟩
theorem Z5y (k:G') (h:Hid G'→G:=by intro x';refine qu (q3m _ _ Y1y) rfl (by decide) ?_;exact x'.o):G:=h ⟨k⟩
theorem Z5z (k:G') (h:Hid G'→G:=by intro x';refine ao2 Y1w (q1k (sz:=1) (v:=.pl _) (r':=[_,_,_,_,_,_,_,_,_,_,_,_,_]) rfl rfl rfl rfl rfl rfl rfl rfl (Nat.le_of_ble_eq_true rfl) rfl) ?_;exact x'.o):G:=h ⟨k⟩
theorem Z60 (k:G') (h:Hid G'→G:=by intro x';(try dsimp only [put,Nat.reduceAdd,List.set_cons_zero]);exact x'.o):G:=h ⟨k⟩
theorem Z61 (k:G') (h:Hid G'→G:=by intro x';refine qe ?_;refine Z60 ?_;exact x'.o):G:=h ⟨k⟩
theorem Z62 (k:G') (h:Hid G'→G:=by intro x';refine Z3b ?_;refine Z34 ?_;exact x'.o):G:=h ⟨k⟩
theorem Z63 (k:G') (h:Hid G'→G:=by intro x';refine Z4w ?_;refine Z3n ?_;exact x'.o):G:=h ⟨k⟩
theorem Z64 (h:G:=by exact qe (Out.mk (by (refine congrArg AV.bool ?_;(simp only [qmz,tm] at *;(simp_all;done)))) Yb)):G:=h
theorem Z65 (k:G') (h:Hid G'→G:=by intro x';refine Zj ?_;refine Z3f ?_;exact x'.o):G:=h ⟨k⟩
theorem Z66 (k:G') (h:Hid G'→G:=by intro x';refine Z1v ?_;refine Z3g ?_;exact x'.o):G:=h ⟨k⟩
theorem Z67 (k:G') (h:Hid G'→G:=by intro x';refine ao2 Y1w (q2q (sz:=13) rfl rfl rfl rfl rfl rfl rfl rfl (Nat.le_of_ble_eq_true rfl)) ?_;exact x'.o):G:=h ⟨k⟩
theorem Z68 (k:G') (h:Hid G'→G:=by intro x';refine Z67 ?_;refine Z4 ?_;exact x'.o):G:=h ⟨k⟩
theorem Z69 (k:G') (h:Hid G'→G:=by intro x';(try dsimp only [put,List.set_cons_zero,List.set_cons_succ]);exact x'.o):G:=h ⟨k⟩
theorem Z6a (k:G') (h:Hid G'→G:=by intro x';refine Z69 ?_;refine Z1 ?_;exact x'.o):G:=h ⟨k⟩
theorem Z6b (h:G:=by exact q4r hB (q6o rfl (lk rfl rfl) rfl rfl rfl (q2o rfl .nil)) rfl rfl):G:=h
theorem Z6c (k:G') (h:Hid G'→G:=by intro x';refine Z58 ?_;refine Z8 ?_;exact x'.o):G:=h ⟨k⟩
theorem Z6d (k:G') (h:Hid G'→G:=by intro x';refine ao2 Y1k (V2.call (c4 _) rfl) ?_;exact x'.o):G:=h ⟨k⟩
theorem Z6e (k:G') (h:Hid G'→G:=by intro x';refine ao1 (by decide) (qi (v:=.tup _) rfl) ?_;exact x'.o):G:=h ⟨k⟩
theorem Z6f (k:G') (h:Hid G'→G:=by intro x';refine ao1 (by decide) (q2f (v:=.bool _) rfl rfl) ?_;exact x'.o):G:=h ⟨k⟩
theorem Z6g (k:G') (h:Hid G'→G:=by intro x';refine Z14 ?_;refine Z6f ?_;exact x'.o):G:=h ⟨k⟩
theorem Z6h (k:G') (h:Hid G'→G:=by intro x';refine Z6e ?_;refine Z6g ?_;exact x'.o):G:=h ⟨k⟩
theorem Z6i (k:G') (h:Hid G'→G:=by intro x';refine Z3 ?_;refine Z1n ?_;exact x'.o):G:=h ⟨k⟩
theorem Z6j (k:G') (h:Hid G'→G:=by intro x';refine Z6h ?_;refine Z6i ?_;exact x'.o):G:=h ⟨k⟩
theorem Z6k (k:G') (h:Hid G'→G:=by intro x';(try dsimp only [Nat.reduceAdd,put]);exact x'.o):G:=h ⟨k⟩
theorem Z6l (k:G') (h:Hid G'→G:=by intro x';refine Z2n ?_;refine Z3x ?_;exact x'.o):G:=h ⟨k⟩
theorem Z6m (k:G') (h:Hid G'→G:=by intro x';refine ao2 Y1w (q1k (sz:=1) (v:=.int _ _) (r':=[_,_,_,_,_,_,_,_,_,_,_,_,_]) rfl rfl rfl rfl rfl rfl rfl rfl (Nat.le_of_ble_eq_true rfl) rfl) ?_;exact x'.o):G:=h ⟨k⟩
theorem Z6n (k:G') (h:Hid G'→G:=by intro x';refine q18 ?_;refine Z8 ?_;exact x'.o):G:=h ⟨k⟩
theorem Z6o (k:G') (h:Hid G'→G:=by intro x';refine qu (qof _ _) rfl (by decide) ?_;exact x'.o):G:=h ⟨k⟩
theorem Z6p (h:G:=by refine Z1 ?_;exact Z6b):G:=h
theorem Z6q (h:G:=by refine Z69 ?_;exact Z6p):G:=h
theorem Z6r (k:G') (h:Hid G'→G:=by intro x';refine Z45 ?_;refine Z4k ?_;exact x'.o):G:=h ⟨k⟩
theorem Z6s (k:G') (h:Hid G'→G:=by intro x';refine Z1o ?_;refine Z6r ?_;exact x'.o):G:=h ⟨k⟩
theorem Z6t (k:G') (h:Hid G'→G:=by intro x';refine Z44 ?_;refine Z4k ?_;exact x'.o):G:=h ⟨k⟩
theorem Z6u (k:G') (h:Hid G'→G:=by intro x';refine Z2l ?_;refine Z9 ?_;exact x'.o):G:=h ⟨k⟩
theorem Z6v (k:G') (h:Hid G'→G:=by intro x';refine aq0 0 rfl Y1q (by decide) (fun _=>qi (v:=.pl _) rfl) ?_;exact x'.o):G:=h ⟨k⟩
theorem Z6w (k:G') (h:Hid G'→G:=by intro x';refine aqp 2 rfl Y1q (by decide) (fun G=>q16 rfl rfl hr rfl) ?_;exact x'.o):G:=h ⟨k⟩
theorem Z6x (k:G') (h:Hid G'→G:=by intro x';refine aqp 3 rfl Y1q (by decide) (fun G=>q29 (v:=.int _ _) rfl hr rfl) ?_;exact x'.o):G:=h ⟨k⟩
theorem Z6y (k:G') (h:Hid G'→G:=by intro x';refine aq0 4 rfl Y1q (by decide) (fun _=>qi (v:=.pl _) rfl) ?_;exact x'.o):G:=h ⟨k⟩
theorem Z6z (k:G') (h:Hid G'→G:=by intro x';refine aqp 6 rfl Y1q (by decide) (fun G=>q16 rfl rfl hr1 rfl) ?_;exact x'.o):G:=h ⟨k⟩
theorem Z70 (k:G') (h:Hid G'→G:=by intro x';refine aqp 7 rfl Y1q (by decide) (fun G=>q29 (v:=.int _ _) rfl hr1 rfl) ?_;exact x'.o):G:=h ⟨k⟩
theorem Z71 (k:G') (h:Hid G'→G:=by intro x';refine aq0 8 rfl Y1q (by decide) (fun _=>qyz rfl rfl) ?_;exact x'.o):G:=h ⟨k⟩
theorem Z72 (k:G') (h:Hid G'→G:=by intro x';refine ao2 Y1k (q3y (sz:=4) rfl (by decide) rfl) ?_;exact x'.o):G:=h ⟨k⟩
theorem Z73 (k:G') (h:Hid G'→G:=by intro x';(try dsimp only [List.length_nil,put,List.nil_append]);exact x'.o):G:=h ⟨k⟩
theorem Z74 (k:G') (h:Hid G'→G:=by intro x';(try dsimp only [put,List.length_cons,List.length_nil,Nat.reduceAdd,List.cons_append,List.nil_append]);exact x'.o):G:=h ⟨k⟩
theorem Z75 (k:G') (h:Hid G'→G:=by intro x';refine Z4o ?_;refine Z1d ?_;exact x'.o):G:=h ⟨k⟩
theorem Z76 (k:G') (h:Hid G'→G:=by intro x';refine Z45 ?_;refine Z75 ?_;exact x'.o):G:=h ⟨k⟩
theorem Z77 (k:G') (h:Hid G'→G:=by intro x';refine Z5 ?_;refine Z76 ?_;exact x'.o):G:=h ⟨k⟩
theorem Z78 (k:G') (h:Hid G'→G:=by intro x';refine ao2 Y1w (q2q (sz:=4) rfl rfl rfl rfl rfl rfl (q6r _) rfl (Nat.le_of_ble_eq_true rfl)) ?_;exact x'.o):G:=h ⟨k⟩
theorem Z79 (k:G') (h:Hid G'→G:=by intro x';refine Z78 ?_;refine Z1n ?_;exact x'.o):G:=h ⟨k⟩
theorem Z7a (k:G') (h:Hid G'→G:=by intro x';(try dsimp only [put,List.set_cons_zero]);exact x'.o):G:=h ⟨k⟩
theorem Z7b (h:G:=by exact q4r hB (q6o rfl (lk rfl rfl) rfl rfl (q6r _) (q2o rfl .nil)) rfl (by simp [AV.bel,AV.bels,qiz])):G:=h
theorem Z7c (k:G') (h:Hid G'→G:=by intro x';refine aq0 0 rfl Y1q (by decide) (fun _=>qi (v:=.int _ _) rfl) ?_;exact x'.o):G:=h ⟨k⟩
theorem Z7d (k:G') (h:Hid G'→G:=by intro x';refine q1y Y1q Yw ?_;exact x'.o):G:=h ⟨k⟩
theorem Z7e (k:G') (h:Hid G'→G:=by intro x';refine qu (q12h _ Y1y _) rfl (by decide) ?_;exact x'.o):G:=h ⟨k⟩
theorem Z7f (k:G') (h:Hid G'→G:=by intro x';refine ao1 (by decide) (q2f (v:=.agg _) rfl rfl) ?_;exact x'.o):G:=h ⟨k⟩
theorem Z7g (k:G') (h:Hid G'→G:=by intro x';refine Z6e ?_;refine Z7f ?_;exact x'.o):G:=h ⟨k⟩
theorem Z7h (k:G') (h:Hid G'→G:=by intro x';refine Z7g ?_;refine Z6f ?_;exact x'.o):G:=h ⟨k⟩
theorem Z7i (k:G') (h:Hid G'→G:=by intro x';(try dsimp only [List.length_nil,put,List.nil_append,List.set_cons_zero]);exact x'.o):G:=h ⟨k⟩
theorem Z7j (k:G') (h:Hid G'→G:=by intro x';(try dsimp only [List.length_cons,List.length_nil,Nat.reduceAdd,put,List.cons_append,List.nil_append,List.set_cons_zero,List.set_cons_succ]);exact x'.o):G:=h ⟨k⟩
theorem Z7k (k:G') (h:Hid G'→G:=by intro x';refine aq0 2 rfl Y1q (by decide) (fun _=>qi (v:=.bool _) rfl) ?_;exact x'.o):G:=h ⟨k⟩
theorem Z7l (k:G') (h:Hid G'→G:=by intro x';refine aq0 3 rfl Y1q (by decide) (fun _=>qi (v:=.bool _) rfl) ?_;exact x'.o):G:=h ⟨k⟩
theorem Z7m (k:G') (h:Hid G'→G:=by intro x';refine aq0 5 rfl Y1q (by decide) (fun _=>q1n (v:=.bool _) rfl rfl) ?_;exact x'.o):G:=h ⟨k⟩
theorem Z7n (k:G') (h:Hid G'→G:=by intro x';refine aqs 6 rfl Y1q Yx Y1w (q2q (sz:=4) rfl rfl rfl rfl rfl rfl (q6r _) rfl (Nat.le_of_ble_eq_true rfl)) ?_;exact x'.o):G:=h ⟨k⟩
theorem Z7o (k:G') (h:Hid G'→G:=by intro x';refine aqs 7 rfl Y1q Yx Y1w (q2q (sz:=4) rfl rfl rfl rfl rfl rfl (q6r _) rfl (Nat.le_of_ble_eq_true rfl)) ?_;exact x'.o):G:=h ⟨k⟩
theorem Z7p (k:G') (h:Hid G'→G:=by intro x';refine aq0 8 rfl Y1q (by decide) (fun _=>q11 (v:=.bool _) rfl) ?_;exact x'.o):G:=h ⟨k⟩
theorem Z7q (k:G') (h:Hid G'→G:=by intro x';refine q1y Y1q Yx ?_;exact x'.o):G:=h ⟨k⟩
theorem Z7r (h:G:=by exact q4r hB (q6o rfl (lk rfl rfl) rfl rfl (q6r _) (q6o rfl (lk rfl rfl) rfl rfl (q6r _) (q2o rfl .nil))) rfl (hbel _)):G:=h
theorem Z7s (k:G') (h:Hid G'→G:=by intro x';refine aq0 5 rfl Y1q (by decide) (fun _=>q1m (v:=.bool _) rfl rfl) ?_;exact x'.o):G:=h ⟨k⟩
theorem Z7t (k:G') (h:Hid G'→G:=by intro x';refine Z45 ?_;refine Z44 ?_;exact x'.o):G:=h ⟨k⟩
theorem Z7u (k:G') (h:Hid G'→G:=by intro x';refine qu (qy3 _ _ Y1y Y1y _) rfl (by decide) ?_;exact x'.o):G:=h ⟨k⟩
theorem Z7v (k:G') (h:Hid G'→G:=by intro x';(try dsimp only [List.length_nil,put,List.nil_append,List.length_cons,Nat.reduceAdd,List.cons_append,List.set_cons_zero,List.set_cons_succ]);exact x'.o):G:=h ⟨k⟩
theorem Z7w (k:G') (h:Hid G'→G:=by intro x';refine q3i mixed none 2 ?_;exact x'.o):G:=h ⟨k⟩
theorem Z7x (k:G') (h:Hid G'→G:=by intro x';(try dsimp only [List.take_succ_cons,List.take_zero]);exact x'.o):G:=h ⟨k⟩
theorem Z7y (k:G') (h:Hid G'→G:=by intro x';refine aq0 0 rfl Y1q (by decide) (fun _=>qi (v:=.bool _) rfl) ?_;exact x'.o):G:=h ⟨k⟩
theorem Z7z (k:G') (h:Hid G'→G:=by intro x';refine aq0 1 rfl Y1q (by decide) (fun _=>qi (v:=.bool _) rfl) ?_;exact x'.o):G:=h ⟨k⟩
theorem Z80 (k:G') (h:Hid G'→G:=by intro x';refine q2l (g:=20) 2 rfl Y1q (by decide) rfl rfl (fun _=>qi (v:=.int _ _) rfl) ?_;exact x'.o):G:=h ⟨k⟩
theorem Z81 (k:G') (h:Hid G'→G:=by intro x';refine q31 (g:=20) 3 rfl Y1q (by decide) rfl rfl (fun G=>q4k rfl (lk rfl rfl) rfl rfl hk4) ?_;exact x'.o):G:=h ⟨k⟩
theorem Z82 (k:G') (h:Hid G'→G:=by intro x';refine q31 (g:=20) 4 rfl Y1q (by decide) rfl rfl (fun G=>qh (v:=.int .u64 _) rfl (lk rfl rfl) rfl rfl hx) ?_;exact x'.o):G:=h ⟨k⟩
theorem Z83 (k:G') (h:Hid G'→G:=by intro x';refine q2l (g:=20) 5 rfl Y1q (by decide) rfl rfl (fun _=>qi (v:=.int _ _) rfl) ?_;exact x'.o):G:=h ⟨k⟩
theorem Z84 (k:G') (h:Hid G'→G:=by intro x';refine q31 (g:=20) 6 rfl Y1q (by decide) rfl rfl (fun G=>q4k rfl (lk rfl rfl) rfl rfl hk4) ?_;exact x'.o):G:=h ⟨k⟩
theorem Z85 (k:G') (h:Hid G'→G:=by intro x';refine q31 (g:=20) 7 rfl Y1q (by decide) rfl rfl (fun G=>qh (v:=.int .u64 _) rfl (lk rfl rfl) rfl rfl hy) ?_;exact x'.o):G:=h ⟨k⟩
theorem Z86 (k:G') (h:Hid G'→G:=by intro x';refine q2l (g:=20) 9 rfl Y1q (by decide) rfl rfl (fun _=>o_eq rfl rfl) ?_;exact x'.o):G:=h ⟨k⟩
theorem Z87 (k:G') (h:Hid G'→G:=by intro x';refine aq0 10 rfl Y1q (by decide) (fun _=>q1n (v:=.bool _) rfl rfl) ?_;exact x'.o):G:=h ⟨k⟩
theorem Z88 (k:G') (h:Hid G'→G:=by intro x';refine aq0 11 rfl Y1q (by decide) (fun _=>q11 (v:=.bool _) rfl) ?_;exact x'.o):G:=h ⟨k⟩
theorem Z89 (k:G') (h:Hid G'→G:=by intro x';refine q15 (g:=20) 2 rfl Y1q (by decide) rfl rfl rfl ?_;exact x'.o):G:=h ⟨k⟩
theorem Z8a (k:G') (h:Hid G'→G:=by intro x';refine q15 (g:=20) 3 rfl Y1q (by decide) rfl rfl rfl ?_;exact x'.o):G:=h ⟨k⟩
theorem Z8b (k:G') (h:Hid G'→G:=by intro x';refine q15 (g:=20) 4 rfl Y1q (by decide) rfl rfl rfl ?_;exact x'.o):G:=h ⟨k⟩
theorem Z8c (k:G') (h:Hid G'→G:=by intro x';refine q15 (g:=20) 5 rfl Y1q (by decide) rfl rfl rfl ?_;exact x'.o):G:=h ⟨k⟩
theorem Z8d (k:G') (h:Hid G'→G:=by intro x';refine q15 (g:=20) 6 rfl Y1q (by decide) rfl rfl rfl ?_;exact x'.o):G:=h ⟨k⟩
theorem Z8e (k:G') (h:Hid G'→G:=by intro x';refine q15 (g:=20) 7 rfl Y1q (by decide) rfl rfl rfl ?_;exact x'.o):G:=h ⟨k⟩
theorem Z8f (k:G') (h:Hid G'→G:=by intro x';refine q15 (g:=20) 8 rfl Y1q (by decide) rfl rfl rfl ?_;exact x'.o):G:=h ⟨k⟩
theorem Z8g (k:G') (h:Hid G'→G:=by intro x';refine q15 (g:=20) 9 rfl Y1q (by decide) rfl rfl rfl ?_;exact x'.o):G:=h ⟨k⟩
theorem Z8h (k:G') (h:Hid G'→G:=by intro x';refine aq0 10 rfl Y1q (by decide) (fun _=>q1m (v:=.bool _) rfl rfl) ?_;exact x'.o):G:=h ⟨k⟩
theorem Z8i (k:G') (h:Hid G'→G:=by intro x';refine Z41 ?_;refine qe ?_;exact x'.o):G:=h ⟨k⟩
theorem Z8j (k:G') (h:Hid G'→G:=by intro x';refine ao1 (by decide) (q1q rfl (lk rfl rfl) rfl rfl (q6r _)) ?_;exact x'.o):G:=h ⟨k⟩
theorem Z8k (k:G') (h:Hid G'→G:=by intro x';(try dsimp only [List.cons_append,List.nil_append]);exact x'.o):G:=h ⟨k⟩
theorem Z8l (k:G') (h:Hid G'→G:=by intro x';refine Z4 ?_;refine Z1d ?_;exact x'.o):G:=h ⟨k⟩
theorem Z8m (k:G') (h:Hid G'→G:=by intro x';refine Z11 ?_;refine Z6u ?_;exact x'.o):G:=h ⟨k⟩
theorem Z8n (k:G') (h:Hid G'→G:=by intro x';refine ao1 (by decide) (qi (v:=.sl _ _ _ _ _) rfl) ?_;exact x'.o):G:=h ⟨k⟩
theorem Z8o (k:G') (h:Hid G'→G:=by intro x';refine Z2 ?_;refine Z8n ?_;exact x'.o):G:=h ⟨k⟩
theorem Z8p (k:G') (h:Hid G'→G:=by intro x';refine Z8o ?_;refine Z8 ?_;exact x'.o):G:=h ⟨k⟩
theorem Z8q (k:G') (h:Hid G'→G:=by intro x';refine ao2 Y1k (q2c (sz:=1) (v:=.int _ _) rfl (by decide) (by decide) rfl rfl rfl rfl rfl) ?_;exact x'.o):G:=h ⟨k⟩
theorem Z8r (k:G') (h:Hid G'→G:=by intro x';refine ao1 (by decide) (q11 (v:=.sl _ _ _ _ _) rfl) ?_;exact x'.o):G:=h ⟨k⟩
theorem Z8s (k:G') (h:Hid G'→G:=by intro x';refine Z8r ?_;refine qe ?_;exact x'.o):G:=h ⟨k⟩
theorem Z8t (k:G') (h:Hid G'→G:=by intro x';refine ao2 Y1k (q47 rfl rfl rfl rfl rfl (qv8 rfl rfl rfl rfl rfl rfl) rfl Y1v (by simp;done) Y1u Y1u) ?_;refine Z8s ?_;exact x'.o):G:=h ⟨k⟩
theorem Z8u (k:G') (h:Hid G'→G:=by intro x';refine Z8t ?_;(try dsimp only [AV.cells,List.length_cons,List.length_nil,Nat.reduceAdd,put,List.cons_append,List.nil_append,List.set_cons_succ,List.set_cons_zero]);exact x'.o):G:=h ⟨k⟩
theorem Z8v (k:G') (h:Hid G'→G:=by intro x';refine Z8s ?_;refine Z1d ?_;exact x'.o):G:=h ⟨k⟩
theorem Z8w (k:G') (h:Hid G'→G:=by intro x';refine Z8o ?_;refine Z8v ?_;exact x'.o):G:=h ⟨k⟩
theorem Z8x (h:G:=by refine q2z ?_;exact Zb):G:=h
theorem Z8y (k:G') (h:Hid G'→G:=by intro x';refine Z46 ?_;refine Z44 ?_;exact x'.o):G:=h ⟨k⟩
theorem Z8z (k:G') (h:Hid G'→G:=by intro x';refine aq0 2 rfl Y1q (by decide) (fun _=>qi (v:=.int _ _) rfl) ?_;exact x'.o):G:=h ⟨k⟩
theorem Z90 (k:G') (h:Hid G'→G:=by intro x';refine Z45 ?_;refine Z8 ?_;exact x'.o):G:=h ⟨k⟩
theorem Z91 (k:G') (h:Hid G'→G:=by intro x';refine aq0 12 rfl Y1q (by decide) (fun _=>qi (v:=.bool _) rfl) ?_;exact x'.o):G:=h ⟨k⟩
theorem Z92 (k:G') (h:Hid G'→G:=by intro x';refine q15 (g:=22) 13 rfl Y1q (by decide) rfl rfl rfl ?_;exact x'.o):G:=h ⟨k⟩
theorem Z93 (k:G') (h:Hid G'→G:=by intro x';refine q15 (g:=22) 14 rfl Y1q (by decide) rfl rfl rfl ?_;exact x'.o):G:=h ⟨k⟩
theorem Z94 (k:G') (h:Hid G'→G:=by intro x';refine q15 (g:=22) 15 rfl Y1q (by decide) rfl rfl rfl ?_;exact x'.o):G:=h ⟨k⟩
theorem Z95 (k:G') (h:Hid G'→G:=by intro x';refine q50 (g:=25) 16 rfl Y1q (by decide) rfl rfl ?_;exact x'.o):G:=h ⟨k⟩
theorem Z96 (k:G') (h:Hid G'→G:=by intro x';refine q50 (g:=25) 17 rfl Y1q (by decide) rfl rfl ?_;exact x'.o):G:=h ⟨k⟩
theorem Z97 (k:G') (h:Hid G'→G:=by intro x';refine q50 (g:=25) 18 rfl Y1q (by decide) rfl rfl ?_;exact x'.o):G:=h ⟨k⟩
theorem Z98 (k:G') (h:Hid G'→G:=by intro x';refine q50 (g:=25) 19 rfl Y1q (by decide) rfl rfl ?_;exact x'.o):G:=h ⟨k⟩
theorem Z99 (k:G') (h:Hid G'→G:=by intro x';refine q50 (g:=25) 20 rfl Y1q (by decide) rfl rfl ?_;exact x'.o):G:=h ⟨k⟩
theorem Z9a (k:G') (h:Hid G'→G:=by intro x';refine q50 (g:=25) 21 rfl Y1q (by decide) rfl rfl ?_;exact x'.o):G:=h ⟨k⟩
theorem Z9b (k:G') (h:Hid G'→G:=by intro x';refine q50 (g:=25) 22 rfl Y1q (by decide) rfl rfl ?_;exact x'.o):G:=h ⟨k⟩
theorem Z9c (k:G') (h:Hid G'→G:=by intro x';refine q50 (g:=25) 23 rfl Y1q (by decide) rfl rfl ?_;exact x'.o):G:=h ⟨k⟩
theorem Z9d (k:G') (h:Hid G'→G:=by intro x';refine q50 (g:=25) 24 rfl Y1q (by decide) rfl rfl ?_;exact x'.o):G:=h ⟨k⟩
theorem Z9e (k:G') (h:Hid G'→G:=by intro x';refine q50 (g:=25) 25 rfl Y1q (by decide) rfl rfl ?_;exact x'.o):G:=h ⟨k⟩
theorem Z9f (k:G') (h:Hid G'→G:=by intro x';refine q15 (g:=22) 26 rfl Y1q (by decide) rfl rfl rfl ?_;exact x'.o):G:=h ⟨k⟩
theorem Z9g (k:G') (h:Hid G'→G:=by intro x';refine aq0 27 rfl Y1q (by decide) (fun _=>q1n (v:=.bool _) rfl rfl) ?_;exact x'.o):G:=h ⟨k⟩
theorem Z9h (h:G:=by exact q1y Y1q Y1b (Out.mk (by (refine congrArg AV.bool ?_;(rw [hnd];clear hno hnd hr hr1 hm hx hl hlt hk hc hB;refine Bool.eq_iff_iff.mpr ?_;simp only [Bool.and_eq_true,Bool.or_eq_true,Bool.not_eq_true',decide_eq_true_eq,decide_eq_false_iff_not,beq_iff_eq,bne_iff_ne,Bool.false_eq_true,Bool.and_eq_false_iff,Bool.or_eq_false_iff,false_iff,true_iff,iff_true,iff_false,Bool.not_true,Bool.not_false,not_true,not_false_iff] at *;omega))) Yb)):G:=h
theorem Z9i (k:G') (h:Hid G'→G:=by intro x';refine aq0 27 rfl Y1q (by decide) (fun _=>q1m (v:=.bool _) rfl rfl) ?_;exact x'.o):G:=h ⟨k⟩
theorem Z9j (k:G') (h:Hid G'→G:=by intro x';refine q15 (g:=25) 16 rfl Y1q (by decide) rfl rfl rfl ?_;exact x'.o):G:=h ⟨k⟩
theorem Z9k (k:G') (h:Hid G'→G:=by intro x';refine q15 (g:=25) 18 rfl Y1q (by decide) rfl rfl rfl ?_;exact x'.o):G:=h ⟨k⟩
theorem Z9l (k:G') (h:Hid G'→G:=by intro x';refine Z12 ?_;refine Z1n ?_;exact x'.o):G:=h ⟨k⟩
theorem Z9m (k:G') (h:Hid G'→G:=by intro x';(repeat (first | refine q7z ?_ | refine q7y ?_ | refine q5u ?_ | refine q9t ?_ | refine q7s ?_ | refine qaa ?_ | refine q7v rfl ?_ | refine q7w ?_ | refine q9y ?_ | refine qaj ?_ | refine q86 ?_ | refine q9x ?_ | refine q7k ?_ | refine q2z ?_));exact x'.o):G:=h ⟨k⟩
theorem Z9n (k:G') (h:Hid G'→G:=by intro x';refine q18 ?_;refine Z9l ?_;exact x'.o):G:=h ⟨k⟩
theorem Z9o (h:G:=by exact qe (Out.mk (by (refine congrArg AV.bool ?_;(clear hr;(simp_all;omega)))) Yb)):G:=h
theorem Z9p (k:G') (h:Hid G'→G:=by intro x';refine q1j rfl rfl (by decide) (qi (v:=.pl _) rfl) ?_;exact x'.o):G:=h ⟨k⟩
theorem Z9q (k:G') (h:Hid G'→G:=by intro x';refine q1j rfl rfl (by decide) (qhc rfl) ?_;exact x'.o):G:=h ⟨k⟩
theorem Z9r (k:G') (h:Hid G'→G:=by intro x';refine Z9p ?_;refine Z9q ?_;exact x'.o):G:=h ⟨k⟩
theorem Z9s (k:G') (h:Hid G'→G:=by intro x';refine q1j rfl rfl (by decide) (q94 rfl hr rfl) ?_;exact x'.o):G:=h ⟨k⟩
theorem Z9t (k:G') (h:Hid G'→G:=by intro x';refine Z4s ?_;refine ao1 (by decide) (q94 rfl hr rfl) ?_;exact x'.o):G:=h ⟨k⟩
theorem Z9u (k:G') (h:Hid G'→G:=by intro x';refine Z11 ?_;refine Z9t ?_;exact x'.o):G:=h ⟨k⟩
theorem Z9v (k:G') (h:Hid G'→G:=by intro x';refine ao2 Y1k (q3y (sz:=3) rfl (by decide) rfl) ?_;exact x'.o):G:=h ⟨k⟩
theorem Z9w (k:G') (h:Hid G'→G:=by intro x';refine ao2 Y1w (q2q (sz:=3) rfl rfl rfl rfl rfl rfl rfl rfl (Nat.le_of_ble_eq_true rfl)) ?_;exact x'.o):G:=h ⟨k⟩
theorem Z9x (k:G') (h:Hid G'→G:=by intro x';(try dsimp only [put,List.length_nil,List.nil_append,List.set_cons_zero]);exact x'.o):G:=h ⟨k⟩
theorem Z9y (k:G') (h:Hid G'→G:=by intro x';refine qe ?_;refine Z9x ?_;exact x'.o):G:=h ⟨k⟩
theorem Z9z (k:G') (h:Hid G'→G:=by intro x';refine q3i mixed none 1 ?_;exact x'.o):G:=h ⟨k⟩
theorem Za0 (k:G') (h:Hid G'→G:=by intro x';refine Z9z ?_;refine Z7x ?_;exact x'.o):G:=h ⟨k⟩
theorem Za1 (k:G') (h:Hid G'→G:=by intro x';refine aqp 0 rfl Y1q (by decide) (fun G=>qd rfl (lk rfl rfl) rfl (by decide)) ?_;exact x'.o):G:=h ⟨k⟩
theorem Za2 (k:G') (h:Hid G'→G:=by intro x';refine aqp 1 rfl Y1q (by decide) (fun G=>qh (v:=.int _ _) rfl (lk rfl rfl) rfl rfl rfl) ?_;exact x'.o):G:=h ⟨k⟩
theorem Za3 (k:G') (h:Hid G'→G:=by intro x';refine aq0 2 rfl Y1q (by decide) (fun _=>qwh rfl rfl) ?_;exact x'.o):G:=h ⟨k⟩
theorem Za4 (k:G') (h:Hid G'→G:=by intro x';refine q15 (g:=31) 4 rfl Y1q (by decide) rfl rfl rfl ?_;exact x'.o):G:=h ⟨k⟩
theorem Za5 (k:G') (h:Hid G'→G:=by intro x';refine q15 (g:=31) 5 rfl Y1q (by decide) rfl rfl rfl ?_;exact x'.o):G:=h ⟨k⟩
theorem Za6 (k:G') (h:Hid G'→G:=by intro x';refine q15 (g:=31) 6 rfl Y1q (by decide) rfl rfl rfl ?_;exact x'.o):G:=h ⟨k⟩
theorem Za7 (k:G') (h:Hid G'→G:=by intro x';refine q15 (g:=31) 7 rfl Y1q (by decide) rfl rfl rfl ?_;exact x'.o):G:=h ⟨k⟩
theorem Za8 (k:G') (h:Hid G'→G:=by intro x';refine aq0 8 rfl Y1q (by decide) (fun _=>q1n (v:=.bool _) rfl rfl) ?_;exact x'.o):G:=h ⟨k⟩
theorem Za9 (k:G') (h:Hid G'→G:=by intro x';refine aq0 9 rfl Y1q (by decide) (fun _=>qi (v:=.bool _) rfl) ?_;exact x'.o):G:=h ⟨k⟩
theorem Zaa (k:G') (h:Hid G'→G:=by intro x';refine q15 (g:=37) 10 rfl Y1q (by decide) rfl rfl rfl ?_;exact x'.o):G:=h ⟨k⟩
theorem Zab (k:G') (h:Hid G'→G:=by intro x';refine q15 (g:=37) 11 rfl Y1q (by decide) rfl rfl rfl ?_;exact x'.o):G:=h ⟨k⟩
theorem Zac (k:G') (h:Hid G'→G:=by intro x';refine q15 (g:=37) 12 rfl Y1q (by decide) rfl rfl rfl ?_;exact x'.o):G:=h ⟨k⟩
theorem Zad (k:G') (h:Hid G'→G:=by intro x';refine q15 (g:=37) 13 rfl Y1q (by decide) rfl rfl rfl ?_;exact x'.o):G:=h ⟨k⟩
theorem Zae (k:G') (h:Hid G'→G:=by intro x';refine q15 (g:=37) 14 rfl Y1q (by decide) rfl rfl rfl ?_;exact x'.o):G:=h ⟨k⟩
theorem Zaf (k:G') (h:Hid G'→G:=by intro x';refine q15 (g:=37) 15 rfl Y1q (by decide) rfl rfl rfl ?_;exact x'.o):G:=h ⟨k⟩
theorem Zag (k:G') (h:Hid G'→G:=by intro x';refine q15 (g:=37) 16 rfl Y1q (by decide) rfl rfl rfl ?_;exact x'.o):G:=h ⟨k⟩
theorem Zah (k:G') (h:Hid G'→G:=by intro x';refine q15 (g:=37) 17 rfl Y1q (by decide) rfl rfl rfl ?_;exact x'.o):G:=h ⟨k⟩
theorem Zai (k:G') (h:Hid G'→G:=by intro x';refine q15 (g:=37) 18 rfl Y1q (by decide) rfl rfl rfl ?_;exact x'.o):G:=h ⟨k⟩
theorem Zaj (k:G') (h:Hid G'→G:=by intro x';refine q15 (g:=37) 19 rfl Y1q (by decide) rfl rfl rfl ?_;exact x'.o):G:=h ⟨k⟩
theorem Zak (k:G') (h:Hid G'→G:=by intro x';refine aq0 20 rfl Y1q (by decide) (fun _=>q1n (v:=.bool _) rfl rfl) ?_;exact x'.o):G:=h ⟨k⟩
theorem Zal (k:G') (h:Hid G'→G:=by intro x';refine aq0 21 rfl Y1q (by decide) (fun _=>qi (v:=.bool _) rfl) ?_;exact x'.o):G:=h ⟨k⟩
theorem Zam (k:G') (h:Hid G'→G:=by intro x';refine q15 (g:=49) 22 rfl Y1q (by decide) rfl rfl rfl ?_;exact x'.o):G:=h ⟨k⟩
theorem Zan (k:G') (h:Hid G'→G:=by intro x';refine q15 (g:=49) 23 rfl Y1q (by decide) rfl rfl rfl ?_;exact x'.o):G:=h ⟨k⟩
theorem Zao (k:G') (h:Hid G'→G:=by intro x';refine q15 (g:=49) 24 rfl Y1q (by decide) rfl rfl rfl ?_;exact x'.o):G:=h ⟨k⟩
theorem Zap (k:G') (h:Hid G'→G:=by intro x';refine q15 (g:=49) 25 rfl Y1q (by decide) rfl rfl rfl ?_;exact x'.o):G:=h ⟨k⟩
theorem Zaq (k:G') (h:Hid G'→G:=by intro x';refine aq0 26 rfl Y1q (by decide) (fun _=>q1n (v:=.bool _) rfl rfl) ?_;exact x'.o):G:=h ⟨k⟩
theorem Zar (k:G') (h:Hid G'→G:=by intro x';refine aq0 27 rfl Y1q (by decide) (fun _=>qi (v:=.bool _) rfl) ?_;exact x'.o):G:=h ⟨k⟩
theorem Zas (k:G') (h:Hid G'→G:=by intro x';refine q15 (g:=55) 28 rfl Y1q (by decide) rfl rfl rfl ?_;refine q15 (g:=55) 29 rfl Y1q (by decide) rfl rfl rfl ?_;exact x'.o):G:=h ⟨k⟩
theorem Zat (k:G') (h:Hid G'→G:=by intro x';refine Zas ?_;refine q15 (g:=55) 30 rfl Y1q (by decide) rfl rfl rfl ?_;exact x'.o):G:=h ⟨k⟩
theorem Zau (k:G') (h:Hid G'→G:=by intro x';refine Zat ?_;refine q15 (g:=55) 31 rfl Y1q (by decide) rfl rfl rfl ?_;exact x'.o):G:=h ⟨k⟩
theorem Zav (k:G') (h:Hid G'→G:=by intro x';refine Zau ?_;refine q50 (g:=59) 32 rfl Y1q (by decide) rfl rfl ?_;exact x'.o):G:=h ⟨k⟩
theorem Zaw (k:G') (h:Hid G'→G:=by intro x';refine Zav ?_;refine q50 (g:=59) 33 rfl Y1q (by decide) rfl rfl ?_;exact x'.o):G:=h ⟨k⟩
theorem Zax (k:G') (h:Hid G'→G:=by intro x';refine Zaw ?_;refine q50 (g:=59) 34 rfl Y1q (by decide) rfl rfl ?_;exact x'.o):G:=h ⟨k⟩
theorem Zay (k:G') (h:Hid G'→G:=by intro x';refine Zax ?_;refine q15 (g:=55) 35 rfl Y1q (by decide) rfl rfl rfl ?_;exact x'.o):G:=h ⟨k⟩
theorem Zaz (k:G') (h:Hid G'→G:=by intro x';refine Zay ?_;refine aq0 36 rfl Y1q (by decide) (fun _=>q1n (v:=.bool _) rfl rfl) ?_;exact x'.o):G:=h ⟨k⟩
theorem Zb0 (h:G:=by exact q1y Y1q Y1b (Out.mk (by (refine congrArg AV.bool ?_;(rw [hB2];clear hB hr1 hB2;(simp_all;omega)))) Yb)):G:=h
theorem Zb1 (k:G') (h:Hid G'→G:=by intro x';refine q31 (g:=31) 4 rfl Y1q (by decide) rfl rfl (fun G=>qd rfl (lk rfl rfl) rfl (by decide)) ?_;exact x'.o):G:=h ⟨k⟩
theorem Zb2 (k:G') (h:Hid G'→G:=by intro x';refine q31 (g:=31) 5 rfl Y1q (by decide) rfl rfl (fun G=>qh (v:=.int _ _) rfl (lk rfl rfl) rfl rfl rfl) ?_;exact x'.o):G:=h ⟨k⟩
theorem Zb3 (k:G') (h:Hid G'→G:=by intro x';refine q2l (g:=31) 6 rfl Y1q (by decide) rfl rfl (fun _=>qi (v:=.int _ _) rfl) ?_;exact x'.o):G:=h ⟨k⟩
theorem Zb4 (k:G') (h:Hid G'→G:=by intro x';refine q2l (g:=31) 7 rfl Y1q (by decide) rfl rfl (fun _=>qwm rfl rfl) ?_;exact x'.o):G:=h ⟨k⟩
theorem Zb5 (k:G') (h:Hid G'→G:=by intro x';refine aq0 8 rfl Y1q (by decide) (fun _=>q1m (v:=.bool _) rfl rfl) ?_;exact x'.o):G:=h ⟨k⟩
theorem Zb6 (h:G:=by exact q1y Y1q Y1b (Out.mk (by (refine congrArg AV.bool ?_;(rw [hB2];clear hB hr1 hB2;(simp_all;done)))) Yb)):G:=h
theorem Zb7 (k:G') (h:Hid G'→G:=by intro x';refine aq0 26 rfl Y1q (by decide) (fun _=>q1m (v:=.bool _) rfl rfl) ?_;exact x'.o):G:=h ⟨k⟩
theorem Zb8 (k:G') (h:Hid G'→G:=by intro x';refine aq0 36 rfl Y1q (by decide) (fun _=>q1m (v:=.bool _) rfl rfl) ?_;exact x'.o):G:=h ⟨k⟩
theorem Zb9 (h:G:=by exact q1y Y1q Y1b (Out.mk (by (refine congrArg AV.bool ?_;(rw [hB3];clear hB hB3;(simp_all;done)))) Yb)):G:=h
theorem Zba (h:G:=by exact qe (Out.mk (by (refine congrArg AV.bool ?_;(simp only [q89];clear hB;(simp_all;omega)))) Yb)):G:=h
theorem Zbb (k:G') (h:Hid G'→G:=by intro x';(try dsimp only [List.length_nil,put,List.length_cons,Nat.reduceAdd,List.nil_append]);exact x'.o):G:=h ⟨k⟩
theorem Zbc (k:G') (h:Hid G'→G:=by intro x';refine ao1 (by decide) (q12 rfl (lk rfl rfl) rfl rfl rfl (by omega)) ?_;exact x'.o):G:=h ⟨k⟩
theorem Zbd (k:G') (h:Hid G'→G:=by intro x';refine qe ?_;refine Z7a ?_;exact x'.o):G:=h ⟨k⟩
theorem Zbe (k:G') (h:Hid G'→G:=by intro x';refine q18 ?_;refine Z44 ?_;exact x'.o):G:=h ⟨k⟩
theorem Zbf (k:G') (h:Hid G'→G:=by intro x';refine Zbe ?_;refine Z4o ?_;exact x'.o):G:=h ⟨k⟩
theorem Zbg (k:G') (h:Hid G'→G:=by intro x';(try dsimp only [put,List.length_cons,List.length_nil,Nat.reduceAdd,List.cons_append,List.nil_append,List.set_cons_zero,List.set_cons_succ]);exact x'.o):G:=h ⟨k⟩
theorem Zbh (k:G') (h:Hid G'→G:=by intro x';refine qe ?_;refine Zbg ?_;exact x'.o):G:=h ⟨k⟩
theorem Zbi (k:G') (h:Hid G'→G:=by intro x';refine q18 ?_;refine Z8n ?_;exact x'.o):G:=h ⟨k⟩
theorem Zbj (k:G') (h:Hid G'→G:=by intro x';refine ao1 (by decide) (qh (v:=.bool _) rfl (lk rfl rfl) rfl hrow0 rfl) ?_;exact x'.o):G:=h ⟨k⟩
theorem Zbk (k:G') (h:Hid G'→G:=by intro x';refine Z2c ?_;refine Z2c ?_;exact x'.o):G:=h ⟨k⟩
theorem Zbl (k:G') (h:Hid G'→G:=by intro x';refine ao2 Y1w (q1k (sz:=1) (v:=.bool _) (r':=[.bool (uU g m i)]) rfl rfl rfl rfl hrow0 rfl rfl rfl Y1m (by rw [hat];(simp [AV.cells,hg6];done))) ?_;exact x'.o):G:=h ⟨k⟩
theorem Zbm (k:G') (h:Hid G'→G:=by intro x';refine q1j rfl rfl (by decide) (qi (v:=.sl _ _ _ _ _) rfl) ?_;exact x'.o):G:=h ⟨k⟩
theorem Zbn (k:G') (h:Hid G'→G:=by intro x';refine ao2 Y1w (q1k (sz:=1) (v:=.bool _) (r':=[.bool (uU g m i)]) rfl rfl rfl rfl hrow0 rfl rfl rfl Y1m (by rw [hat];(simp [AV.cells,hg6,hup];done))) ?_;exact x'.o):G:=h ⟨k⟩
theorem Zbo (k:G') (h:Hid G'→G:=by intro x';(try dsimp only [List.length_nil]);exact x'.o):G:=h ⟨k⟩
theorem Zbp (k:G') (h:Hid G'→G:=by intro x';refine q1s (k:=0) 2 1 rfl (by decide) rfl ?_;exact x'.o):G:=h ⟨k⟩
theorem Zbq (k:G') (h:Hid G'→G:=by intro x';refine Z8s ?_;refine Z73 ?_;exact x'.o):G:=h ⟨k⟩
theorem Zbr (k:G') (h:Hid G'→G:=by intro x';refine Z44 ?_;refine Z8 ?_;exact x'.o):G:=h ⟨k⟩
theorem Zbs (k:G') (h:Hid G'→G:=by intro x';refine Z1n ?_;(try dsimp only [put]);exact x'.o):G:=h ⟨k⟩
theorem Zbt (k:G') (h:Hid G'→G:=by intro x';refine qu (qa8 _ _ Y1y) rfl (by decide) ?_;exact x'.o):G:=h ⟨k⟩
theorem Zbu (h:G:=by exact qe (Out.mk (by (refine congrArg AV.bool ?_;(simp only [q51];clear hB;(simp_all;omega)))) Yb)):G:=h
theorem Zbv (k:G') (h:Hid G'→G:=by intro x';refine aq0 0 rfl Y1q (by decide) (fun _=>qi (v:=.sl _ _ _ _ _) rfl) ?_;exact x'.o):G:=h ⟨k⟩
theorem Zbw (k:G') (h:Hid G'→G:=by intro x';refine Zbv ?_;refine Z1i ?_;exact x'.o):G:=h ⟨k⟩
theorem Zbx (k:G') (h:Hid G'→G:=by intro x';refine aq0 2 rfl Y1q (by decide) (fun _=>qi (v:=.sl _ _ _ _ _) rfl) ?_;exact x'.o):G:=h ⟨k⟩
theorem Zby (k:G') (h:Hid G'→G:=by intro x';refine aq0 3 rfl Y1q (by decide) (fun _=>qi (v:=.int _ _) rfl) ?_;exact x'.o):G:=h ⟨k⟩
theorem Zbz (k:G') (h:Hid G'→G:=by intro x';refine aqp 7 rfl Y1q (by decide) (fun G=>qd rfl (lk rfl rfl) rfl (by decide)) ?_;exact x'.o):G:=h ⟨k⟩
theorem Zc0 (k:G') (h:Hid G'→G:=by intro x';refine qu (qlg _ _ _ (by omega) (by omega)) rfl (by decide) ?_;exact x'.o):G:=h ⟨k⟩
theorem Zc1 (k:G') (h:Hid G'→G:=by intro x';(try dsimp only [List.nil_append]);exact x'.o):G:=h ⟨k⟩
theorem Zc2 (k:G') (h:Hid G'→G:=by intro x';(try dsimp only [AV.cells,List.length_cons,List.length_nil,Nat.reduceAdd,put,List.cons_append,List.nil_append,List.set_cons_zero]);exact x'.o):G:=h ⟨k⟩
theorem Zc3 (k:G') (h:Hid G'→G:=by intro x';refine qu (qkp _ _ _ _ (by omega) (by omega)) rfl (by decide) ?_;exact x'.o):G:=h ⟨k⟩
theorem Zc4 (k:G') (h:Hid G'→G:=by intro x';refine ao2 Y1k (q8z (sz:=4) (v:=.agg _) rfl rfl rfl rfl (by decide) rfl) ?_;exact x'.o):G:=h ⟨k⟩
theorem Zc5 (k:G') (h:Hid G'→G:=by intro x';refine Z2 ?_;refine Zc4 ?_;exact x'.o):G:=h ⟨k⟩
theorem Zc6 (k:G') (h:Hid G'→G:=by intro x';refine q1j rfl rfl (by decide) (qh (v:=.pl _) rfl (lk rfl rfl) rfl rfl rfl) ?_;exact x'.o):G:=h ⟨k⟩
theorem Zc7 (k:G') (h:Hid G'→G:=by intro x';refine Z31 ?_;refine Zc6 ?_;exact x'.o):G:=h ⟨k⟩
theorem Zc8 (k:G') (h:Hid G'→G:=by intro x';refine q6d rfl rfl (by decide) (V2.call (qbd _ (by omega) _) rfl) ?_;exact x'.o):G:=h ⟨k⟩
theorem Zc9 (h:G:=by exact qe (Out.mk (by (refine congrArg AV.bool ?_;(simp only [hmay,tm];clear hB;(simp_all;done)))) Yb)):G:=h
theorem Zca (h:G:=by exact qe (Out.mk (by (refine congrArg AV.bool ?_;(simp only [hmay,tm];clear hB;(simp_all;omega)))) Yb)):G:=h
theorem Zcb (k:G') (h:Hid G'→G:=by intro x';refine Z37 ?_;refine Zq ?_;exact x'.o):G:=h ⟨k⟩
theorem Zcc (k:G') (h:Hid G'→G:=by intro x';refine Zcb ?_;refine Z1z ?_;exact x'.o):G:=h ⟨k⟩
theorem Zcd (k:G') (h:Hid G'→G:=by intro x';refine Z5x ?_;refine Z1 ?_;exact x'.o):G:=h ⟨k⟩
theorem Zce (k:G') (h:Hid G'→G:=by intro x';refine Z30 ?_;refine Z30 ?_;exact x'.o):G:=h ⟨k⟩
theorem Zcf (k:G') (h:Hid G'→G:=by intro x';refine qu (qq2 _ _ _ _ _) rfl (by decide) ?_;exact x'.o):G:=h ⟨k⟩
theorem Zcg (k:G') (h:Hid G'→G:=by intro x';refine Zc7 ?_;refine Zc7 ?_;exact x'.o):G:=h ⟨k⟩
theorem Zch (h:G:=by exact qe (Out.mk (by (refine congrArg AV.bool ?_;(simp only [q5y];clear hB;(simp_all;done)))) Yb)):G:=h
theorem Zci (k:G') (h:Hid G'→G:=by intro x';refine ao1 (by decide) (q1q rfl (lkF hF) rfl rfl rfl) ?_;exact x'.o):G:=h ⟨k⟩
theorem Zcj (k:G') (h:Hid G'→G:=by intro x';refine qu (qqt _ _ _ Y1y Y1y) rfl (by decide) ?_;exact x'.o):G:=h ⟨k⟩
theorem Zck (k:G') (h:Hid G'→G:=by intro x';refine ao2 Y1w (q2q (sz:=4) rfl rfl rfl rfl rfl rfl rfl rfl (Nat.le_of_ble_eq_true rfl)) ?_;exact x'.o):G:=h ⟨k⟩
theorem Zcl (k:G') (h:Hid G'→G:=by intro x';refine aqp 0 rfl Y1q (by decide) (fun G=>q1q rfl (lk rfl rfl) rfl rfl rfl) ?_;exact x'.o):G:=h ⟨k⟩
theorem Zcm (k:G') (h:Hid G'→G:=by intro x';refine q9b 1 rfl Y1q (by decide) (fun _=>V2.call (qo9 _ _ Y1y) rfl) ?_;exact x'.o):G:=h ⟨k⟩
theorem Zcn (k:G') (h:Hid G'→G:=by intro x';refine aq0 2 rfl Y1q (by decide) (fun _=>qc1 rfl) ?_;exact x'.o):G:=h ⟨k⟩
theorem Zco (k:G') (h:Hid G'→G:=by intro x';refine q15 (g:=18) 4 rfl Y1q (by decide) rfl rfl rfl ?_;exact x'.o):G:=h ⟨k⟩
theorem Zcp (k:G') (h:Hid G'→G:=by intro x';refine q15 (g:=18) 5 rfl Y1q (by decide) rfl rfl rfl ?_;exact x'.o):G:=h ⟨k⟩
theorem Zcq (k:G') (h:Hid G'→G:=by intro x';refine q15 (g:=18) 6 rfl Y1q (by decide) rfl rfl rfl ?_;exact x'.o):G:=h ⟨k⟩
theorem Zcr (k:G') (h:Hid G'→G:=by intro x';refine q50 (g:=21) 7 rfl Y1q (by decide) rfl rfl ?_;exact x'.o):G:=h ⟨k⟩
theorem Zcs (k:G') (h:Hid G'→G:=by intro x';refine q50 (g:=21) 8 rfl Y1q (by decide) rfl rfl ?_;exact x'.o):G:=h ⟨k⟩
theorem Zct (k:G') (h:Hid G'→G:=by intro x';refine q50 (g:=21) 9 rfl Y1q (by decide) rfl rfl ?_;exact x'.o):G:=h ⟨k⟩
theorem Zcu (k:G') (h:Hid G'→G:=by intro x';refine q50 (g:=21) 10 rfl Y1q (by decide) rfl rfl ?_;exact x'.o):G:=h ⟨k⟩
theorem Zcv (k:G') (h:Hid G'→G:=by intro x';refine q50 (g:=21) 11 rfl Y1q (by decide) rfl rfl ?_;exact x'.o):G:=h ⟨k⟩
theorem Zcw (k:G') (h:Hid G'→G:=by intro x';refine q50 (g:=21) 12 rfl Y1q (by decide) rfl rfl ?_;exact x'.o):G:=h ⟨k⟩
theorem Zcx (k:G') (h:Hid G'→G:=by intro x';refine q50 (g:=21) 13 rfl Y1q (by decide) rfl rfl ?_;exact x'.o):G:=h ⟨k⟩
theorem Zcy (k:G') (h:Hid G'→G:=by intro x';refine q50 (g:=21) 14 rfl Y1q (by decide) rfl rfl ?_;exact x'.o):G:=h ⟨k⟩
theorem Zcz (k:G') (h:Hid G'→G:=by intro x';refine q50 (g:=21) 15 rfl Y1q (by decide) rfl rfl ?_;exact x'.o):G:=h ⟨k⟩
theorem Zd0 (k:G') (h:Hid G'→G:=by intro x';refine q15 (g:=18) 16 rfl Y1q (by decide) rfl rfl rfl ?_;exact x'.o):G:=h ⟨k⟩
theorem Zd1 (k:G') (h:Hid G'→G:=by intro x';refine aq0 17 rfl Y1q (by decide) (fun _=>q1n (v:=.bool _) rfl rfl) ?_;exact x'.o):G:=h ⟨k⟩
theorem Zd2 (k:G') (h:Hid G'→G:=by intro x';refine aq0 18 rfl Y1q (by decide) (fun _=>qi (v:=.bool _) rfl) ?_;exact x'.o):G:=h ⟨k⟩
theorem Zd3 (k:G') (h:Hid G'→G:=by intro x';refine q15 (g:=33) 19 rfl Y1q (by decide) rfl rfl rfl ?_;exact x'.o):G:=h ⟨k⟩
theorem Zd4 (k:G') (h:Hid G'→G:=by intro x';refine q15 (g:=33) 20 rfl Y1q (by decide) rfl rfl rfl ?_;exact x'.o):G:=h ⟨k⟩
theorem Zd5 (k:G') (h:Hid G'→G:=by intro x';refine q15 (g:=33) 21 rfl Y1q (by decide) rfl rfl rfl ?_;exact x'.o):G:=h ⟨k⟩
theorem Zd6 (k:G') (h:Hid G'→G:=by intro x';refine q15 (g:=33) 22 rfl Y1q (by decide) rfl rfl rfl ?_;exact x'.o):G:=h ⟨k⟩
theorem Zd7 (k:G') (h:Hid G'→G:=by intro x';refine q15 (g:=33) 23 rfl Y1q (by decide) rfl rfl rfl ?_;exact x'.o):G:=h ⟨k⟩
theorem Zd8 (k:G') (h:Hid G'→G:=by intro x';refine aq0 24 rfl Y1q (by decide) (fun _=>q1n (v:=.bool _) rfl rfl) ?_;exact x'.o):G:=h ⟨k⟩
theorem Zd9 (h:G:=by exact q1y Y1q Y1b (Out.mk (by (refine congrArg AV.bool ?_;(rw [hB2];clear hB hr1 hB2 hno0 hli;(simp_all;done)))) Yb)):G:=h
theorem Zda (k:G') (h:Hid G'→G:=by intro x';refine q2l (g:=18) 4 rfl Y1q (by decide) rfl rfl (fun _=>qi (v:=.int _ _) rfl) ?_;exact x'.o):G:=h ⟨k⟩
theorem Zdb (k:G') (h:Hid G'→G:=by intro x';refine q2l (g:=18) 5 rfl Y1q (by decide) rfl rfl (fun _=>qwm rfl rfl) ?_;exact x'.o):G:=h ⟨k⟩
theorem Zdc (k:G') (h:Hid G'→G:=by intro x';refine q2l (g:=18) 6 rfl Y1q (by decide) rfl rfl (fun _=>qi (v:=.bool _) rfl) ?_;exact x'.o):G:=h ⟨k⟩
theorem Zdd (k:G') (h:Hid G'→G:=by intro x';refine q2l (g:=21) 10 rfl Y1q (by decide) rfl rfl (fun _=>qi (v:=.int _ _) rfl) ?_;exact x'.o):G:=h ⟨k⟩
theorem Zde (k:G') (h:Hid G'→G:=by intro x';refine aq0 17 rfl Y1q (by decide) (fun _=>q1m (v:=.bool _) rfl rfl) ?_;exact x'.o):G:=h ⟨k⟩
theorem Zdf (k:G') (h:Hid G'→G:=by intro x';refine q2l (g:=33) 19 rfl Y1q (by decide) rfl rfl (fun _=>qi (v:=.pl _) rfl) ?_;exact x'.o):G:=h ⟨k⟩
theorem Zdg (k:G') (h:Hid G'→G:=by intro x';refine q2l (g:=33) 20 rfl Y1q (by decide) rfl rfl (fun _=>qi (v:=.int _ _) rfl) ?_;exact x'.o):G:=h ⟨k⟩
theorem Zdh (k:G') (h:Hid G'→G:=by intro x';refine q2l (g:=33) 21 rfl Y1q (by decide) rfl rfl (fun _=>qbk (ys:=(l.take i).map qj) rfl (Bd.some rfl rfl) Y1x (qk0 _) hli) ?_;exact x'.o):G:=h ⟨k⟩
theorem Zdi (k:G') (h:Hid G'→G:=by intro x';refine q2l (g:=33) 22 rfl Y1q (by decide) rfl rfl (fun _=>q70 (vs:=[]) (us:=[_]) rfl rfl) ?_;exact x'.o):G:=h ⟨k⟩
theorem Zdj (k:G') (h:Hid G'→G:=by intro x';refine q14o (g:=33) 23 rfl Y1q (by decide) rfl rfl (fun G=>V2.call (q9f (l.take i) h _ _ (hl.take i) hw (lk rfl rfl)) rfl) ?_;exact x'.o):G:=h ⟨k⟩
theorem Zdk (k:G') (h:Hid G'→G:=by intro x';refine aq0 24 rfl Y1q (by decide) (fun _=>q1m (v:=.bool _) rfl rfl) ?_;exact x'.o):G:=h ⟨k⟩
theorem Zdl (k:G') (h:Hid G'→G:=by intro x';refine q15 (g:=21) 7 rfl Y1q (by decide) rfl rfl rfl ?_;exact x'.o):G:=h ⟨k⟩
theorem Zdm (k:G') (h:Hid G'→G:=by intro x';refine q15 (g:=21) 8 rfl Y1q (by decide) rfl rfl rfl ?_;exact x'.o):G:=h ⟨k⟩
theorem Zdn (k:G') (h:Hid G'→G:=by intro x';refine q15 (g:=21) 9 rfl Y1q (by decide) rfl rfl rfl ?_;exact x'.o):G:=h ⟨k⟩
theorem Zdo (k:G') (h:Hid G'→G:=by intro x';refine q15 (g:=21) 10 rfl Y1q (by decide) rfl rfl rfl ?_;exact x'.o):G:=h ⟨k⟩
theorem Zdp (k:G') (h:Hid G'→G:=by intro x';refine q15 (g:=21) 11 rfl Y1q (by decide) rfl rfl rfl ?_;exact x'.o):G:=h ⟨k⟩
theorem Zdq (k:G') (h:Hid G'→G:=by intro x';refine q15 (g:=21) 12 rfl Y1q (by decide) rfl rfl rfl ?_;exact x'.o):G:=h ⟨k⟩
theorem Zdr (k:G') (h:Hid G'→G:=by intro x';refine q15 (g:=21) 13 rfl Y1q (by decide) rfl rfl rfl ?_;exact x'.o):G:=h ⟨k⟩
theorem Zds (k:G') (h:Hid G'→G:=by intro x';refine q15 (g:=21) 14 rfl Y1q (by decide) rfl rfl rfl ?_;exact x'.o):G:=h ⟨k⟩
theorem Zdt (k:G') (h:Hid G'→G:=by intro x';refine q15 (g:=21) 15 rfl Y1q (by decide) rfl rfl rfl ?_;exact x'.o):G:=h ⟨k⟩
theorem Zdu (k:G') (h:Hid G'→G:=by intro x';refine q2l (g:=18) 16 rfl Y1q (by decide) rfl rfl (fun _=>q1m (v:=.bool _) rfl rfl) ?_;exact x'.o):G:=h ⟨k⟩
theorem Zdv (h:G:=by exact q1y Y1q Y1b (Out.mk (by (refine congrArg AV.bool ?_;(rw [hB2];clear hB hB2 hno0 hli;(simp_all;done)))) Yb)):G:=h
theorem Zdw (k:G') (h:Hid G'→G:=by intro x';refine qu (qm7 _ _ _) rfl (by decide) ?_;exact x'.o):G:=h ⟨k⟩
theorem Zdx (k:G') (h:Hid G'→G:=by intro x';refine ao1 (by decide) (q1x (r:=((lo+hi:Nat):Int)) rfl rfl (by rw [show (lo:Int)+(hi:Int)=((lo+hi:Nat):Int) by omega];exact qc (by omega) (by omega))) ?_;exact x'.o):G:=h ⟨k⟩
theorem Zdy (k:G') (h:Hid G'→G:=by intro x';refine ao1 (by decide) (qn (r:=((lo+hi:Nat):Int)) rfl Y14) ?_;exact x'.o):G:=h ⟨k⟩
theorem Zdz (k:G') (h:Hid G'→G:=by intro x';refine ao1 (by decide) (qmv (r:=(((lo+hi) / 2:Nat):Int)) rfl rfl (by decide) (by rw [show ((2:Int) ^ min (1:Int).toNat IntKind.u64.bits)=((2:Nat):Int) from rfl,Int.fdiv_eq_ediv_of_nonneg _ (by omega)];exact (Int.natCast_ediv _ _).symm)) ?_;exact x'.o):G:=h ⟨k⟩
theorem Ze0 (k:G') (h:Hid G'→G:=by intro x';refine ao1 (by decide) (qn (r:=(((lo+hi) / 2:Nat):Int)) rfl (qc (by omega) (by omega))) ?_;exact x'.o):G:=h ⟨k⟩
theorem Ze1 (k:G') (h:Hid G'→G:=by intro x';refine ao1 (by decide) (q1x (r:=(((lo+hi) / 2+1:Nat):Int)) rfl rfl (by rw [show (((lo+hi) / 2:Nat):Int)+1=(((lo+hi) / 2+1:Nat):Int) by omega];exact qc (by omega) (by omega))) ?_;exact x'.o):G:=h ⟨k⟩
theorem Ze2 (k:G') (h:Hid G'→G:=by intro x';refine q1j rfl rfl (by decide) (qi (v:=.fn _ _ _) rfl) ?_;exact x'.o):G:=h ⟨k⟩
theorem Ze3 (k:G') (h:Hid G'→G:=by intro x';refine Z9p ?_;refine Zj ?_;exact x'.o):G:=h ⟨k⟩
theorem Ze4 (k:G') (h:Hid G'→G:=by intro x';refine q1j rfl rfl (by decide) (q16 rfl rfl hr rfl) ?_;exact x'.o):G:=h ⟨k⟩
theorem Ze5 (k:G') (h:Hid G'→G:=by intro x';refine Z29 ?_;refine Z2e ?_;exact x'.o):G:=h ⟨k⟩
theorem Ze6 (h:G:=by refine Z1 ?_;exact Z5u):G:=h
theorem Ze7 (k:G') (h:Hid G'→G:=by intro x';(try dsimp only [put,AV.cells,List.nil_append,List.length_cons,List.length_nil,Nat.reduceAdd,List.cons_append]);exact x'.o):G:=h ⟨k⟩
theorem Ze8 (k:G') (h:Hid G'→G:=by intro x';refine ao2 Y1w (q1k (sz:=1) (v:=.pl _) (r':=[_,_,_,_]) rfl rfl rfl rfl rfl rfl rfl rfl (Nat.le_of_ble_eq_true rfl) rfl) ?_;exact x'.o):G:=h ⟨k⟩
theorem Ze9 (h:G:=by exact q4r hB (q6o rfl (lk rfl rfl) rfl rfl rfl .nil) rfl rfl):G:=h
theorem Zea (k:G') (h:Hid G'→G:=by intro x';refine qu (qh6 _ _ Y1y) rfl (by decide) ?_;exact x'.o):G:=h ⟨k⟩
theorem Zeb (k:G') (h:Hid G'→G:=by intro x';refine ao1 (by decide) (V1.up (q3w (cs:=[.int _ _,_,.int _ _,.int _ _]) rfl)) ?_;exact x'.o):G:=h ⟨k⟩
theorem Zec (k:G') (h:Hid G'→G:=by intro x';(try dsimp only [AV.up,put,List.set_cons_zero]);exact x'.o):G:=h ⟨k⟩
theorem Zed (h:G:=by refine Zec ?_;exact Z6p):G:=h
theorem Zee (k:G') (h:Hid G'→G:=by intro x';refine qu (qsv _ _ _ (by omega) Y1y) rfl (by decide) ?_;exact x'.o):G:=h ⟨k⟩
theorem Zef (k:G') (h:Hid G'→G:=by intro x';refine Z6j ?_;refine Z6l ?_;exact x'.o):G:=h ⟨k⟩
theorem Zeg (k:G') (h:Hid G'→G:=by intro x';refine qu (qfg _ _ Y1y) rfl (by decide) ?_;exact x'.o):G:=h ⟨k⟩
theorem Zeh (k:G') (h:Hid G'→G:=by intro x';refine q9b 1 rfl Y1q (by decide) (fun _=>V2.call (qlh _ _) rfl) ?_;exact x'.o):G:=h ⟨k⟩
theorem Zei (k:G') (h:Hid G'→G:=by intro x';refine q15 (g:=22) 4 rfl Y1q (by decide) rfl rfl rfl ?_;exact x'.o):G:=h ⟨k⟩
theorem Zej (k:G') (h:Hid G'→G:=by intro x';refine q15 (g:=22) 5 rfl Y1q (by decide) rfl rfl rfl ?_;exact x'.o):G:=h ⟨k⟩
theorem Zek (k:G') (h:Hid G'→G:=by intro x';refine q15 (g:=22) 6 rfl Y1q (by decide) rfl rfl rfl ?_;exact x'.o):G:=h ⟨k⟩
theorem Zel (k:G') (h:Hid G'→G:=by intro x';refine q50 (g:=25) 7 rfl Y1q (by decide) rfl rfl ?_;exact x'.o):G:=h ⟨k⟩
theorem Zem (k:G') (h:Hid G'→G:=by intro x';refine q50 (g:=25) 8 rfl Y1q (by decide) rfl rfl ?_;exact x'.o):G:=h ⟨k⟩
theorem Zen (k:G') (h:Hid G'→G:=by intro x';refine q50 (g:=25) 9 rfl Y1q (by decide) rfl rfl ?_;exact x'.o):G:=h ⟨k⟩
theorem Zeo (k:G') (h:Hid G'→G:=by intro x';refine q50 (g:=25) 10 rfl Y1q (by decide) rfl rfl ?_;exact x'.o):G:=h ⟨k⟩
theorem Zep (k:G') (h:Hid G'→G:=by intro x';refine q50 (g:=25) 11 rfl Y1q (by decide) rfl rfl ?_;exact x'.o):G:=h ⟨k⟩
theorem Zeq (k:G') (h:Hid G'→G:=by intro x';refine q50 (g:=25) 12 rfl Y1q (by decide) rfl rfl ?_;exact x'.o):G:=h ⟨k⟩
theorem Zer (k:G') (h:Hid G'→G:=by intro x';refine q50 (g:=25) 13 rfl Y1q (by decide) rfl rfl ?_;exact x'.o):G:=h ⟨k⟩
theorem Zes (k:G') (h:Hid G'→G:=by intro x';refine q50 (g:=25) 14 rfl Y1q (by decide) rfl rfl ?_;exact x'.o):G:=h ⟨k⟩
theorem Zet (k:G') (h:Hid G'→G:=by intro x';refine q50 (g:=25) 15 rfl Y1q (by decide) rfl rfl ?_;exact x'.o):G:=h ⟨k⟩
theorem Zeu (k:G') (h:Hid G'→G:=by intro x';refine q50 (g:=35) 17 rfl Y1q (by decide) rfl rfl ?_;exact x'.o):G:=h ⟨k⟩
theorem Zev (k:G') (h:Hid G'→G:=by intro x';refine q50 (g:=35) 18 rfl Y1q (by decide) rfl rfl ?_;exact x'.o):G:=h ⟨k⟩
theorem Zew (k:G') (h:Hid G'→G:=by intro x';refine q50 (g:=35) 19 rfl Y1q (by decide) rfl rfl ?_;exact x'.o):G:=h ⟨k⟩
theorem Zex (k:G') (h:Hid G'→G:=by intro x';refine q50 (g:=35) 20 rfl Y1q (by decide) rfl rfl ?_;exact x'.o):G:=h ⟨k⟩
theorem Zey (k:G') (h:Hid G'→G:=by intro x';refine q50 (g:=35) 21 rfl Y1q (by decide) rfl rfl ?_;exact x'.o):G:=h ⟨k⟩
theorem Zez (k:G') (h:Hid G'→G:=by intro x';refine q50 (g:=35) 22 rfl Y1q (by decide) rfl rfl ?_;exact x'.o):G:=h ⟨k⟩
theorem Zf0 (k:G') (h:Hid G'→G:=by intro x';refine q50 (g:=35) 23 rfl Y1q (by decide) rfl rfl ?_;exact x'.o):G:=h ⟨k⟩
theorem Zf1 (k:G') (h:Hid G'→G:=by intro x';refine q50 (g:=35) 24 rfl Y1q (by decide) rfl rfl ?_;exact x'.o):G:=h ⟨k⟩
theorem Zf2 (k:G') (h:Hid G'→G:=by intro x';refine q50 (g:=35) 25 rfl Y1q (by decide) rfl rfl ?_;exact x'.o):G:=h ⟨k⟩
theorem Zf3 (k:G') (h:Hid G'→G:=by intro x';refine q50 (g:=25) 26 rfl Y1q (by decide) rfl rfl ?_;exact x'.o):G:=h ⟨k⟩
theorem Zf4 (k:G') (h:Hid G'→G:=by intro x';refine q15 (g:=22) 27 rfl Y1q (by decide) rfl rfl rfl ?_;exact x'.o):G:=h ⟨k⟩
theorem Zf5 (k:G') (h:Hid G'→G:=by intro x';refine aq0 28 rfl Y1q (by decide) (fun _=>q1n (v:=.bool _) rfl rfl) ?_;exact x'.o):G:=h ⟨k⟩
theorem Zf6 (h:G:=by exact q1y Y1q Y1b (Out.mk (by (refine congrArg AV.bool ?_;(clear hB hr1 hli;(simp_all;done)))) Yb)):G:=h
theorem Zf7 (k:G') (h:Hid G'→G:=by intro x';refine q2l (g:=22) 4 rfl Y1q (by decide) rfl rfl (fun _=>qi (v:=.int _ _) rfl) ?_;exact x'.o):G:=h ⟨k⟩
theorem Zf8 (k:G') (h:Hid G'→G:=by intro x';refine q2l (g:=22) 5 rfl Y1q (by decide) rfl rfl (fun _=>qwm rfl rfl) ?_;exact x'.o):G:=h ⟨k⟩
theorem Zf9 (k:G') (h:Hid G'→G:=by intro x';refine q2l (g:=22) 6 rfl Y1q (by decide) rfl rfl (fun _=>qi (v:=.bool _) rfl) ?_;exact x'.o):G:=h ⟨k⟩
theorem Zfa (k:G') (h:Hid G'→G:=by intro x';refine q2l (g:=22) 27 rfl Y1q (by decide) rfl rfl (fun _=>q1n (v:=.bool _) rfl rfl) ?_;exact x'.o):G:=h ⟨k⟩
theorem Zfb (k:G') (h:Hid G'→G:=by intro x';refine aq0 28 rfl Y1q (by decide) (fun _=>q1m (v:=.bool _) rfl rfl) ?_;exact x'.o):G:=h ⟨k⟩
theorem Zfc (k:G') (h:Hid G'→G:=by intro x';refine q15 (g:=25) 7 rfl Y1q (by decide) rfl rfl rfl ?_;exact x'.o):G:=h ⟨k⟩
theorem Zfd (k:G') (h:Hid G'→G:=by intro x';refine q15 (g:=25) 8 rfl Y1q (by decide) rfl rfl rfl ?_;exact x'.o):G:=h ⟨k⟩
theorem Zfe (k:G') (h:Hid G'→G:=by intro x';refine q15 (g:=25) 9 rfl Y1q (by decide) rfl rfl rfl ?_;exact x'.o):G:=h ⟨k⟩
theorem Zff (k:G') (h:Hid G'→G:=by intro x';refine q15 (g:=25) 10 rfl Y1q (by decide) rfl rfl rfl ?_;exact x'.o):G:=h ⟨k⟩
theorem Zfg (k:G') (h:Hid G'→G:=by intro x';refine q15 (g:=25) 11 rfl Y1q (by decide) rfl rfl rfl ?_;exact x'.o):G:=h ⟨k⟩
theorem Zfh (k:G') (h:Hid G'→G:=by intro x';refine q15 (g:=25) 12 rfl Y1q (by decide) rfl rfl rfl ?_;exact x'.o):G:=h ⟨k⟩
theorem Zfi (k:G') (h:Hid G'→G:=by intro x';refine q15 (g:=25) 13 rfl Y1q (by decide) rfl rfl rfl ?_;exact x'.o):G:=h ⟨k⟩
theorem Zfj (k:G') (h:Hid G'→G:=by intro x';refine q15 (g:=25) 14 rfl Y1q (by decide) rfl rfl rfl ?_;exact x'.o):G:=h ⟨k⟩
theorem Zfk (k:G') (h:Hid G'→G:=by intro x';refine q15 (g:=25) 15 rfl Y1q (by decide) rfl rfl rfl ?_;exact x'.o):G:=h ⟨k⟩
theorem Zfl (k:G') (h:Hid G'→G:=by intro x';refine q15 (g:=25) 26 rfl Y1q (by decide) rfl rfl rfl ?_;exact x'.o):G:=h ⟨k⟩
theorem Zfm (k:G') (h:Hid G'→G:=by intro x';refine q2l (g:=22) 27 rfl Y1q (by decide) rfl rfl (fun _=>q1m (v:=.bool _) rfl rfl) ?_;exact x'.o):G:=h ⟨k⟩
theorem Zfn (h:G:=by exact q1y Y1q Y1b (Out.mk (by (refine congrArg AV.bool ?_;(clear hB hli;(simp_all;done)))) Yb)):G:=h
theorem Zfo (k:G') (h:Hid G'→G:=by intro x';refine Z4v ?_;refine Z4 ?_;exact x'.o):G:=h ⟨k⟩
theorem Zfp (k:G') (h:Hid G'→G:=by intro x';refine qu (qrh _ _ _ (by omega) Y1y) rfl (by decide) ?_;exact x'.o):G:=h ⟨k⟩
theorem Zfq (h:G:=by exact qe (Out.mk (by (refine congrArg AV.bool ?_;(simp only [q7x];clear hB;(simp_all;omega)))) Yb)):G:=h
theorem Zfr (k:G') (h:Hid G'→G:=by intro x';refine qu (qbd _ (by omega) _) rfl (by decide) ?_;exact x'.o):G:=h ⟨k⟩
theorem Zfs (h:G:=by exact qe (Out.mk (by (refine congrArg AV.bool ?_;(simp only [q2r];clear hB;(simp_all;done)))) Yb)):G:=h
theorem Zft (h:G:=by exact qe (Out.mk (by (refine congrArg AV.bool ?_;(clear hB hs hd hr hx hxl;(simp_all;done)))) Yb)):G:=h
theorem Zfu (k:G') (h:Hid G'→G:=by intro x';refine q1j rfl rfl (by decide) (q29 (v:=.int _ _) rfl hr rfl) ?_;exact x'.o):G:=h ⟨k⟩
theorem Zfv (k:G') (h:Hid G'→G:=by intro x';refine ao2 Y1k (q8z (sz:=9) (v:=.agg _) rfl rfl rfl rfl (by decide) rfl) ?_;exact x'.o):G:=h ⟨k⟩
theorem Zfw (k:G') (h:Hid G'→G:=by intro x';refine Z2 ?_;refine Zfv ?_;exact x'.o):G:=h ⟨k⟩
theorem Zfx (k:G') (h:Hid G'→G:=by intro x';refine Z2 ?_;refine Z9t ?_;exact x'.o):G:=h ⟨k⟩
theorem Zfy (k:G') (h:Hid G'→G:=by intro x';refine Z5w ?_;refine Z67 ?_;exact x'.o):G:=h ⟨k⟩
theorem Zfz (k:G') (h:Hid G'→G:=by intro x';refine Zfx ?_;refine Zfy ?_;exact x'.o):G:=h ⟨k⟩
theorem Zg0 (k:G') (h:Hid G'→G:=by intro x';refine Z72 ?_;refine Zck ?_;exact x'.o):G:=h ⟨k⟩
theorem Zg1 (k:G') (h:Hid G'→G:=by intro x';(try dsimp only [Nat.reduceAdd,List.length_cons,List.length_nil,put,List.cons_append,List.nil_append,List.set_cons_zero,List.set_cons_succ]);exact x'.o):G:=h ⟨k⟩
theorem Zg2 (k:G') (h:Hid G'→G:=by intro x';refine q3i mixed none 3 ?_;exact x'.o):G:=h ⟨k⟩
theorem Zg3 (k:G') (h:Hid G'→G:=by intro x';refine q15 (g:=49) 10 rfl Y1q (by decide) rfl rfl rfl ?_;exact x'.o):G:=h ⟨k⟩
theorem Zg4 (k:G') (h:Hid G'→G:=by intro x';refine q15 (g:=49) 11 rfl Y1q (by decide) rfl rfl rfl ?_;exact x'.o):G:=h ⟨k⟩
theorem Zg5 (k:G') (h:Hid G'→G:=by intro x';refine q15 (g:=49) 12 rfl Y1q (by decide) rfl rfl rfl ?_;exact x'.o):G:=h ⟨k⟩
theorem Zg6 (k:G') (h:Hid G'→G:=by intro x';refine q15 (g:=49) 13 rfl Y1q (by decide) rfl rfl rfl ?_;exact x'.o):G:=h ⟨k⟩
theorem Zg7 (k:G') (h:Hid G'→G:=by intro x';refine q15 (g:=49) 14 rfl Y1q (by decide) rfl rfl rfl ?_;exact x'.o):G:=h ⟨k⟩
theorem Zg8 (k:G') (h:Hid G'→G:=by intro x';refine q15 (g:=49) 15 rfl Y1q (by decide) rfl rfl rfl ?_;exact x'.o):G:=h ⟨k⟩
theorem Zg9 (k:G') (h:Hid G'→G:=by intro x';refine q15 (g:=49) 16 rfl Y1q (by decide) rfl rfl rfl ?_;exact x'.o):G:=h ⟨k⟩
theorem Zga (k:G') (h:Hid G'→G:=by intro x';refine q15 (g:=49) 17 rfl Y1q (by decide) rfl rfl rfl ?_;exact x'.o):G:=h ⟨k⟩
theorem Zgb (k:G') (h:Hid G'→G:=by intro x';refine aq0 18 rfl Y1q (by decide) (fun _=>q1n (v:=.bool _) rfl rfl) ?_;exact x'.o):G:=h ⟨k⟩
theorem Zgc (k:G') (h:Hid G'→G:=by intro x';refine aq0 19 rfl Y1q (by decide) (fun _=>qi (v:=.bool _) rfl) ?_;exact x'.o):G:=h ⟨k⟩
theorem Zgd (k:G') (h:Hid G'→G:=by intro x';refine q15 (g:=59) 20 rfl Y1q (by decide) rfl rfl rfl ?_;exact x'.o):G:=h ⟨k⟩
theorem Zge (k:G') (h:Hid G'→G:=by intro x';refine q15 (g:=59) 21 rfl Y1q (by decide) rfl rfl rfl ?_;exact x'.o):G:=h ⟨k⟩
theorem Zgf (k:G') (h:Hid G'→G:=by intro x';refine q15 (g:=59) 22 rfl Y1q (by decide) rfl rfl rfl ?_;exact x'.o):G:=h ⟨k⟩
theorem Zgg (k:G') (h:Hid G'→G:=by intro x';refine q15 (g:=59) 23 rfl Y1q (by decide) rfl rfl rfl ?_;exact x'.o):G:=h ⟨k⟩
theorem Zgh (k:G') (h:Hid G'→G:=by intro x';refine q15 (g:=59) 24 rfl Y1q (by decide) rfl rfl rfl ?_;exact x'.o):G:=h ⟨k⟩
theorem Zgi (k:G') (h:Hid G'→G:=by intro x';refine aq0 25 rfl Y1q (by decide) (fun _=>q1n (v:=.bool _) rfl rfl) ?_;exact x'.o):G:=h ⟨k⟩
theorem Zgj (k:G') (h:Hid G'→G:=by intro x';refine aq0 26 rfl Y1q (by decide) (fun _=>qi (v:=.bool _) rfl) ?_;exact x'.o):G:=h ⟨k⟩
theorem Zgk (k:G') (h:Hid G'→G:=by intro x';refine q15 (g:=66) 27 rfl Y1q (by decide) rfl rfl rfl ?_;exact x'.o):G:=h ⟨k⟩
theorem Zgl (k:G') (h:Hid G'→G:=by intro x';refine q15 (g:=66) 28 rfl Y1q (by decide) rfl rfl rfl ?_;exact x'.o):G:=h ⟨k⟩
theorem Zgm (k:G') (h:Hid G'→G:=by intro x';refine q15 (g:=66) 29 rfl Y1q (by decide) rfl rfl rfl ?_;exact x'.o):G:=h ⟨k⟩
theorem Zgn (k:G') (h:Hid G'→G:=by intro x';refine q15 (g:=66) 30 rfl Y1q (by decide) rfl rfl rfl ?_;exact x'.o):G:=h ⟨k⟩
theorem Zgo (k:G') (h:Hid G'→G:=by intro x';refine q15 (g:=66) 31 rfl Y1q (by decide) rfl rfl rfl ?_;exact x'.o):G:=h ⟨k⟩
theorem Zgp (k:G') (h:Hid G'→G:=by intro x';refine q15 (g:=66) 32 rfl Y1q (by decide) rfl rfl rfl ?_;exact x'.o):G:=h ⟨k⟩
theorem Zgq (k:G') (h:Hid G'→G:=by intro x';refine aq0 33 rfl Y1q (by decide) (fun _=>q1n (v:=.bool _) rfl rfl) ?_;exact x'.o):G:=h ⟨k⟩
theorem Zgr (h:G:=by exact q1y Y1q Y1b (Out.mk (by (refine congrArg AV.bool ?_;(rw [hB2];clear hB hB2 hno0 hstep hbel hrl;(simp_all;done)))) Yb)):G:=h
theorem Zgs (h:G:=by exact q4r hB (q2o (by refine congrArg AV.bool ?_;rw [Bool.eq_iff_iff];simp;omega) .nil) rfl rfl):G:=h
theorem Zgt (k:G') (h:Hid G'→G:=by intro x';refine q6d rfl rfl (by decide) (V2.call (qdv _ _ _ (by omega) (by omega)) rfl) ?_;exact x'.o):G:=h ⟨k⟩
theorem Zgu (k:G') (h:Hid G'→G:=by intro x';refine q6d rfl rfl (by decide) (V2.call (qn2 _ _ _) rfl) ?_;exact x'.o):G:=h ⟨k⟩
theorem Zgv (h:G:=by exact qe (Out.mk (by (refine congrArg AV.bool ?_;(clear hB;simp only [tm];(simp_all;done)))) Yb)):G:=h
theorem Zgw (h:G:=by exact qe (Out.mk (by (refine congrArg AV.bool ?_;(clear hB;simp only [tm];(simp_all;omega)))) Yb)):G:=h
theorem Zgx (k:G') (h:Hid G'→G:=by intro x';refine q6d rfl rfl (by decide) (V2.call (qh6 _ _ Y1y) rfl) ?_;exact x'.o):G:=h ⟨k⟩
theorem Zgy (h:G:=by exact qe (Out.mk (by (refine congrArg AV.bool ?_;(simp only [q3c];clear hB;(simp_all;done)))) Yb)):G:=h
theorem Zgz (k:G') (h:Hid G'→G:=by intro x';refine aq0 0 rfl Y1q (by decide) (fun _=>qi (v:=.pt _ _ _ _) rfl) ?_;exact x'.o):G:=h ⟨k⟩
theorem Zh0 (k:G') (h:Hid G'→G:=by intro x';refine aqp 1 rfl Y1q (by decide) (fun G=>qy rfl (lkF hF) rfl) ?_;exact x'.o):G:=h ⟨k⟩
theorem Zh1 (k:G') (h:Hid G'→G:=by intro x';refine aqp 2 rfl Y1q (by decide) (fun G=>qd rfl (lkF hF) rfl (by decide)) ?_;exact x'.o):G:=h ⟨k⟩
theorem Zh2 (k:G') (h:Hid G'→G:=by intro x';refine aqp 3 rfl Y1q (by decide) (fun G=>qd rfl (lkF hF) rfl (by decide)) ?_;exact x'.o):G:=h ⟨k⟩
theorem Zh3 (k:G') (h:Hid G'→G:=by intro x';refine aqp 4 rfl Y1q (by decide) (fun G=>qh (v:=.pl _) rfl (lkF hF) rfl rfl rfl) ?_;exact x'.o):G:=h ⟨k⟩
theorem Zh4 (k:G') (h:Hid G'→G:=by intro x';refine aq0 5 rfl Y1q (by decide) (fun _=>qi (v:=.pt _ _ _ _) rfl) ?_;exact x'.o):G:=h ⟨k⟩
theorem Zh5 (k:G') (h:Hid G'→G:=by intro x';refine aqp 6 rfl Y1q (by decide) (fun G=>qy rfl (lkF hF) rfl) ?_;exact x'.o):G:=h ⟨k⟩
theorem Zh6 (k:G') (h:Hid G'→G:=by intro x';refine aqp 7 rfl Y1q (by decide) (fun G=>qd rfl (lkF hF) rfl (by decide)) ?_;exact x'.o):G:=h ⟨k⟩
theorem Zh7 (k:G') (h:Hid G'→G:=by intro x';refine aqp 8 rfl Y1q (by decide) (fun G=>qd rfl (lkF hF) rfl (by decide)) ?_;exact x'.o):G:=h ⟨k⟩
theorem Zh8 (k:G') (h:Hid G'→G:=by intro x';refine aqp 9 rfl Y1q (by decide) (fun G=>qh (v:=.pl _) rfl (lkF hF) rfl rfl rfl) ?_;exact x'.o):G:=h ⟨k⟩
theorem Zh9 (k:G') (h:Hid G'→G:=by intro x';refine aq0 10 rfl Y1q (by decide) (fun _=>qi (v:=.pt _ _ _ _) rfl) ?_;exact x'.o):G:=h ⟨k⟩
theorem Zha (k:G') (h:Hid G'→G:=by intro x';refine aqp 11 rfl Y1q (by decide) (fun G=>qy rfl (lkF hF) rfl) ?_;exact x'.o):G:=h ⟨k⟩
theorem Zhb (k:G') (h:Hid G'→G:=by intro x';refine aqp 12 rfl Y1q (by decide) (fun G=>qd rfl (lkF hF) rfl (by decide)) ?_;exact x'.o):G:=h ⟨k⟩
theorem Zhc (k:G') (h:Hid G'→G:=by intro x';refine aqp 13 rfl Y1q (by decide) (fun G=>qd rfl (lkF hF) rfl (by decide)) ?_;exact x'.o):G:=h ⟨k⟩
theorem Zhd (k:G') (h:Hid G'→G:=by intro x';refine aqp 14 rfl Y1q (by decide) (fun G=>qh (v:=.pl _) rfl (lkF hF) rfl rfl rfl) ?_;exact x'.o):G:=h ⟨k⟩
theorem Zhe (k:G') (h:Hid G'→G:=by intro x';refine aq0 17 rfl Y1q (by decide) (fun _=>q11 (v:=.pl _) rfl) ?_;exact x'.o):G:=h ⟨k⟩
theorem Zhf (k:G') (h:Hid G'→G:=by intro x';refine Z1k ?_;refine Z3z ?_;exact x'.o):G:=h ⟨k⟩
theorem Zhg (k:G') (h:Hid G'→G:=by intro x';refine ao2 Y1k (q3y (sz:=9) rfl (by decide) rfl) ?_;exact x'.o):G:=h ⟨k⟩
theorem Zhh (k:G') (h:Hid G'→G:=by intro x';refine qu (qa8 _ _ (by omega)) rfl (by decide) ?_;exact x'.o):G:=h ⟨k⟩
theorem Zhi (h:G:=by exact qe (Out.mk (by (refine congrArg AV.bool ?_;(clear hB;(simp_all;done)))) Yb)):G:=h
theorem Zhj (k:G') (h:Hid G'→G:=by intro x';refine Z1v ?_;refine Zr ?_;exact x'.o):G:=h ⟨k⟩
theorem Zhk (k:G') (h:Hid G'→G:=by intro x';refine ao1 (by decide) (V1.up (q3w (cs:=[_,_,_,.int _ _,_,_,.int _ _,.int _ _,.int _ _]) rfl)) ?_;exact x'.o):G:=h ⟨k⟩
theorem Zhl (k:G') (h:Hid G'→G:=by intro x';refine ao2 Y1w (q2q (sz:=9) rfl rfl rfl rfl rfl rfl rfl rfl (Nat.le_of_ble_eq_true rfl)) ?_;exact x'.o):G:=h ⟨k⟩
theorem Zhm (k:G') (h:Hid G'→G:=by intro x';refine Zhl ?_;refine Z4 ?_;exact x'.o):G:=h ⟨k⟩
theorem Zhn (k:G') (h:Hid G'→G:=by intro x';refine Z67 ?_;refine qe ?_;exact x'.o):G:=h ⟨k⟩
theorem Zho (k:G') (h:Hid G'→G:=by intro x';refine qu (qej _ _ (by omega)) rfl (by decide) ?_;exact x'.o):G:=h ⟨k⟩
theorem Zhp (k:G') (h:Hid G'→G:=by intro x';refine ao1 (by decide) (V1.up (q3w (cs:=[.int _ _,.int _ _,.int _ _,.int _ _,.str _,.bool _,.int _ _,.int _ _,_,.int _ _,.int _ _,.int _ _,.int _ _]) rfl)) ?_;exact x'.o):G:=h ⟨k⟩
theorem Zhq (k:G') (h:Hid G'→G:=by intro x';refine qu (qkr _ _ Y1y) rfl (by decide) ?_;exact x'.o):G:=h ⟨k⟩
theorem Zhr (k:G') (h:Hid G'→G:=by intro x';refine Z43 ?_;refine Z49 ?_;exact x'.o):G:=h ⟨k⟩
theorem Zhs (k:G') (h:Hid G'→G:=by intro x';refine ao2 Y1k (q2c (sz:=13) (v:=.agg _) rfl (by decide) (by decide) rfl rfl rfl rfl rfl) ?_;exact x'.o):G:=h ⟨k⟩
theorem Zht (k:G') (h:Hid G'→G:=by intro x';refine ao2 Y1k (q47 rfl rfl rfl rfl rfl (qv8 rfl rfl rfl rfl rfl rfl) rfl Y1u (by simp;done) Y1u Y1u) ?_;exact x'.o):G:=h ⟨k⟩
theorem Zhu (k:G') (h:Hid G'→G:=by intro x';refine Z8o ?_;refine Z8r ?_;exact x'.o):G:=h ⟨k⟩
theorem Zhv (k:G') (h:Hid G'→G:=by intro x';refine Zfx ?_;refine Zg0 ?_;exact x'.o):G:=h ⟨k⟩
theorem Zhw (k:G') (h:Hid G'→G:=by intro x';refine ao2 Y1k (q2c (sz:=4) (v:=.agg _) rfl (by decide) (by decide) rfl rfl rfl rfl rfl) ?_;exact x'.o):G:=h ⟨k⟩
theorem Zhx (k:G') (h:Hid G'→G:=by intro x';refine Z42 ?_;refine Z4 ?_;exact x'.o):G:=h ⟨k⟩
theorem Zhy (k:G') (h:Hid G'→G:=by intro x';refine ao2 Y1k (V2.callo (qn3 l _ hw) rfl rfl) ?_;exact x'.o):G:=h ⟨k⟩
theorem Zhz (k:G') (h:Hid G'→G:=by intro x';refine Zhu ?_;refine Z4 ?_;exact x'.o):G:=h ⟨k⟩
theorem Zi0 (k:G') (h:Hid G'→G:=by intro x';refine q98 8 rfl rfl rfl rfl (by simp) (q2b 0 l) ?_;exact x'.o):G:=h ⟨k⟩
theorem Zi1 (h:G:=by refine q2z ?_;exact Z5u):G:=h
theorem Zi2 (k:G') (h:Hid G'→G:=by intro x';refine ao1 (by decide) (q1q rfl (lk rfl rfl) rfl (qdw hr) rfl) ?_;exact x'.o):G:=h ⟨k⟩
theorem Zi3 (k:G') (h:Hid G'→G:=by intro x';refine Z7g ?_;refine Z14 ?_;exact x'.o):G:=h ⟨k⟩
theorem Zi4 (k:G') (h:Hid G'→G:=by intro x';refine Zi3 ?_;refine Zfy ?_;exact x'.o):G:=h ⟨k⟩
theorem Zi5 (k:G') (h:Hid G'→G:=by intro x';refine Zi4 ?_;refine Z4 ?_;exact x'.o):G:=h ⟨k⟩
theorem Zi6 (k:G') (h:Hid G'→G:=by intro x';refine Z8o ?_;refine Z2r ?_;exact x'.o):G:=h ⟨k⟩
theorem Zi7 (k:G') (h:Hid G'→G:=by intro x';refine ao1 (by decide) (qex rfl (lkF hF) rfl) ?_;exact x'.o):G:=h ⟨k⟩
theorem Zi8 (k:G') (h:Hid G'→G:=by intro x';refine aq0 7 rfl Y1q (by decide) (fun _=>q11 (v:=.sl _ _ _ _ _) rfl) ?_;exact x'.o):G:=h ⟨k⟩
theorem Zi9 (k:G') (h:Hid G'→G:=by intro x';refine Z8o ?_;refine Z8n ?_;exact x'.o):G:=h ⟨k⟩
theorem Zia (k:G') (h:Hid G'→G:=by intro x';refine ao2 Y1k (V2.callo (qh8 l _ hw) rfl rfl) ?_;exact x'.o):G:=h ⟨k⟩
theorem Zib (k:G') (h:Hid G'→G:=by intro x';(try dsimp only [List.length_cons,List.length_nil,Nat.reduceAdd,put,List.cons_append,List.nil_append]);exact x'.o):G:=h ⟨k⟩
theorem Zic (k:G') (h:Hid G'→G:=by intro x';refine q98 4 rfl rfl rfl rfl (by simp) (q1f 0 l) ?_;exact x'.o):G:=h ⟨k⟩
theorem Zid (h:G:=by exact q4r hB (q2o rfl (q6o rfl (lk rfl rfl) rfl rfl rfl (q2o rfl .nil))) rfl rfl):G:=h
theorem Zie (k:G') (h:Hid G'→G:=by intro x';refine q1y Y1q Y15 ?_;exact x'.o):G:=h ⟨k⟩
theorem Zif (k:G') (h:Hid G'→G:=by intro x';(try dsimp only [put,List.set_cons_succ,List.set_cons_zero]);exact x'.o):G:=h ⟨k⟩
theorem Zig (k:G') (h:Hid G'→G:=by intro x';refine ao1 (by decide) (qi (v:=.pt _ _ _ _) rfl) ?_;exact x'.o):G:=h ⟨k⟩
theorem Zih (k:G') (h:Hid G'→G:=by intro x';refine Z2 ?_;refine Zig ?_;exact x'.o):G:=h ⟨k⟩
theorem Zii (k:G') (h:Hid G'→G:=by intro x';refine ao1 (by decide) (qd rfl (lkF hF) rfl (by decide)) ?_;exact x'.o):G:=h ⟨k⟩
theorem Zij (k:G') (h:Hid G'→G:=by intro x';refine ao1 (by decide) (qy rfl (lkF hF) rfl) ?_;refine Zii ?_;exact x'.o):G:=h ⟨k⟩
theorem Zik (k:G') (h:Hid G'→G:=by intro x';refine Zih ?_;refine Zij ?_;exact x'.o):G:=h ⟨k⟩
theorem Zil (k:G') (h:Hid G'→G:=by intro x';refine ao1 (by decide) (qh (v:=.pl _) rfl (lkF hF) rfl rfl rfl) ?_;exact x'.o):G:=h ⟨k⟩
theorem Zim (k:G') (h:Hid G'→G:=by intro x';refine Zii ?_;refine Zil ?_;exact x'.o):G:=h ⟨k⟩
theorem Zin (k:G') (h:Hid G'→G:=by intro x';refine ao1 (by decide) (q2f (v:=.pl _) rfl rfl) ?_;exact x'.o):G:=h ⟨k⟩
theorem Zio (k:G') (h:Hid G'→G:=by intro x';refine Z6e ?_;refine Zin ?_;exact x'.o):G:=h ⟨k⟩
theorem Zip (k:G') (h:Hid G'→G:=by intro x';refine Zio ?_;refine Z14 ?_;exact x'.o):G:=h ⟨k⟩
theorem Ziq (k:G') (h:Hid G'→G:=by intro x';refine Z4c ?_;refine Z4 ?_;exact x'.o):G:=h ⟨k⟩
theorem Zir (k:G') (h:Hid G'→G:=by intro x';refine Zip ?_;refine Ziq ?_;exact x'.o):G:=h ⟨k⟩
theorem Zis (k:G') (h:Hid G'→G:=by intro x';refine qu (quq _ _ _ Y1y) rfl (by decide) ?_;exact x'.o):G:=h ⟨k⟩
theorem Zit (k:G') (h:Hid G'→G:=by intro x';refine q18 ?_;refine Zig ?_;exact x'.o):G:=h ⟨k⟩
theorem Ziu (k:G') (h:Hid G'→G:=by intro x';refine Zig ?_;refine Zij ?_;exact x'.o):G:=h ⟨k⟩
theorem Ziv (k:G') (h:Hid G'→G:=by intro x';refine ao2 Y1k (V2.freeze1 (V2.call (qh8 l _ hw) rfl) rfl (by simp) (q1f 0 l)) ?_;exact x'.o):G:=h ⟨k⟩
theorem Ziw (k:G') (h:Hid G'→G:=by intro x';refine aqp 1 rfl Y1q (by decide) (fun G=>qh (v:=.pl _) rfl (lk rfl rfl) rfl rfl rfl) ?_;exact x'.o):G:=h ⟨k⟩
theorem Zix (k:G') (h:Hid G'→G:=by intro x';refine aqp 3 rfl Y1q (by decide) (fun G=>qd rfl (lk rfl rfl) rfl (by decide)) ?_;exact x'.o):G:=h ⟨k⟩
theorem Ziy (k:G') (h:Hid G'→G:=by intro x';refine aqp 4 rfl Y1q (by decide) (fun G=>qh (v:=.pl _) rfl (lk rfl rfl) rfl rfl rfl) ?_;exact x'.o):G:=h ⟨k⟩
theorem Ziz (k:G') (h:Hid G'→G:=by intro x';refine aqp 6 rfl Y1q (by decide) (fun G=>qd rfl (lk rfl rfl) rfl (by decide)) ?_;exact x'.o):G:=h ⟨k⟩
theorem Zj0 (k:G') (h:Hid G'→G:=by intro x';refine aqp 9 rfl Y1q (by decide) (fun G=>qd rfl (lk rfl rfl) rfl (by decide)) ?_;exact x'.o):G:=h ⟨k⟩
theorem Zj1 (k:G') (h:Hid G'→G:=by intro x';refine aqst 10 rfl Y1q (fun G=>qis rfl rfl rfl rfl rfl rfl rfl rfl (Nat.le_of_ble_eq_true rfl) rfl rfl) ?_;exact x'.o):G:=h ⟨k⟩
theorem Zj2 (k:G') (h:Hid G'→G:=by intro x';refine aqp 11 rfl Y1q (by decide) (fun G=>qd rfl (lk rfl rfl) rfl (by decide)) ?_;exact x'.o):G:=h ⟨k⟩
theorem Zj3 (k:G') (h:Hid G'→G:=by intro x';refine aqst 12 rfl Y1q (fun G=>qis rfl rfl rfl rfl rfl rfl rfl rfl (Nat.le_of_ble_eq_true rfl) rfl rfl) ?_;exact x'.o):G:=h ⟨k⟩
theorem Zj4 (k:G') (h:Hid G'→G:=by intro x';refine aqp 13 rfl Y1q (by decide) (fun G=>qd rfl (lk rfl rfl) rfl (by decide)) ?_;exact x'.o):G:=h ⟨k⟩
theorem Zj5 (k:G') (h:Hid G'→G:=by intro x';refine aqst 14 rfl Y1q (fun G=>qis rfl rfl rfl rfl rfl rfl rfl rfl (Nat.le_of_ble_eq_true rfl) rfl rfl) ?_;exact x'.o):G:=h ⟨k⟩
theorem Zj6 (k:G') (h:Hid G'→G:=by intro x';(try dsimp only [Nat.reduceAdd,List.cons_append,List.nil_append]);exact x'.o):G:=h ⟨k⟩
theorem Zj7 (k:G') (h:Hid G'→G:=by intro x';refine qe ?_;(try dsimp only [put,Nat.reduceAdd,List.set_cons_zero,List.set_cons_succ]);exact x'.o):G:=h ⟨k⟩
theorem Zj8 (k:G') (h:Hid G'→G:=by intro x';refine ao2 Y1w (q1k (sz:=1) (v:=.pl _) (r':=[_,_,_,_,_,_,_,_,_]) rfl rfl rfl rfl rfl rfl rfl rfl (Nat.le_of_ble_eq_true rfl) rfl) ?_;exact x'.o):G:=h ⟨k⟩
theorem Zj9 (k:G') (h:Hid G'→G:=by intro x';(try dsimp only [put,Nat.reduceAdd,List.set_cons_succ,List.set_cons_zero]);exact x'.o):G:=h ⟨k⟩
theorem Zja (k:G') (h:Hid G'→G:=by intro x';(try dsimp only [put,List.length_cons,List.length_nil,Nat.reduceAdd,AV.up,List.cons_append,List.nil_append,List.set_cons_zero,List.set_cons_succ]);exact x'.o):G:=h ⟨k⟩
theorem Zjb (h:G:=by exact qe (Out.mk (by (refine congrArg AV.bool ?_;(clear hB hlast;simp only [tm] at *;(simp_all;done)))) Yb)):G:=h
theorem Zjc (k:G') (h:Hid G'→G:=by intro x';refine qp (ys:=l.map qx) 8 rfl rfl rfl rfl Ym (by simp) (q2b 0 _) ?_;exact x'.o):G:=h ⟨k⟩
theorem Zjd (h:G:=by exact q4r hB (q2o rfl (q2o rfl (q2o rfl .nil))) rfl rfl):G:=h
theorem Zje (h:G:=by refine q2z ?_;exact Zjd):G:=h
theorem Zjf (k:G') (h:Hid G'→G:=by intro x';refine aq0 9 rfl Y1q (by decide) (fun _=>qi (v:=.int _ _) rfl) ?_;exact x'.o):G:=h ⟨k⟩
theorem Zjg (h:G:=by exact qe (Out.mk (by (refine congrArg AV.bool ?_;(clear hB;(simp_all;omega)))) Yb)):G:=h
theorem Zjh (k:G') (h:Hid G'→G:=by intro x';refine qp (ys:=h.map eI) 8 rfl rfl rfl rfl Ym (by simp) (qd3 0 _) ?_;exact x'.o):G:=h ⟨k⟩
theorem Zji (k:G') (h:Hid G'→G:=by intro x';refine Zhu ?_;refine Z8l ?_;exact x'.o):G:=h ⟨k⟩
theorem Zjj (k:G') (h:Hid G'→G:=by intro x';refine Z8o ?_;refine Z30 ?_;exact x'.o):G:=h ⟨k⟩
theorem Zjk (k:G') (h:Hid G'→G:=by intro x';refine aq0 1 rfl Y1q (by decide) (fun _=>qi (v:=.pl _) rfl) ?_;exact x'.o):G:=h ⟨k⟩
theorem Zjl (k:G') (h:Hid G'→G:=by intro x';refine aqp 7 rfl Y1q (by decide) (fun G=>q1q rfl (lk rfl rfl) rfl rfl rfl) ?_;exact x'.o):G:=h ⟨k⟩
theorem Zjm (k:G') (h:Hid G'→G:=by intro x';refine aq0 8 rfl Y1q (by decide) (fun _=>V1.up (q3w (cs:=[_,_,_,.int _ _,.int _ _,.int _ _,.str _,.bool _,.int _ _,.int _ _]) rfl)) ?_;exact x'.o):G:=h ⟨k⟩
theorem Zjn (k:G') (h:Hid G'→G:=by intro x';refine aqs 9 rfl Y1q Y1b Y1k (q8z (sz:=10) (v:=.agg _) rfl rfl rfl rfl (by decide) rfl) ?_;exact x'.o):G:=h ⟨k⟩
theorem Zjo (k:G') (h:Hid G'→G:=by intro x';refine aq0 10 rfl Y1q (by decide) (fun _=>q11 (v:=.pt _ _ _ _) rfl) ?_;exact x'.o):G:=h ⟨k⟩
theorem Zjp (k:G') (h:Hid G'→G:=by intro x';(try dsimp only [List.length_cons,List.length_nil,Nat.reduceAdd,List.cons_append,List.nil_append,put,AV.up,AV.cells]);exact x'.o):G:=h ⟨k⟩
theorem Zjq (k:G') (h:Hid G'→G:=by intro x';refine Zu ?_;refine qe ?_;exact x'.o):G:=h ⟨k⟩
theorem Zjr (k:G') (h:Hid G'→G:=by intro x';refine Zjq ?_;refine Z8k ?_;exact x'.o):G:=h ⟨k⟩
theorem Zjs (k:G') (h:Hid G'→G:=by intro x';refine ao1 (by decide) (qy rfl (lk rfl rfl) rfl) ?_;refine Z2y ?_;exact x'.o):G:=h ⟨k⟩
theorem Zjt (k:G') (h:Hid G'→G:=by intro x';refine ao1 (by decide) (qh (v:=.sl _ _ _ _ _) rfl (lk rfl rfl) rfl rfl rfl) ?_;exact x'.o):G:=h ⟨k⟩
theorem Zju (k:G') (h:Hid G'→G:=by intro x';refine ao2 Y1w (q1k (sz:=1) (v:=.bool true) (r':=[.bool true]) rfl rfl rfl rfl hrow rfl rfl rfl (Nat.le_refl 1) rfl) ?_;exact x'.o):G:=h ⟨k⟩
theorem Zjv (k:G') (h:Hid G'→G:=by intro x';refine qz3 (M++[]) (by rw [← hM,List.append_nil];rfl) ?_;exact x'.o):G:=h ⟨k⟩
theorem Zjw (k:G') (h:Hid G'→G:=by intro x';refine qyn mixed (some 18) 1 hF hK ?_;exact x'.o):G:=h ⟨k⟩
theorem Zjx (k:G') (h:Hid G'→G:=by intro x';refine qmh 1 rfl Y1q (by decide) (fun M G hn hp hp2=>qy rfl (lkF hp) rfl) ?_;exact x'.o):G:=h ⟨k⟩
theorem Zjy (k:G') (h:Hid G'→G:=by intro x';refine qmh 2 rfl Y1q (by decide) (fun M G hn hp hp2=>qd rfl (lkF hp) rfl (by decide)) ?_;exact x'.o):G:=h ⟨k⟩
theorem Zjz (k:G') (h:Hid G'→G:=by intro x';refine qmh 4 rfl Y1q (by decide) (fun M G hn hp hp2=>qd rfl (lk hn rfl) rfl (by decide)) ?_;exact x'.o):G:=h ⟨k⟩
theorem Zk0 (k:G') (h:Hid G'→G:=by intro x';refine qmh 5 rfl Y1q (by decide) (fun M G hn hp hp2=>qh (v:=.int _ _) rfl (lk hn rfl) rfl rfl rfl) ?_;exact x'.o):G:=h ⟨k⟩
theorem Zk1 (k:G') (h:Hid G'→G:=by intro x';refine aq0 6 rfl Y1q (by decide) (fun _=>qi (v:=.pt _ _ _ _) rfl) ?_;exact x'.o):G:=h ⟨k⟩
theorem Zk2 (k:G') (h:Hid G'→G:=by intro x';refine qmh 7 rfl Y1q (by decide) (fun M G hn hp hp2=>qy rfl (lkF hp) rfl) ?_;exact x'.o):G:=h ⟨k⟩
theorem Zk3 (k:G') (h:Hid G'→G:=by intro x';refine qmh 8 rfl Y1q (by decide) (fun M G hn hp hp2=>qd rfl (lkF hp) rfl (by decide)) ?_;exact x'.o):G:=h ⟨k⟩
theorem Zk4 (k:G') (h:Hid G'→G:=by intro x';refine qmh 10 rfl Y1q (by decide) (fun M G hn hp hp2=>qd rfl (lk hn rfl) rfl (by decide)) ?_;exact x'.o):G:=h ⟨k⟩
theorem Zk5 (k:G') (h:Hid G'→G:=by intro x';refine qmh 11 rfl Y1q (by decide) (fun M G hn hp hp2=>qh (v:=.int _ _) rfl (lk hn rfl) rfl rfl rfl) ?_;exact x'.o):G:=h ⟨k⟩
theorem Zk6 (k:G') (h:Hid G'→G:=by intro x';refine qmh 12 rfl Y1q (by decide) (fun M G hn hp hp2=>q12 rfl (lkF hp2) rfl rfl rfl (by omega)) ?_;exact x'.o):G:=h ⟨k⟩
theorem Zk7 (k:G') (h:Hid G'→G:=by intro x';refine qmh 13 rfl Y1q (by decide) (fun M G hn hp hp2=>qh (v:=.sl _ _ _ _ _) rfl (lkF hp2) rfl (qdw hcell) rfl) ?_;exact x'.o):G:=h ⟨k⟩
theorem Zk8 (k:G') (h:Hid G'→G:=by intro x';refine aq0 14 rfl Y1q (by decide) (fun _=>qi (v:=.int _ _) rfl) ?_;exact x'.o):G:=h ⟨k⟩
theorem Zk9 (k:G') (h:Hid G'→G:=by intro x';refine q9b 15 rfl Y1q (by decide) (fun _=>q5e (sz:=1) (v:=.int .i64 (i:Int)) (cs:=[.int .i64 (i:Int)]) rfl (by decide) (by decide) rfl rfl rfl rfl rfl) ?_;exact x'.o):G:=h ⟨k⟩
theorem Zka (k:G') (h:Hid G'→G:=by intro x';refine aqs 16 rfl Y1q (by exact fun _=>⟨_,_,rfl,rfl,hF,hK⟩) Y1k (q5f ((q3e g i u).length+1) rfl hR rfl rfl (Src.pl (ys:=[[.int .i64 (i:Int)]]) rfl Yi) rfl Y1v Y1u Y1u Y1v) ?_;exact x'.o):G:=h ⟨k⟩
theorem Zkb (k:G') (h:Hid G'→G:=by intro x';refine qmh 17 rfl Y1q (by decide) (fun M G hn hp hp2=>q12 rfl (lkF hp2) rfl rfl rfl (by omega)) ?_;exact x'.o):G:=h ⟨k⟩
theorem Zkc (k:G') (h:Hid G'→G:=by intro x';refine aqs 18 rfl Y1q (by exact fun _=>⟨_,_,rfl,by simp,hF3,hK3⟩) Y1w (q1b (sz:=1) (v:=.sl _ _ _ _ _) (r':=[.sl (H.length+(u+4)) ((q3e g i u).length+1) 0 ((q3e g i u).length+1) ((q3e g i u).length+1)]) rfl hK3 rfl (qdw hcell) rfl rfl rfl (Nat.le_refl 1) rfl) ?_;exact x'.o):G:=h ⟨k⟩
theorem Zkd (k:G') (h:Hid G'→G:=by intro x';(try dsimp only [put,Nat.reduceAdd,List.length_cons,List.length_nil]);exact x'.o):G:=h ⟨k⟩
theorem Zke (k:G') (h:Hid G'→G:=by intro x';refine ao1 (by decide) (q11 (v:=.pt _ _ _ _) rfl) ?_;refine qe ?_;exact x'.o):G:=h ⟨k⟩
theorem Zkf (k:G') (h:Hid G'→G:=by intro x';refine ao1 (by decide) (q16 rfl rfl hkr rfl) ?_;exact x'.o):G:=h ⟨k⟩
theorem Zkg (k:G') (h:Hid G'→G:=by intro x';refine ao1 (by decide) (q29 (v:=.pl _) rfl hkr rfl) ?_;exact x'.o):G:=h ⟨k⟩
theorem Zkh (k:G') (h:Hid G'→G:=by intro x';(try dsimp only [Nat.reduceAdd,List.nil_append]);exact x'.o):G:=h ⟨k⟩
theorem Zki (k:G') (h:Hid G'→G:=by intro x';refine ao1 (by decide) (qex rfl (lk rfl rfl) rfl) ?_;exact x'.o):G:=h ⟨k⟩
theorem Zkj (k:G') (h:Hid G'→G:=by intro x';refine q1j rfl rfl (by decide) (qi (v:=.pt _ _ _ _) rfl) ?_;exact x'.o):G:=h ⟨k⟩
theorem Zkk (k:G') (h:Hid G'→G:=by intro x';refine q1j rfl rfl (by decide) (qy rfl (lkF hF) rfl) ?_;exact x'.o):G:=h ⟨k⟩
theorem Zkl (k:G') (h:Hid G'→G:=by intro x';refine q1j rfl rfl (by decide) (qd rfl (lkF hF) rfl (by decide)) ?_;exact x'.o):G:=h ⟨k⟩
theorem Zkm (k:G') (h:Hid G'→G:=by intro x';refine q1j rfl rfl (by decide) (q4m rfl (by decide)) ?_;exact x'.o):G:=h ⟨k⟩
theorem Zkn (k:G') (h:Hid G'→G:=by intro x';refine Z42 ?_;refine Z1n ?_;exact x'.o):G:=h ⟨k⟩
theorem Zko (k:G') (h:Hid G'→G:=by intro x';refine q15 (g:=21) 4 rfl Y1q (by decide) rfl rfl rfl ?_;exact x'.o):G:=h ⟨k⟩
theorem Zkp (k:G') (h:Hid G'→G:=by intro x';refine q15 (g:=21) 5 rfl Y1q (by decide) rfl rfl rfl ?_;exact x'.o):G:=h ⟨k⟩
theorem Zkq (k:G') (h:Hid G'→G:=by intro x';refine q15 (g:=21) 6 rfl Y1q (by decide) rfl rfl rfl ?_;exact x'.o):G:=h ⟨k⟩
theorem Zkr (k:G') (h:Hid G'→G:=by intro x';refine aq0 12 rfl Y1q (by decide) (fun _=>q1n (v:=.bool _) rfl rfl) ?_;exact x'.o):G:=h ⟨k⟩
theorem Zks (k:G') (h:Hid G'→G:=by intro x';refine aq0 13 rfl Y1q (by decide) (fun _=>qi (v:=.bool _) rfl) ?_;exact x'.o):G:=h ⟨k⟩
theorem Zkt (k:G') (h:Hid G'→G:=by intro x';refine q15 (g:=31) 14 rfl Y1q (by decide) rfl rfl rfl ?_;exact x'.o):G:=h ⟨k⟩
theorem Zku (k:G') (h:Hid G'→G:=by intro x';refine q15 (g:=31) 15 rfl Y1q (by decide) rfl rfl rfl ?_;exact x'.o):G:=h ⟨k⟩
theorem Zkv (k:G') (h:Hid G'→G:=by intro x';refine q15 (g:=31) 16 rfl Y1q (by decide) rfl rfl rfl ?_;exact x'.o):G:=h ⟨k⟩
theorem Zkw (k:G') (h:Hid G'→G:=by intro x';refine q15 (g:=31) 17 rfl Y1q (by decide) rfl rfl rfl ?_;exact x'.o):G:=h ⟨k⟩
theorem Zkx (k:G') (h:Hid G'→G:=by intro x';refine q15 (g:=31) 18 rfl Y1q (by decide) rfl rfl rfl ?_;exact x'.o):G:=h ⟨k⟩
theorem Zky (k:G') (h:Hid G'→G:=by intro x';refine q15 (g:=31) 19 rfl Y1q (by decide) rfl rfl rfl ?_;exact x'.o):G:=h ⟨k⟩
theorem Zkz (k:G') (h:Hid G'→G:=by intro x';refine q15 (g:=31) 20 rfl Y1q (by decide) rfl rfl rfl ?_;exact x'.o):G:=h ⟨k⟩
theorem Zl0 (k:G') (h:Hid G'→G:=by intro x';refine q50 (g:=38) 21 rfl Y1q (by decide) rfl rfl ?_;exact x'.o):G:=h ⟨k⟩
theorem Zl1 (k:G') (h:Hid G'→G:=by intro x';refine q50 (g:=38) 22 rfl Y1q (by decide) rfl rfl ?_;exact x'.o):G:=h ⟨k⟩
theorem Zl2 (k:G') (h:Hid G'→G:=by intro x';refine q50 (g:=38) 23 rfl Y1q (by decide) rfl rfl ?_;exact x'.o):G:=h ⟨k⟩
theorem Zl3 (k:G') (h:Hid G'→G:=by intro x';refine q50 (g:=38) 24 rfl Y1q (by decide) rfl rfl ?_;exact x'.o):G:=h ⟨k⟩
theorem Zl4 (k:G') (h:Hid G'→G:=by intro x';refine q50 (g:=38) 25 rfl Y1q (by decide) rfl rfl ?_;exact x'.o):G:=h ⟨k⟩
theorem Zl5 (k:G') (h:Hid G'→G:=by intro x';refine q50 (g:=38) 26 rfl Y1q (by decide) rfl rfl ?_;exact x'.o):G:=h ⟨k⟩
theorem Zl6 (k:G') (h:Hid G'→G:=by intro x';refine q50 (g:=38) 27 rfl Y1q (by decide) rfl rfl ?_;exact x'.o):G:=h ⟨k⟩
theorem Zl7 (k:G') (h:Hid G'→G:=by intro x';refine q50 (g:=38) 28 rfl Y1q (by decide) rfl rfl ?_;exact x'.o):G:=h ⟨k⟩
theorem Zl8 (k:G') (h:Hid G'→G:=by intro x';refine q15 (g:=31) 29 rfl Y1q (by decide) rfl rfl rfl ?_;exact x'.o):G:=h ⟨k⟩
theorem Zl9 (k:G') (h:Hid G'→G:=by intro x';refine aq0 30 rfl Y1q (by decide) (fun _=>q1n (v:=.bool _) rfl rfl) ?_;exact x'.o):G:=h ⟨k⟩
theorem Zla (h:G:=by exact q1y Y1q Y1b (Out.mk (by (refine congrArg AV.bool ?_;(clear hB hmem hkr hrT hrI;(simp_all;done)))) Yb)):G:=h
theorem Zlb (k:G') (h:Hid G'→G:=by intro x';refine aq0 12 rfl Y1q (by decide) (fun _=>q1m (v:=.bool _) rfl rfl) ?_;exact x'.o):G:=h ⟨k⟩
theorem Zlc (k:G') (h:Hid G'→G:=by intro x';refine aq0 30 rfl Y1q (by decide) (fun _=>q1m (v:=.bool _) rfl rfl) ?_;exact x'.o):G:=h ⟨k⟩
theorem Zld (k:G') (h:Hid G'→G:=by intro x';refine aqp 4 rfl Y1q (by decide) (fun G=>qd rfl (lkF hF) rfl (by decide)) ?_;exact x'.o):G:=h ⟨k⟩
theorem Zle (k:G') (h:Hid G'→G:=by intro x';refine aq0 16 rfl Y1q (by decide) (fun _=>q11 (v:=.pl _) rfl) ?_;exact x'.o):G:=h ⟨k⟩
theorem Zlf (k:G') (h:Hid G'→G:=by intro x';refine ao1 (by decide) (qh (v:=.pl (qrp g)) rfl (lkF hF) rfl rfl rfl) ?_;exact x'.o):G:=h ⟨k⟩
theorem Zlg (h:G:=by exact qe (Out.mk (by (refine congrArg AV.bool ?_;(simp only [mmay];clear hB;(simp_all;done)))) Yb)):G:=h
theorem Zlh (k:G') (h:Hid G'→G:=by intro x';(try dsimp only [put,List.cons_append,List.nil_append]);exact x'.o):G:=h ⟨k⟩
theorem Zli (k:G') (h:Hid G'→G:=by intro x';refine ao2 Y1k (V2.callv (hcall _) rfl rfl) ?_;exact x'.o):G:=h ⟨k⟩
theorem Zlj (h:G:=by exact qe (Out.mk (by (refine congrArg AV.bool ?_;(clear hB hrow hr;(simp_all;done)))) Yb)):G:=h
theorem Zlk (k:G') (h:Hid G'→G:=by intro x';refine q1j rfl rfl (by decide) (qh (v:=.pl _) rfl (lkF hb) rfl rfl rfl) ?_;exact x'.o):G:=h ⟨k⟩
theorem Zll (k:G') (h:Hid G'→G:=by intro x';refine q1j rfl rfl (by decide) (qyz rfl rfl) ?_;exact x'.o):G:=h ⟨k⟩
theorem Zlm (k:G') (h:Hid G'→G:=by intro x';refine ao2 Y1k (q8z (sz:=1) (v:=.pl _) rfl rfl rfl rfl (by decide) rfl) ?_;exact x'.o):G:=h ⟨k⟩
theorem Zln (k:G') (h:Hid G'→G:=by intro x';refine ao2 Y1k (q3y (sz:=1) rfl (by decide) rfl) ?_;exact x'.o):G:=h ⟨k⟩
theorem Zlo (k:G') (h:Hid G'→G:=by intro x';refine q1j rfl rfl (by decide) (q70 (vs:=[]) (us:=[_]) rfl rfl) ?_;exact x'.o):G:=h ⟨k⟩
theorem Zlp (k:G') (h:Hid G'→G:=by intro x';refine aq0 2 rfl Y1q (by decide) (fun _=>qwm rfl rfl) ?_;exact x'.o):G:=h ⟨k⟩
theorem Zlq (k:G') (h:Hid G'→G:=by intro x';refine aq0 16 rfl Y1q (by decide) (fun _=>q1m (v:=.bool _) rfl rfl) ?_;exact x'.o):G:=h ⟨k⟩
theorem Zlr (k:G') (h:Hid G'→G:=by intro x';refine ao1 (by decide) (q1x (r:=((a+(i+1):Nat):Int)) rfl rfl (qc (by omega) (by omega))) ?_;exact x'.o):G:=h ⟨k⟩
theorem Zls (k:G') (h:Hid G'→G:=by intro x';refine q3i mixed none 0 ?_;exact x'.o):G:=h ⟨k⟩
theorem Zlt (k:G') (h:Hid G'→G:=by intro x';(try dsimp only [List.take_zero]);exact x'.o):G:=h ⟨k⟩
theorem Zlu (k:G') (h:Hid G'→G:=by intro x';refine q3i mixed (some 15) 0 ?_;exact x'.o):G:=h ⟨k⟩
theorem Zlv (k:G') (h:Hid G'→G:=by intro x';refine aq0 6 rfl Y1q (by decide) (fun _=>qi (v:=.int _ _) rfl) ?_;exact x'.o):G:=h ⟨k⟩
theorem Zlw (k:G') (h:Hid G'→G:=by intro x';refine aq0 5 rfl Y1q (by decide) (fun _=>qi (v:=.sl _ _ _ _ _) rfl) ?_;refine Zlv ?_;exact x'.o):G:=h ⟨k⟩
theorem Zlx (k:G') (h:Hid G'→G:=by intro x';refine aqp 8 rfl Y1q (by decide) (fun G=>q12 rfl (lkF hM) rfl rfl rfl (by omega)) ?_;exact x'.o):G:=h ⟨k⟩
theorem Zly (k:G') (h:Hid G'→G:=by intro x';refine aq0 10 rfl Y1q (by decide) (fun _=>qi (v:=.sl _ _ _ _ _) rfl) ?_;exact x'.o):G:=h ⟨k⟩
theorem Zlz (k:G') (h:Hid G'→G:=by intro x';refine aq0 11 rfl Y1q (by decide) (fun _=>qi (v:=.int _ _) rfl) ?_;exact x'.o):G:=h ⟨k⟩
theorem Zm0 (k:G') (h:Hid G'→G:=by intro x';refine qss [13,12] 12 rfl Y1q (by decide) (fun G=>q12 rfl (lkF hM) rfl rfl rfl (by omega)) ?_;exact x'.o):G:=h ⟨k⟩
theorem Zm1 (k:G') (h:Hid G'→G:=by intro x';refine aqp 14 rfl Y1q (by decide) (fun G=>q12 rfl (lkF hM) rfl rfl rfl (by omega)) ?_;exact x'.o):G:=h ⟨k⟩
theorem Zm2 (k:G') (h:Hid G'→G:=by intro x';refine aqs 16 rfl Y1q Yw Y1k (V1.toV2 (q12 rfl (lkF hM2) rfl rfl rfl (by omega))) ?_;exact x'.o):G:=h ⟨k⟩
theorem Zm3 (k:G') (h:Hid G'→G:=by intro x';refine aq0 10 rfl Y1q (by decide) (fun _=>qi (v:=.int _ _) rfl) ?_;exact x'.o):G:=h ⟨k⟩
theorem Zm4 (k:G') (h:Hid G'→G:=by intro x';refine ao1 (by decide) (q1x (r:=((i+1:Nat):Int)) rfl rfl (qc (by omega) (by omega))) ?_;exact x'.o):G:=h ⟨k⟩
theorem Zm5 (k:G') (h:Hid G'→G:=by intro x';refine ao1 (by decide) (q30 (r:=((p.length:Nat):Int)) rfl rfl (by rw [show (m:Int)-(u.length:Int)=((p.length:Nat):Int) by omega];exact qc (by omega) (by omega))) ?_;exact x'.o):G:=h ⟨k⟩
theorem Zm6 (k:G') (h:Hid G'→G:=by intro x';refine Z1r ?_;refine ao2 Y1k (V2.call (AC.rowset cs) rfl) ?_;exact x'.o):G:=h ⟨k⟩
theorem Zm7 (k:G') (h:Hid G'→G:=by intro x';refine Zm6 ?_;refine Z47 ?_;exact x'.o):G:=h ⟨k⟩
theorem Zm8 (k:G') (h:Hid G'→G:=by intro x';refine ao1 (by decide) (q1x (r:=((s+r:Nat):Int)) rfl rfl (qc (by omega) (by omega))) ?_;exact x'.o):G:=h ⟨k⟩
theorem Zm9 (k:G') (h:Hid G'→G:=by intro x';refine ao1 (by decide) (qn (r:=((s+r:Nat):Int)) rfl Y14) ?_;exact x'.o):G:=h ⟨k⟩
theorem Zma (k:G') (h:Hid G'→G:=by intro x';refine ao1 (by decide) (qmv (r:=(((s+r) / 2:Nat):Int)) rfl rfl (by decide) (q13m _)) ?_;exact x'.o):G:=h ⟨k⟩
theorem Zmb (k:G') (h:Hid G'→G:=by intro x';refine ao1 (by decide) (qn (r:=(((s+r) / 2:Nat):Int)) rfl (qc (by omega) (by omega))) ?_;exact x'.o):G:=h ⟨k⟩
theorem Zmc (k:G') (h:Hid G'→G:=by intro x';refine aq0 0 rfl Y1q (by decide) (fun _=>qi (v:=.fn _ _ _) rfl) ?_;exact x'.o):G:=h ⟨k⟩
theorem Zmd (k:G') (h:Hid G'→G:=by intro x';refine aq0 1 rfl Y1q (by decide) (fun _=>qi (v:=.sl _ _ _ _ _) rfl) ?_;exact x'.o):G:=h ⟨k⟩
theorem Zme (k:G') (h:Hid G'→G:=by intro x';refine aqp 3 rfl Y1q (by decide) (fun G=>q12 rfl (lkF hid) rfl rfl rfl (by omega)) ?_;exact x'.o):G:=h ⟨k⟩
theorem Zmf (k:G') (h:Hid G'→G:=by intro x';refine aqp 7 rfl Y1q (by decide) (fun G=>q12 rfl (lkF hid) rfl rfl rfl (by omega)) ?_;exact x'.o):G:=h ⟨k⟩
theorem Zmg (k:G') (h:Hid G'→G:=by intro x';refine aq0 10 rfl Y1q (by decide) (fun _=>qwh rfl rfl) ?_;exact x'.o):G:=h ⟨k⟩
theorem Zmh (h:G:=by exact q1y Y1q Y1b (Out.mk (by (refine congrArg AV.bool ?_;(rw [qp4]))) Yb)):G:=h
theorem Zmi (k:G') (h:Hid G'→G:=by intro x';refine ao1 (by decide) (q1x (r:=(((s+r) / 2+1:Nat):Int)) rfl rfl (qc (by omega) (by omega))) ?_;exact x'.o):G:=h ⟨k⟩
theorem Zmj (k:G') (h:Hid G'→G:=by intro x';refine aqp 9 rfl Y1q (by decide) (fun G=>q1q rfl (lkF hM) rfl (qdw hr2) rfl) ?_;exact x'.o):G:=h ⟨k⟩
theorem Zmk (k:G') (h:Hid G'→G:=by intro x';refine aqp 13 rfl Y1q (by decide) (fun G=>q1q rfl (lkF hM) rfl (qdw hr1) rfl) ?_;exact x'.o):G:=h ⟨k⟩
theorem Zml (k:G') (h:Hid G'→G:=by intro x';refine aqs 15 rfl Y1q Y1b Y1w (q1b (sz:=13) (v:=.agg (qx y)) (r':=qx y) rfl hM rfl (qdw hr1) rfl rfl rfl (Nat.le_of_ble_eq_true rfl) rfl) ?_;exact x'.o):G:=h ⟨k⟩
theorem Zmm (k:G') (h:Hid G'→G:=by intro x';refine aqs 17 rfl Y1q Yw Y1w (q1b (sz:=13) (v:=.agg (qx x)) (r':=qx x) rfl hM2 rfl hr3 rfl rfl rfl (Nat.le_of_ble_eq_true rfl) rfl) ?_;exact x'.o):G:=h ⟨k⟩
theorem Zmn (h:G:=by exact qe (Out.mk (by (refine congrArg AV.bool ?_;((simp_all;done)))) Yb)):G:=h
theorem Zmo (h:G:=by exact qe (Out.mk (by (refine congrArg AV.bool ?_;((simp_all;omega)))) Yb)):G:=h
theorem Zmp (k:G') (h:Hid G'→G:=by intro x';refine ao1 (by decide) (qfu (r:=((2 * k:Nat):Int)) rfl rfl (qc (by omega) (by omega))) ?_;exact x'.o):G:=h ⟨k⟩
theorem Zmq (k:G') (h:Hid G'→G:=by intro x';refine ao1 (by decide) (q1x (r:=((a+k:Nat):Int)) rfl rfl (qc (by omega) (by omega))) ?_;exact x'.o):G:=h ⟨k⟩
theorem Zmr (h:G:=by exact qe (Out.mk (by (refine congrArg AV.bool ?_;(unfold q5c;clear hB hbf hst hr;(simp_all;done)))) Yb)):G:=h
theorem Zms (k:G') (h:Hid G'→G:=by intro x';(try dsimp only [List.length_cons,List.length_nil,Nat.reduceAdd,put,List.set_cons_succ,List.set_cons_zero]);exact x'.o):G:=h ⟨k⟩
theorem Zmt (k:G') (h:Hid G'→G:=by intro x';refine Z4c ?_;refine qe ?_;exact x'.o):G:=h ⟨k⟩
theorem Zmu (k:G') (h:Hid G'→G:=by intro x';refine ao1 (by decide) (q59 rfl (lkF hF) rfl rfl (.some rfl rfl) .none (by omega) (by omega)) ?_;exact x'.o):G:=h ⟨k⟩
theorem Zmv (k:G') (h:Hid G'→G:=by intro x';refine q3i mixed (some 8) 999 ?_;exact x'.o):G:=h ⟨k⟩
theorem Zmw (k:G') (h:Hid G'→G:=by intro x';refine qss [4,3] 3 rfl Y1q (by decide) (fun G=>q1x (r:=((i+1:Nat):Int)) rfl rfl (by rw [show (i:Int)+((1:Nat):Int)=((i+1:Nat):Int) by omega];exact qc (by omega) (by omega))) ?_;exact x'.o):G:=h ⟨k⟩
theorem Zmx (k:G') (h:Hid G'→G:=by intro x';refine aqp 7 rfl Y1q (by decide) (fun G=>q59 rfl (lkF hF) rfl rfl (.some rfl rfl) .none (by omega) (by omega)) ?_;exact x'.o):G:=h ⟨k⟩
theorem Zmy (k:G') (h:Hid G'→G:=by intro x';(try dsimp only [List.take_succ_cons]);exact x'.o):G:=h ⟨k⟩
theorem Zmz (k:G') (h:Hid G'→G:=by intro x';(try dsimp only [List.length_cons,List.length_nil,Nat.reduceAdd,put,List.set_cons_zero]);exact x'.o):G:=h ⟨k⟩
theorem Zn0 (h:G:=by exact qe (Out.mk (by (refine congrArg AV.bool ?_;(simp only [tm];clear hB;(simp_all;done)))) Yb)):G:=h
theorem Zn1 (k:G') (h:Hid G'→G:=by intro x';refine aq0 2 rfl Y1q (by decide) (fun _=>qi (v:=.pl _) rfl) ?_;exact x'.o):G:=h ⟨k⟩
theorem Zn2 (k:G') (h:Hid G'→G:=by intro x';refine aq0 9 rfl Y1q (by decide) (fun _=>q2f (v:=.pl _) rfl rfl) ?_;exact x'.o):G:=h ⟨k⟩
theorem Zn3 (k:G') (h:Hid G'→G:=by intro x';refine Z2y ?_;refine ao1 (by decide) (q7q (cs:=[_,_,_,_,_,_,_]) rfl (lk rfl rfl) rfl rfl rfl rfl) ?_;exact x'.o):G:=h ⟨k⟩
theorem Zn4 (k:G') (h:Hid G'→G:=by intro x';refine q98 16 rfl rfl rfl rfl (by simp) (q1f 0 sb) ?_;exact x'.o):G:=h ⟨k⟩
theorem Zn5 (k:G') (h:Hid G'→G:=by intro x';refine q98 17 rfl rfl rfl rfl (by simp) (q1f 0 sk) ?_;exact x'.o):G:=h ⟨k⟩
theorem Zn6 (k:G') (h:Hid G'→G:=by intro x';refine Zir ?_;(try dsimp only [put]);exact x'.o):G:=h ⟨k⟩
theorem Zn7 (k:G') (h:Hid G'→G:=by intro x';refine ao2 Y1k (q5e (sz:=4) (v:=.agg (qj ⟨w.id,th,t,q21 w.spec t⟩)) (cs:=qj ⟨w.id,th,t,q21 w.spec t⟩) rfl (by decide) (by decide) rfl rfl rfl rfl rfl) ?_;exact x'.o):G:=h ⟨k⟩
theorem Zn8 (k:G') (h:Hid G'→G:=by intro x';refine ao2 Y1k (q47 rfl rfl rfl rfl rfl (Src.pl (ys:=[qj ⟨w.id,th,t,q21 w.spec t⟩]) rfl (by simp)) rfl (by simp) (by simp) Y1x Y1x) ?_;exact x'.o):G:=h ⟨k⟩
theorem Zn9 (k:G') (h:Hid G'→G:=by intro x';refine qss [2,1] 1 rfl Y1q (by decide) (fun G=>qd rfl (lk rfl rfl) rfl (by decide)) ?_;exact x'.o):G:=h ⟨k⟩
theorem Zna (k:G') (h:Hid G'→G:=by intro x';refine aqp 2 rfl Y1q (by decide) (fun G=>qh (v:=.int _ _) rfl (lk rfl rfl) rfl rfl rfl) ?_;exact x'.o):G:=h ⟨k⟩
theorem Znb (k:G') (h:Hid G'→G:=by intro x';refine aq0 3 rfl Y1q (by decide) (fun _=>qi (v:=.pt _ _ _ _) rfl) ?_;exact x'.o):G:=h ⟨k⟩
theorem Znc (k:G') (h:Hid G'→G:=by intro x';refine qss [7,6,5,4] 4 rfl Y1q (by decide) (fun G=>qy rfl (lkF hF) rfl) ?_;exact x'.o):G:=h ⟨k⟩
theorem Znd (k:G') (h:Hid G'→G:=by intro x';refine qss [7,6,5] 5 rfl Y1q (by decide) (fun G=>qd rfl (lkF hF) rfl (by decide)) ?_;exact x'.o):G:=h ⟨k⟩
theorem Zne (k:G') (h:Hid G'→G:=by intro x';refine qss [7,6] 6 rfl Y1q (by decide) (fun G=>qd rfl (lkF hF) rfl (by decide)) ?_;exact x'.o):G:=h ⟨k⟩
theorem Znf (k:G') (h:Hid G'→G:=by intro x';refine aqp 7 rfl Y1q (by decide) (fun G=>qh (v:=.int _ _) rfl (lkF hF) rfl rfl rfl) ?_;exact x'.o):G:=h ⟨k⟩
theorem Zng (k:G') (h:Hid G'→G:=by intro x';(try dsimp only [put,Nat.reduceAdd]);exact x'.o):G:=h ⟨k⟩
theorem Znh (k:G') (h:Hid G'→G:=by intro x';refine aq0 19 rfl Y1q (by decide) (fun _=>q1n (v:=.bool _) rfl rfl) ?_;exact x'.o):G:=h ⟨k⟩
theorem Zni (h:G:=by exact q1y Y1q Y1b (Out.mk (by (refine congrArg AV.bool ?_;(clear hB hst hr hF hF0;(simp_all;done)))) Yb)):G:=h
theorem Znj (k:G') (h:Hid G'→G:=by intro x';(try dsimp only [List.length_cons,List.length_nil,Nat.reduceAdd,AV.up,put,List.set_cons_zero]);exact x'.o):G:=h ⟨k⟩
theorem Znk (k:G') (h:Hid G'→G:=by intro x';refine aq0 7 rfl Y1q (by decide) (fun _=>qi (v:=.pt _ _ _ _) rfl) ?_;exact x'.o):G:=h ⟨k⟩
theorem Znl (k:G') (h:Hid G'→G:=by intro x';(try dsimp only [put,List.length_nil,List.nil_append]);exact x'.o):G:=h ⟨k⟩
theorem Znm (k:G') (h:Hid G'→G:=by intro x';refine qu (qq6 _ _ Y1y) rfl (by decide) ?_;exact x'.o):G:=h ⟨k⟩
theorem Znn (k:G') (h:Hid G'→G:=by intro x';refine Z3v ?_;refine qu (qkj _ _ Y1y Y1y) rfl (by decide) ?_;exact x'.o):G:=h ⟨k⟩
theorem Zno (h:G:=by refine Zhm ?_;exact Z6q):G:=h
theorem Znp (k:G') (h:Hid G'→G:=by intro x';refine Zke ?_;(try dsimp only [List.length_cons,List.length_nil,Nat.reduceAdd,AV.up,put,AV.cells,List.cons_append,List.nil_append]);exact x'.o):G:=h ⟨k⟩
theorem Znq (k:G') (h:Hid G'→G:=by intro x';refine ao2 Y1k (V2.callTS (q83 z (Lid H.length 2) _ hri (by omega) (lk rfl rfl)) rfl rfl) ?_;exact x'.o):G:=h ⟨k⟩
theorem Znr (k:G') (h:Hid G'→G:=by intro x';refine Z15 ?_;refine Z6a ?_;exact x'.o):G:=h ⟨k⟩
theorem Zns (h:G:=by exact q4r hB (q6o rfl (lk rfl rfl) rfl rfl rfl (q2o rfl (q2o rfl .nil))) rfl rfl):G:=h
theorem Znt (h:G:=by refine Znr ?_;exact Zns):G:=h
theorem Znu (k:G') (h:Hid G'→G:=by intro x';refine aqp 1 rfl Y1q (by decide) (fun G=>qy rfl (lk rfl rfl) rfl) ?_;exact x'.o):G:=h ⟨k⟩
theorem Znv (k:G') (h:Hid G'→G:=by intro x';refine aqp 2 rfl Y1q (by decide) (fun G=>qd rfl (lk rfl rfl) rfl (by decide)) ?_;exact x'.o):G:=h ⟨k⟩
theorem Znw (k:G') (h:Hid G'→G:=by intro x';refine aq0 13 rfl Y1q (by decide) (fun _=>qi (v:=.tup _) rfl) ?_;exact x'.o):G:=h ⟨k⟩
theorem Znx (k:G') (h:Hid G'→G:=by intro x';refine aq0 14 rfl Y1q (by decide) (fun _=>q2f (v:=.pl _) rfl rfl) ?_;exact x'.o):G:=h ⟨k⟩
theorem Zny (k:G') (h:Hid G'→G:=by intro x';refine aq0 15 rfl Y1q (by decide) (fun _=>q2f (v:=.int _ _) rfl rfl) ?_;exact x'.o):G:=h ⟨k⟩
theorem Znz (k:G') (h:Hid G'→G:=by intro x';(try dsimp only [Nat.reduceAdd,put,List.set_cons_succ,List.set_cons_zero]);exact x'.o):G:=h ⟨k⟩
theorem Zo0 (k:G') (h:Hid G'→G:=by intro x';refine Zik ?_;refine Zil ?_;exact x'.o):G:=h ⟨k⟩
theorem Zo1 (k:G') (h:Hid G'→G:=by intro x';refine Zq ?_;refine Z2d ?_;exact x'.o):G:=h ⟨k⟩
theorem Zo2 (k:G') (h:Hid G'→G:=by intro x';refine Zo1 ?_;refine Z1x ?_;exact x'.o):G:=h ⟨k⟩
theorem Zo3 (k:G') (h:Hid G'→G:=by intro x';refine Z11 ?_;refine Zg ?_;exact x'.o):G:=h ⟨k⟩
theorem Zo4 (k:G') (h:Hid G'→G:=by intro x';refine q1s (k:=0) 4 1 rfl (by decide) rfl ?_;exact x'.o):G:=h ⟨k⟩
theorem Zo5 (k:G') (h:Hid G'→G:=by intro x';refine q1j rfl rfl (by decide) (q1x (r:=(last:Int)+(far:Int)) rfl rfl (qc (by omega) (by omega))) ?_;exact x'.o):G:=h ⟨k⟩
theorem Zo6 (k:G') (h:Hid G'→G:=by intro x';refine q1j rfl rfl (by decide) (q1x (r:=(last:Int)+(far:Int)+(more:Int)) rfl rfl (by have h1:=of_decide_eq_true hg2;have h2:=of_decide_eq_true hg6;exact qc (by omega) (by omega))) ?_;exact x'.o):G:=h ⟨k⟩
theorem Zo7 (k:G') (h:Hid G'→G:=by intro x';refine Z29 ?_;refine Z5n ?_;exact x'.o):G:=h ⟨k⟩
theorem Zo8 (k:G') (h:Hid G'→G:=by intro x';(repeat (first | refine q7z ?_ | refine q7y ?_ | refine q5u ?_ | refine q9t ?_ | refine q7s ?_ | refine qaa ?_ | refine q7v rfl ?_ | refine q7w ?_ | refine q9y ?_ | refine q115 ?_ | refine qb4 ?_ | refine q86 ?_ | refine q9x ?_ | refine q7k ?_ | refine q121 ?_));exact x'.o):G:=h ⟨k⟩
theorem Zo9 (k:G') (h:Hid G'→G:=by intro x';refine Zo8 ?_;refine qr5 ?_;exact x'.o):G:=h ⟨k⟩
theorem Zoa (k:G') (h:Hid G'→G:=by intro x';refine ao1 (by decide) (qy rfl (lk h1 rfl) rfl) ?_;exact x'.o):G:=h ⟨k⟩
theorem Zob (k:G') (h:Hid G'→G:=by intro x';refine ao1 (by decide) (qd rfl (lk h1 rfl) rfl (by decide)) ?_;exact x'.o):G:=h ⟨k⟩
theorem Zoc (k:G') (h:Hid G'→G:=by intro x';refine ao1 (by decide) (qh (v:=.pl _) rfl (lk h1 rfl) rfl rfl rfl) ?_;exact x'.o):G:=h ⟨k⟩
theorem Zod (k:G') (h:Hid G'→G:=by intro x';refine Z45 ?_;refine ao1 (by decide) (q70 (vs:=[]) (us:=[_]) rfl rfl) ?_;exact x'.o):G:=h ⟨k⟩
theorem Zoe (k:G') (h:Hid G'→G:=by intro x';refine qu (qnd _ b _ hb) rfl (by decide) ?_;exact x'.o):G:=h ⟨k⟩
theorem Zof (h:G:=by refine q23 2 rfl ?_;exact Zi1):G:=h
theorem Zog (k:G') (h:Hid G'→G:=by intro x';refine qu (c1) rfl (by decide) ?_;exact x'.o):G:=h ⟨k⟩
theorem Zoh (k:G') (h:Hid G'→G:=by intro x';refine Zod ?_;refine Zog ?_;exact x'.o):G:=h ⟨k⟩
theorem Zoi (k:G') (h:Hid G'→G:=by intro x';refine Zoh ?_;refine Z4 ?_;exact x'.o):G:=h ⟨k⟩
theorem Zoj (k:G') (h:Hid G'→G:=by intro x';(try dsimp only [List.length_nil,Nat.reduceAdd,put,AV.cells,List.nil_append,List.take_succ_cons,List.take_zero,List.cons_append,List.set_cons_zero]);exact x'.o):G:=h ⟨k⟩
theorem Zok (k:G') (h:Hid G'→G:=by intro x';(try dsimp only [List.length_cons,List.length_nil,Nat.reduceAdd,AV.cells,put]);exact x'.o):G:=h ⟨k⟩
theorem Zol (h:G:=by exact qe (Out.mk (by (refine congrArg AV.bool ?_;(clear hB hstep hq1 hp;rw [Bool.eq_iff_iff];by_cases h0:0<i<;>simp_all))) Yb)):G:=h
theorem Zom (h:G:=by refine Z1d ?_;exact Zof):G:=h
theorem Zon (k:G') (h:Hid G'→G:=by intro x';refine qdq mixed none 1 ?_;exact x'.o):G:=h ⟨k⟩
theorem Zoo (k:G') (h:Hid G'→G:=by intro x';refine aqr 2 rfl Y1q (by decide) (fun G hG=>qh (v:=.int _ _) rfl (lk rfl hG) rfl rfl rfl) ?_;exact x'.o):G:=h ⟨k⟩
theorem Zop (k:G') (h:Hid G'→G:=by intro x';refine ao1 (by decide) (q66 rfl (lk rfl rfl) rfl rfl (by omega) (by omega)) ?_;exact x'.o):G:=h ⟨k⟩
theorem Zoq (k:G') (h:Hid G'→G:=by intro x';refine qp (ys:=(q9k l).map qz) 2 rfl rfl rfl rfl Ym (by simp) (q17 0 _) ?_;exact x'.o):G:=h ⟨k⟩
theorem Zor (k:G') (h:Hid G'→G:=by intro x';refine qu (qf6 _ (by omega) _) rfl (by decide) ?_;exact x'.o):G:=h ⟨k⟩
theorem Zos (k:G') (h:Hid G'→G:=by intro x';refine qu (c1 _) rfl (by decide) ?_;exact x'.o):G:=h ⟨k⟩
theorem Zot (h:G:=by exact qe (Out.mk (by (refine congrArg AV.bool ?_;(clear hB cH c1 c2 hlast hspec;simp only [q3g];by_cases h0:0<n<;>simp_all))) Yb)):G:=h
theorem Zou (k:G') (h:Hid G'→G:=by intro x';refine ao1 (by decide) (q1x (r:=((n+1:Nat):Int)) rfl rfl (qc (by omega) (by omega))) ?_;exact x'.o):G:=h ⟨k⟩
theorem Zov (k:G') (h:Hid G'→G:=by intro x';refine ao1 (by decide) (q1x (r:=((k+1:Nat):Int)) rfl rfl (qc (by omega) (by omega))) ?_;exact x'.o):G:=h ⟨k⟩
theorem Zow (k:G') (h:Hid G'→G:=by intro x';refine ao2 Y1k (q5e (sz:=1) (v:=.int .u8 1) rfl (by decide) (by decide) rfl rfl rfl rfl rfl) ?_;exact x'.o):G:=h ⟨k⟩
theorem Zox (k:G') (h:Hid G'→G:=by intro x';refine ao2 Y1k (q5e (sz:=1) (v:=.int .u8 0) rfl (by decide) (by decide) rfl rfl rfl rfl rfl) ?_;exact x'.o):G:=h ⟨k⟩
theorem Zoy (k:G') (h:Hid G'→G:=by intro x';(try dsimp only [List.length_cons,List.length_nil,Nat.reduceAdd,put,AV.cells,List.cons_append,List.nil_append]);exact x'.o):G:=h ⟨k⟩
theorem Zoz (k:G') (h:Hid G'→G:=by intro x';refine ao2 Y1k (V2.callo3 (k:=1) (c1 _ (Lid H.length 1) (lk rfl rfl)) rfl rfl) ?_;exact x'.o):G:=h ⟨k⟩
theorem Zp0 (k:G') (h:Hid G'→G:=by intro x';refine Z2 ?_;refine Zov ?_;exact x'.o):G:=h ⟨k⟩
theorem Zp1 (k:G') (h:Hid G'→G:=by intro x';refine Zp0 ?_;refine Z51 ?_;exact x'.o):G:=h ⟨k⟩
theorem Zp2 (k:G') (h:Hid G'→G:=by intro x';refine qdq mixed none 0 ?_;exact x'.o):G:=h ⟨k⟩
theorem Zp3 (k:G') (h:Hid G'→G:=by intro x';refine aqr 1 rfl Y1q (by decide) (fun G hG=>qd rfl (lk rfl hG) rfl (by decide)) ?_;exact x'.o):G:=h ⟨k⟩
theorem Zp4 (k:G') (h:Hid G'→G:=by intro x';refine aqr 5 rfl Y1q (by decide) (fun G hG=>qd rfl (lk rfl hG) rfl (by decide)) ?_;exact x'.o):G:=h ⟨k⟩
theorem Zp5 (k:G') (h:Hid G'→G:=by intro x';refine aqr 6 rfl Y1q (by decide) (fun G hG=>qh (v:=.int _ _) rfl (lk rfl hG) rfl rfl rfl) ?_;exact x'.o):G:=h ⟨k⟩
theorem Zp6 (k:G') (h:Hid G'→G:=by intro x';refine qp (ys:=(q2t s).map qz) 2 rfl rfl rfl rfl Ym (by simp) (q17 0 _) ?_;exact x'.o):G:=h ⟨k⟩
theorem Zp7 (k:G') (h:Hid G'→G:=by intro x';refine qu (qlx _ _ Y1y) rfl (by decide) ?_;exact x'.o):G:=h ⟨k⟩
theorem Zp8 (k:G') (h:Hid G'→G:=by intro x';refine Z8s ?_;refine Znz ?_;exact x'.o):G:=h ⟨k⟩
theorem Zp9 (k:G') (h:Hid G'→G:=by intro x';(try dsimp only [Nat.reduceAdd,AV.cells,put,List.set_cons_succ,List.set_cons_zero]);exact x'.o):G:=h ⟨k⟩
theorem Zpa (k:G') (h:Hid G'→G:=by intro x';refine ao1 (by decide) (qn (r:=(zig s.prio:Int)) rfl Y14) ?_;exact x'.o):G:=h ⟨k⟩
theorem Zpb (k:G') (h:Hid G'→G:=by intro x';refine qu (c5 _) rfl (by decide) ?_;exact x'.o):G:=h ⟨k⟩
theorem Zpc (k:G') (h:Hid G'→G:=by intro x';refine ao2 Y1k (q3t (bs:=b7) (cs:=q2m (zig s.prio)) (en:=qz) rfl rfl rfl (Src.pl rfl (qo _)) rfl (by omega) (by omega)) ?_;exact x'.o):G:=h ⟨k⟩
theorem Zpd (k:G') (h:Hid G'→G:=by intro x';refine ao1 (by decide) (qz7 (r:=((n / 2:Nat):Int)) rfl rfl (by decide) (by rw [hdiv];exact qc (by omega) (by omega))) ?_;exact x'.o):G:=h ⟨k⟩
theorem Zpe (k:G') (h:Hid G'→G:=by intro x';refine ao2 Y1k (q3y (sz:=7) rfl (by decide) rfl) ?_;exact x'.o):G:=h ⟨k⟩
theorem Zpf (k:G') (h:Hid G'→G:=by intro x';refine ao1 (by decide) (qd rfl (lk (q3x _ _ _ _) rfl) rfl (by decide)) ?_;exact x'.o):G:=h ⟨k⟩
theorem Zpg (k:G') (h:Hid G'→G:=by intro x';refine ao2 Y1w (q1k (sz:=1) (v:=.int _ _) (r':=[_,_,_,_,_,_,_]) rfl (q3x _ _ _ _) rfl rfl rfl rfl rfl rfl (Nat.le_of_ble_eq_true rfl) rfl) ?_;exact x'.o):G:=h ⟨k⟩
theorem Zph (k:G') (h:Hid G'→G:=by intro x';refine ao1 (by decide) (q1q rfl (lk (q3x _ _ _ _) rfl) rfl rfl rfl) ?_;exact x'.o):G:=h ⟨k⟩
theorem Zpi (k:G') (h:Hid G'→G:=by intro x';refine qu (cr _) rfl (by decide) ?_;exact x'.o):G:=h ⟨k⟩
theorem Zpj (k:G') (h:Hid G'→G:=by intro x';refine ao1 (by decide) (V1.up (q3w (cs:=[.int _ _,.int _ _,.int _ _,.str _,.bool _,.int _ _,.int _ _]) rfl)) ?_;exact x'.o):G:=h ⟨k⟩
theorem Zpk (k:G') (h:Hid G'→G:=by intro x';refine ao2 Y1w (q2q (sz:=7) rfl rfl rfl rfl rfl rfl rfl rfl (Nat.le_of_ble_eq_true rfl)) ?_;exact x'.o):G:=h ⟨k⟩
theorem Zpl (h:G:=by exact qe (Out.mk (by (refine congrArg AV.bool ?_;(simp only [q44];(simp_all;done)))) Yb)):G:=h
theorem Zpm (h:G:=by exact qe (Out.mk (by (refine congrArg AV.bool ?_;(simp only [q44];((refine Bool.eq_iff_iff.mpr ?_;simp only [Bool.and_eq_true,Bool.or_eq_true,Bool.not_eq_true',decide_eq_true_eq,decide_eq_false_iff_not,beq_iff_eq,bne_iff_ne,beq_eq_false_iff_ne,Bool.false_eq_true,Bool.true_eq_false,Bool.and_eq_false_iff,Bool.or_eq_false_iff,List.length_map,false_iff,true_iff,iff_true,iff_false] at *;omega))))) Yb)):G:=h
theorem Zpn (k:G') (h:Hid G'→G:=by intro x';refine qu (qoj _ _) rfl (by decide) ?_;exact x'.o):G:=h ⟨k⟩
theorem Zpo (h:G:=by exact qe (Out.mk (by (refine congrArg AV.bool ?_;(simp only [tm];(simp_all;done)))) Yb)):G:=h
theorem Zpp (h:G:=by exact qe (Out.mk (by (refine congrArg AV.bool ?_;(simp only [tm];((refine Bool.eq_iff_iff.mpr ?_;simp only [Bool.and_eq_true,Bool.or_eq_true,Bool.not_eq_true',decide_eq_true_eq,decide_eq_false_iff_not,beq_iff_eq,bne_iff_ne,beq_eq_false_iff_ne,Bool.false_eq_true,Bool.true_eq_false,Bool.and_eq_false_iff,Bool.or_eq_false_iff,List.length_map,false_iff,true_iff,iff_true,iff_false] at *;omega))))) Yb)):G:=h
theorem Zpq (h:G:=by exact qe (Out.mk (by (refine congrArg AV.bool ?_;(clear hB;((simp_all;omega))))) Yb)):G:=h
theorem Zpr (k:G') (h:Hid G'→G:=by intro x';refine ao1 (by decide) (qn (r:=o.kind) rfl Y18) ?_;exact x'.o):G:=h ⟨k⟩
theorem Zps (k:G') (h:Hid G'→G:=by intro x';refine ao2 Y1k (q2c (sz:=1) (v:=.int .u8 o.kind) rfl (by decide) (by decide) rfl rfl rfl rfl rfl) ?_;exact x'.o):G:=h ⟨k⟩
theorem Zpt (k:G') (h:Hid G'→G:=by intro x';refine aqr 3 rfl Y1q (by decide) (fun G hG=>qd rfl (lk rfl hG) rfl (by decide)) ?_;exact x'.o):G:=h ⟨k⟩
theorem Zpu (k:G') (h:Hid G'→G:=by intro x';refine aqr 4 rfl Y1q (by decide) (fun G hG=>qh (v:=.pl _) rfl (lk rfl hG) rfl rfl rfl) ?_;exact x'.o):G:=h ⟨k⟩
theorem Zpv (k:G') (h:Hid G'→G:=by intro x';refine aqr 5 rfl Y1q (by decide) (fun G hG=>qhc rfl) ?_;exact x'.o):G:=h ⟨k⟩
theorem Zpw (k:G') (h:Hid G'→G:=by intro x';refine aq0 6 rfl Y1q (by decide) (fun _=>qn (r:=(o.needs.length:Int)) rfl (by rw [List.length_map,IntKind.wrap_u8];omega)) ?_;exact x'.o):G:=h ⟨k⟩
theorem Zpx (k:G') (h:Hid G'→G:=by intro x';refine q9b 7 rfl Y1q (by decide) (fun _=>q5e (sz:=1) (v:=.int .u8 (o.needs.length:Int)) rfl (by decide) (by decide) rfl rfl rfl rfl rfl) ?_;exact x'.o):G:=h ⟨k⟩
theorem Zpy (k:G') (h:Hid G'→G:=by intro x';refine aqs 2 rfl Y1q Y15 Y1k (q3t (bs:=[kb]) (cs:=q2t o.spec) (en:=qz) rfl rfl rfl (Src.pl rfl (qo _)) rfl Y1x Y1x) ?_;exact x'.o):G:=h ⟨k⟩
theorem Zpz (k:G') (h:Hid G'→G:=by intro x';refine aqs 8 rfl Y1q Y15 Y1k (q3t (bs:=[kb]++q2t o.spec) (cs:=[UInt8.ofNat o.needs.length]) (en:=qz) rfl rfl rfl (Src.pl (ys:=[qz (UInt8.ofNat o.needs.length)]) Y11 (qo [_])) rfl Y1x Y1x) ?_;exact x'.o):G:=h ⟨k⟩
theorem Zq0 (k:G') (h:Hid G'→G:=by intro x';refine aq0 9 rfl Y1q (by decide) (fun _=>q11 (v:=.sl _ _ _ _ _) rfl) ?_;exact x'.o):G:=h ⟨k⟩
theorem Zq1 (k:G') (h:Hid G'→G:=by intro x';(try dsimp only [Nat.reduceAdd,AV.cells,List.cons_append,List.nil_append,List.length_cons,put,List.set_cons_succ,List.set_cons_zero]);exact x'.o):G:=h ⟨k⟩
theorem Zq2 (k:G') (h:Hid G'→G:=by intro x';refine qp (ys:=(b0++q3b o.needs).map qz) 2 rfl rfl rfl rfl Ym (by simp) (q17 0 _) ?_;exact x'.o):G:=h ⟨k⟩
theorem Zq3 (k:G') (h:Hid G'→G:=by intro x';(try dsimp only [Nat.reduceAdd,List.length_cons,List.length_nil,put,List.cons_append,List.nil_append,List.set_cons_succ,List.set_cons_zero]);exact x'.o):G:=h ⟨k⟩
theorem Zq4 (k:G') (h:Hid G'→G:=by intro x';refine ao1 (by decide) (qn (r:=((o.at_.toNat:Nat):Int)) rfl Y14) ?_;exact x'.o):G:=h ⟨k⟩
theorem Zq5 (k:G') (h:Hid G'→G:=by intro x';refine ao1 (by decide) (qd rfl (lkF hF2) rfl (by decide)) ?_;exact x'.o):G:=h ⟨k⟩
theorem Zq6 (k:G') (h:Hid G'→G:=by intro x';refine ao1 (by decide) (qfu (r:=((4 * m:Nat):Int)) rfl rfl (by rw [show (4:Int) * (m:Int)=((4 * m:Nat):Int) by omega];exact qc (by omega) (by omega))) ?_;exact x'.o):G:=h ⟨k⟩
theorem Zq7 (k:G') (h:Hid G'→G:=by intro x';refine ao1 (by decide) (q1x (r:=((m+1:Nat):Int)) rfl rfl (qc (by omega) (by omega))) ?_;exact x'.o):G:=h ⟨k⟩
theorem Zq8 (k:G') (h:Hid G'→G:=by intro x';refine ao2 Y1k (V2.call (cs _) rfl) ?_;exact x'.o):G:=h ⟨k⟩
theorem Zq9 (k:G') (h:Hid G'→G:=by intro x';refine q1j rfl rfl (by decide) (q11q (us:=qrz a.spec) (vs:=qrz b.spec) rfl rfl rfl rfl Y1z (qrk _ _)) ?_;exact x'.o):G:=h ⟨k⟩
theorem Zqa (k:G') (h:Hid G'→G:=by intro x';refine Z55 ?_;refine Z3q ?_;exact x'.o):G:=h ⟨k⟩
theorem Zqb (k:G') (h:Hid G'→G:=by intro x';refine Zq ?_;refine Zcb ?_;exact x'.o):G:=h ⟨k⟩
theorem Zqc (k:G') (h:Hid G'→G:=by intro x';refine Zqb ?_;refine Zcb ?_;exact x'.o):G:=h ⟨k⟩
theorem Zqd (k:G') (h:Hid G'→G:=by intro x';refine Zqc ?_;refine Zcb ?_;exact x'.o):G:=h ⟨k⟩
theorem Zqe (k:G') (h:Hid G'→G:=by intro x';refine ao1 (by decide) (V1.up (q3w (cs:=[.int _ _,.int _ _,.int _ _,.int _ _,.str _,.bool _,.int _ _,.int _ _,_,.int _ _,.int _ _,.int _ _,_]) rfl)) ?_;exact x'.o):G:=h ⟨k⟩
theorem Zqf (k:G') (h:Hid G'→G:=by intro x';(try dsimp only [put,Nat.reduceAdd,AV.up,List.set_cons_zero,List.set_cons_succ]);exact x'.o):G:=h ⟨k⟩
theorem Zqg (k:G') (h:Hid G'→G:=by intro x';(try dsimp only [put,AV.up,Nat.reduceAdd,List.set_cons_zero,List.set_cons_succ]);exact x'.o):G:=h ⟨k⟩
theorem Zqh (k:G') (h:Hid G'→G:=by intro x';refine aqp 1 rfl Y1q (by decide) (fun G=>q4n rfl rfl (by decide) hc0 rfl) ?_;exact x'.o):G:=h ⟨k⟩
theorem Zqi (k:G') (h:Hid G'→G:=by intro x';refine aqp 2 rfl Y1q (by decide) (fun G=>q29 (v:=.int _ _) rfl hc0 rfl) ?_;exact x'.o):G:=h ⟨k⟩
theorem Zqj (k:G') (h:Hid G'→G:=by intro x';refine aq0 3 rfl Y1q (by decide) (fun _=>qn (r:=(c.toNat:Int)) rfl (qc (by omega) (by omega))) ?_;exact x'.o):G:=h ⟨k⟩
theorem Zqk (k:G') (h:Hid G'→G:=by intro x';refine aq0 5 rfl Y1q (by decide) (fun _=>qi (v:=.pl _) rfl) ?_;exact x'.o):G:=h ⟨k⟩
theorem Zql (k:G') (h:Hid G'→G:=by intro x';refine aat rfl Y1k (q8z (sz:=2) (v:=.agg _) rfl rfl rfl rfl (by decide) rfl) ?_;exact x'.o):G:=h ⟨k⟩
theorem Zqm (k:G') (h:Hid G'→G:=by intro x';refine aqs 10 rfl Y1q Y1b Y1w (q2q (sz:=13) rfl rfl rfl rfl rfl rfl rfl rfl (Nat.le_of_ble_eq_true rfl)) ?_;exact x'.o):G:=h ⟨k⟩
theorem Zqn (k:G') (h:Hid G'→G:=by intro x';refine aq0 11 rfl Y1q (by decide) (fun _=>q11 (v:=.pt _ _ _ _) rfl) ?_;exact x'.o):G:=h ⟨k⟩
theorem Zqo (k:G') (h:Hid G'→G:=by intro x';refine ao1 (by decide) (qy rfl (lkF hF1) rfl) ?_;exact x'.o):G:=h ⟨k⟩
theorem Zqp (k:G') (h:Hid G'→G:=by intro x';refine ao1 (by decide) (qd rfl (lkF hF1) rfl (by decide)) ?_;exact x'.o):G:=h ⟨k⟩
theorem Zqq (k:G') (h:Hid G'→G:=by intro x';refine ao1 (by decide) (qh (v:=.pl _) rfl (lkF hF1) rfl rfl rfl) ?_;exact x'.o):G:=h ⟨k⟩
theorem Zqr (k:G') (h:Hid G'→G:=by intro x';refine ao1 (by decide) (qd rfl (lkF hI1.op) rfl (by decide)) ?_;exact x'.o):G:=h ⟨k⟩
theorem Zqs (k:G') (h:Hid G'→G:=by intro x';refine ao1 (by decide) (qy rfl (lkF hI2.rd) rfl) ?_;exact x'.o):G:=h ⟨k⟩
theorem Zqt (k:G') (h:Hid G'→G:=by intro x';refine ao1 (by decide) (qd rfl (lkF hI2.rd) rfl (by decide)) ?_;exact x'.o):G:=h ⟨k⟩
theorem Zqu (k:G') (h:Hid G'→G:=by intro x';refine ao1 (by decide) (qy rfl (lkF hI3.rd) rfl) ?_;exact x'.o):G:=h ⟨k⟩
theorem Zqv (k:G') (h:Hid G'→G:=by intro x';refine ao1 (by decide) (qd rfl (lkF hI3.rd) rfl (by decide)) ?_;exact x'.o):G:=h ⟨k⟩
theorem Zqw (k:G') (h:Hid G'→G:=by intro x';refine ao2 Y1k (V2.callF (qaq r false 8 (by decide) _ q 0 (lkF hI.rd)) rfl hI.rd) ?_;exact x'.o):G:=h ⟨k⟩
theorem Zqx (k:G') (h:Hid G'→G:=by intro x';refine ao1 (by decide) (qn (r:=IntKind.i64.wrap (rnV r 8:Int)) rfl rfl) ?_;exact x'.o):G:=h ⟨k⟩
theorem Zqy (k:G') (h:Hid G'→G:=by intro x';refine ao2 Y1w (q1b (sz:=1) (v:=.int .i64 (IntKind.i64.wrap (rnV r 8:Int))) (r':=eOp ⟨c.toNat,q2e,[],0,0,IntKind.i64.wrap (rnV r 8:Int),[]⟩) rfl hI1.op rfl rfl rfl rfl rfl (Nat.le_of_ble_eq_true rfl) rfl) ?_;exact x'.o):G:=h ⟨k⟩
theorem Zqz (k:G') (h:Hid G'→G:=by intro x';refine ao2 Y1k (V2.call (cr _) rfl) ?_;exact x'.o):G:=h ⟨k⟩
theorem Zr0 (k:G') (h:Hid G'→G:=by intro x';refine ao1 (by decide) (qd rfl (lkF hI2.op) rfl (by decide)) ?_;exact x'.o):G:=h ⟨k⟩
theorem Zr1 (k:G') (h:Hid G'→G:=by intro x';refine ao2 Y1w (q1b (sz:=1) (v:=.pl (l.map eI)) (r':=eOp ⟨c.toNat,q2e,[],0,0,IntKind.i64.wrap (rnV r 8:Int),l⟩) rfl hI2.op rfl rfl rfl rfl rfl (Nat.le_of_ble_eq_true rfl) rfl) ?_;exact x'.o):G:=h ⟨k⟩
theorem Zr2 (k:G') (h:Hid G'→G:=by intro x';refine ao1 (by decide) (qy rfl (lkF hI4.rd) rfl) ?_;exact x'.o):G:=h ⟨k⟩
theorem Zr3 (k:G') (h:Hid G'→G:=by intro x';refine ao1 (by decide) (qd rfl (lkF hI4.rd) rfl (by decide)) ?_;exact x'.o):G:=h ⟨k⟩
theorem Zr4 (k:G') (h:Hid G'→G:=by intro x';refine ao2 Y1w (qbv (sz:=1) (v:=.pl []) (r':=[.pl [],.bool (rnB r 8 false||decide (e≠0))]) rfl hI4.rd rfl rfl rfl rfl rfl (Nat.le_of_ble_eq_true rfl) rfl) ?_;exact x'.o):G:=h ⟨k⟩
theorem Zr5 (h:G:=by exact qe (Out.mk (by (refine congrArg AV.bool ?_;(clear hB hI hF hF1 hs hfin hlast;(simp_all;done)))) Yb)):G:=h
theorem Zr6 (k:G') (h:Hid G'→G:=by intro x';refine q1j rfl rfl (by decide) (qd rfl (lkF hF1) rfl (by decide)) ?_;exact x'.o):G:=h ⟨k⟩
theorem Zr7 (k:G') (h:Hid G'→G:=by intro x';refine q1j rfl rfl (by decide) (qh (v:=.pl _) rfl (lkF hF1) rfl rfl rfl) ?_;exact x'.o):G:=h ⟨k⟩
theorem Zr8 (h:G:=by exact q4r hB (q6o rfl (lk rfl (hlast _)) rfl rfl rfl (q2o rfl .nil)) rfl rfl):G:=h
theorem Zr9 (k:G') (h:Hid G'→G:=by intro x';refine ao2 Y1k (qaw (sz:=1)) ?_;exact x'.o):G:=h ⟨k⟩
theorem Zra (k:G') (h:Hid G'→G:=by intro x';refine ao1 (by decide) (q9d rfl) ?_;exact x'.o):G:=h ⟨k⟩
theorem Zrb (k:G') (h:Hid G'→G:=by intro x';refine ao1 (by decide) (qmv (r:=((n / 256:Nat):Int)) rfl rfl (by decide) (q14l n)) ?_;exact x'.o):G:=h ⟨k⟩
theorem Zrc (k:G') (h:Hid G'→G:=by intro x';refine ao1 (by decide) (qn (r:=((n / 256:Nat):Int)) rfl Y18) ?_;exact x'.o):G:=h ⟨k⟩
theorem Zrd (k:G') (h:Hid G'→G:=by intro x';refine ao1 (by decide) (qn (r:=((n % 256:Nat):Int)) rfl Y18) ?_;exact x'.o):G:=h ⟨k⟩
theorem Zre (h:G:=by exact qe (Out.mk (by (refine congrArg AV.bool ?_;(simp only [okE];grind))) Yb)):G:=h
theorem Zrf (k:G') (h:Hid G'→G:=by intro x';refine aq0 6 rfl Y1q (by decide) (fun _=>qi (v:=.bool _) rfl) ?_;exact x'.o):G:=h ⟨k⟩
theorem Zrg (k:G') (h:Hid G'→G:=by intro x';refine q15 (g:=27) 7 rfl Y1q (by decide) rfl rfl rfl ?_;exact x'.o):G:=h ⟨k⟩
theorem Zrh (k:G') (h:Hid G'→G:=by intro x';refine q15 (g:=27) 8 rfl Y1q (by decide) rfl rfl rfl ?_;exact x'.o):G:=h ⟨k⟩
theorem Zri (k:G') (h:Hid G'→G:=by intro x';refine q15 (g:=27) 9 rfl Y1q (by decide) rfl rfl rfl ?_;exact x'.o):G:=h ⟨k⟩
theorem Zrj (k:G') (h:Hid G'→G:=by intro x';refine q15 (g:=27) 10 rfl Y1q (by decide) rfl rfl rfl ?_;exact x'.o):G:=h ⟨k⟩
theorem Zrk (k:G') (h:Hid G'→G:=by intro x';refine q15 (g:=27) 11 rfl Y1q (by decide) rfl rfl rfl ?_;exact x'.o):G:=h ⟨k⟩
theorem Zrl (k:G') (h:Hid G'→G:=by intro x';refine q15 (g:=34) 14 rfl Y1q (by decide) rfl rfl rfl ?_;exact x'.o):G:=h ⟨k⟩
theorem Zrm (k:G') (h:Hid G'→G:=by intro x';refine q15 (g:=34) 15 rfl Y1q (by decide) rfl rfl rfl ?_;exact x'.o):G:=h ⟨k⟩
theorem Zrn (k:G') (h:Hid G'→G:=by intro x';refine q15 (g:=34) 16 rfl Y1q (by decide) rfl rfl rfl ?_;exact x'.o):G:=h ⟨k⟩
theorem Zro (k:G') (h:Hid G'→G:=by intro x';refine q15 (g:=34) 17 rfl Y1q (by decide) rfl rfl rfl ?_;exact x'.o):G:=h ⟨k⟩
theorem Zrp (k:G') (h:Hid G'→G:=by intro x';refine q15 (g:=34) 18 rfl Y1q (by decide) rfl rfl rfl ?_;exact x'.o):G:=h ⟨k⟩
theorem Zrq (k:G') (h:Hid G'→G:=by intro x';refine q15 (g:=34) 19 rfl Y1q (by decide) rfl rfl rfl ?_;exact x'.o):G:=h ⟨k⟩
theorem Zrr (k:G') (h:Hid G'→G:=by intro x';refine q15 (g:=34) 20 rfl Y1q (by decide) rfl rfl rfl ?_;exact x'.o):G:=h ⟨k⟩
theorem Zrs (k:G') (h:Hid G'→G:=by intro x';refine q15 (g:=34) 21 rfl Y1q (by decide) rfl rfl rfl ?_;exact x'.o):G:=h ⟨k⟩
theorem Zrt (k:G') (h:Hid G'→G:=by intro x';refine q15 (g:=34) 22 rfl Y1q (by decide) rfl rfl rfl ?_;exact x'.o):G:=h ⟨k⟩
theorem Zru (k:G') (h:Hid G'→G:=by intro x';refine q15 (g:=34) 23 rfl Y1q (by decide) rfl rfl rfl ?_;exact x'.o):G:=h ⟨k⟩
theorem Zrv (k:G') (h:Hid G'→G:=by intro x';refine q15 (g:=34) 24 rfl Y1q (by decide) rfl rfl rfl ?_;exact x'.o):G:=h ⟨k⟩
theorem Zrw (k:G') (h:Hid G'→G:=by intro x';refine q15 (g:=34) 25 rfl Y1q (by decide) rfl rfl rfl ?_;exact x'.o):G:=h ⟨k⟩
theorem Zrx (h:G:=by exact q1y Y1q Y1b (Out.mk (by (refine congrArg AV.bool ?_;(rw [hN];clear hB hN hNx hb;(simp_all;omega)))) Yb)):G:=h
theorem Zry (k:G') (h:Hid G'→G:=by intro x';refine ao2 Y1k (V2.call (cn _) rfl) ?_;exact x'.o):G:=h ⟨k⟩
theorem Zrz (k:G') (h:Hid G'→G:=by intro x';refine ao2 Y1k (V2.call (c1 _) rfl) ?_;exact x'.o):G:=h ⟨k⟩
theorem Zs0 (k:G') (h:Hid G'→G:=by intro x';(try dsimp only [Nat.reduceAdd,List.cons_append,List.nil_append,List.length_cons,put,List.set_cons_succ,List.set_cons_zero]);exact x'.o):G:=h ⟨k⟩
theorem Zs1 (k:G') (h:Hid G'→G:=by intro x';refine ao2 Y1k (q3t (bs:=[kb]) (cs:=big 8 o.at_.toNat) (en:=qz) rfl rfl rfl (Src.pl rfl (qo _)) rfl Y1x Y1x) ?_;exact x'.o):G:=h ⟨k⟩
theorem Zs2 (k:G') (h:Hid G'→G:=by intro x';(try dsimp only [List.cons_append,List.nil_append,List.length_nil,put]);exact x'.o):G:=h ⟨k⟩
theorem Zs3 (k:G') (h:Hid G'→G:=by intro x';refine ao1 (by decide) (V1.up (q3w (cs:=[_,.int _ _,.int _ _,_,_,_,_,.int _ _,_,_,.int _ _,.int _ _,.int _ _]) rfl)) ?_;exact x'.o):G:=h ⟨k⟩
theorem Zs4 (k:G') (h:Hid G'→G:=by intro x';(try dsimp only [Nat.reduceAdd,put,List.set_cons_zero,List.set_cons_succ]);exact x'.o):G:=h ⟨k⟩
theorem Zs5 (k:G') (h:Hid G'→G:=by intro x';(try dsimp only [List.cons_append,List.nil_append,List.length_nil,put,AV.cells,List.length_cons,Nat.reduceAdd]);exact x'.o):G:=h ⟨k⟩
theorem Zs6 (h:G:=by exact qe (Out.mk (by (refine congrArg AV.bool ?_;(clear hB he;(simp_all;done)))) Yb)):G:=h
theorem Zs7 (h:G:=by refine Zcc ?_;exact Zs6):G:=h
theorem Zs8 (k:G') (h:Hid G'→G:=by intro x';refine ao1 (by decide) (q16 rfl rfl hr1 rfl) ?_;exact x'.o):G:=h ⟨k⟩
theorem Zs9 (k:G') (h:Hid G'→G:=by intro x';refine ao1 (by decide) (q94 rfl hr1 rfl) ?_;exact x'.o):G:=h ⟨k⟩
theorem Zsa (k:G') (h:Hid G'→G:=by intro x';refine ao2 Y1k (V2.callv (hF x hxl y _) rfl rfl) ?_;exact x'.o):G:=h ⟨k⟩
theorem Zsb (k:G') (h:Hid G'→G:=by intro x';(repeat (first | refine qec ?_ | refine qen ?_ | refine q7z ?_ | refine q7y ?_ | refine q5u ?_ | refine q9t ?_ | refine q7s ?_ | refine qaa ?_ | refine q7v rfl ?_ | refine q7w ?_ | refine q9y ?_ | refine qaj ?_ | refine qb4 ?_ | refine q86 ?_ | refine q9x ?_ | refine q7k ?_ | refine q2z ?_));exact x'.o):G:=h ⟨k⟩
theorem Zsc (k:G') (h:Hid G'→G:=by intro x';refine Zsb ?_;refine q18 ?_;exact x'.o):G:=h ⟨k⟩
theorem Zsd (k:G') (h:Hid G'→G:=by intro x';refine ao1 (by decide) (q11 (v:=.fn _ _ _) rfl) ?_;exact x'.o):G:=h ⟨k⟩
theorem Zse (k:G') (h:Hid G'→G:=by intro x';refine aat rfl Y1k (q3y (sz:=9) rfl (by decide) rfl) ?_;exact x'.o):G:=h ⟨k⟩
theorem Zsf (k:G') (h:Hid G'→G:=by intro x';refine aqs 6 rfl Y1q Y1b Y1w (q2q (sz:=9) rfl rfl rfl rfl rfl rfl rfl rfl (Nat.le_of_ble_eq_true rfl)) ?_;exact x'.o):G:=h ⟨k⟩
theorem Zsg (k:G') (h:Hid G'→G:=by intro x';refine aqs 7 rfl Y1q Y1b Y1w (q2q (sz:=9) rfl rfl rfl rfl rfl rfl rfl rfl (Nat.le_of_ble_eq_true rfl)) ?_;exact x'.o):G:=h ⟨k⟩
theorem Zsh (k:G') (h:Hid G'→G:=by intro x';(try dsimp only [put,List.cons_append,List.nil_append,List.length_cons,List.length_nil,Nat.reduceAdd,List.set_cons_zero,List.set_cons_succ]);exact x'.o):G:=h ⟨k⟩
theorem Zsi (k:G') (h:Hid G'→G:=by intro x';refine qu (qi2 _ _ (by omega) _) rfl (by decide) ?_;exact x'.o):G:=h ⟨k⟩
theorem Zsj (k:G') (h:Hid G'→G:=by intro x';refine q1j rfl rfl (by decide) (qd rfl (lkF hF2) rfl (by decide)) ?_;exact x'.o):G:=h ⟨k⟩
theorem Zsk (k:G') (h:Hid G'→G:=by intro x';refine q1j rfl rfl (by decide) (qh (v:=.int _ _) rfl (lkF hF2) rfl rfl rfl) ?_;exact x'.o):G:=h ⟨k⟩
theorem Zsl (k:G') (h:Hid G'→G:=by intro x';refine q1j rfl rfl (by decide) (qd rfl (lkF hF3) rfl (by decide)) ?_;exact x'.o):G:=h ⟨k⟩
theorem Zsm (k:G') (h:Hid G'→G:=by intro x';refine q1j rfl rfl (by decide) (qh (v:=.int _ _) rfl (lkF hF3) rfl rfl rfl) ?_;exact x'.o):G:=h ⟨k⟩
theorem Zsn (h:G:=by exact qe (Out.mk (by (refine congrArg AV.bool ?_;(clear hB w7 w8 hF hF1 hF2 hF3 hs;(simp_all;done)))) Yb)):G:=h
theorem Zso (h:G:=by refine Zcc ?_;exact Zsn):G:=h
theorem Zsp (k:G') (h:Hid G'→G:=by intro x';refine q1j rfl rfl (by decide) (qh (v:=.pl _) rfl (lkF hF) rfl rfl rfl) ?_;exact x'.o):G:=h ⟨k⟩
theorem Zsq (k:G') (h:Hid G'→G:=by intro x';refine q6d rfl rfl (by decide) (V2.call (q7u _ _ (by omega) _) rfl) ?_;exact x'.o):G:=h ⟨k⟩
theorem Zsr (k:G') (h:Hid G'→G:=by intro x';refine q1j rfl rfl (by decide) (qh (v:=.int _ _) rfl (lkF hF) rfl rfl rfl) ?_;exact x'.o):G:=h ⟨k⟩
theorem Zss (k:G') (h:Hid G'→G:=by intro x';refine q1j rfl rfl (by decide) (qh (v:=.int _ _) rfl (lkF hF1) rfl rfl rfl) ?_;exact x'.o):G:=h ⟨k⟩
theorem Zst (k:G') (h:Hid G'→G:=by intro x';(try dsimp only [List.cons_append,List.nil_append,put,List.length_cons,List.length_nil,Nat.reduceAdd,List.set_cons_zero,List.set_cons_succ]);exact x'.o):G:=h ⟨k⟩
theorem Zsu (k:G') (h:Hid G'→G:=by intro x';refine ao1 (by decide) (V1.up (q3w (cs:=[.int _ _,.int _ _,.str _]) rfl)) ?_;exact x'.o):G:=h ⟨k⟩
theorem Zsv (k:G') (h:Hid G'→G:=by intro x';(try dsimp only [AV.up,put]);exact x'.o):G:=h ⟨k⟩
theorem Zsw (h:G:=by refine Zt ?_;exact qe (Out.mk (by (refine congrArg AV.bool ?_;(clear hB c1 c2 c3 c4 c5;(simp_all;done)))) Yb)):G:=h
theorem Zsx (k:G') (h:Hid G'→G:=by intro x';refine Z5n ?_;refine Zcb ?_;exact x'.o):G:=h ⟨k⟩
theorem Zsy (h:G:=by refine Zsx ?_;exact Zsw):G:=h
theorem Zsz (h:G:=by exact q1y Y1q Y1b (Out.mk (by (refine congrArg AV.bool ?_;(clear hB c1 c2 c3 cr cp;simp_all))) Yb)):G:=h
theorem Zt0 (k:G') (h:Hid G'→G:=by intro x';refine aq0 15 rfl Y1q (by decide) (fun _=>q11 (v:=.bool _) rfl) ?_;exact x'.o):G:=h ⟨k⟩
theorem Zt1 (k:G') (h:Hid G'→G:=by intro x';refine q15 (g:=89) 10 rfl Y1q (by decide) rfl rfl rfl ?_;exact x'.o):G:=h ⟨k⟩
theorem Zt2 (k:G') (h:Hid G'→G:=by intro x';refine q15 (g:=89) 11 rfl Y1q (by decide) rfl rfl rfl ?_;exact x'.o):G:=h ⟨k⟩
theorem Zt3 (k:G') (h:Hid G'→G:=by intro x';refine q15 (g:=89) 12 rfl Y1q (by decide) rfl rfl rfl ?_;exact x'.o):G:=h ⟨k⟩
theorem Zt4 (k:G') (h:Hid G'→G:=by intro x';refine q15 (g:=89) 13 rfl Y1q (by decide) rfl rfl rfl ?_;exact x'.o):G:=h ⟨k⟩
theorem Zt5 (k:G') (h:Hid G'→G:=by intro x';refine aq0 14 rfl Y1q (by decide) (fun _=>q1m (v:=.bool _) rfl rfl) ?_;exact x'.o):G:=h ⟨k⟩
theorem Zt6 (h:G:=by exact q1y Y1q Y1b (Out.mk (by (refine congrArg AV.bool ?_;(clear hB c1 c2 cr cp cp2 cpl hri;(exfalso;simp at *;done)))) Yb)):G:=h
end Go.Av
