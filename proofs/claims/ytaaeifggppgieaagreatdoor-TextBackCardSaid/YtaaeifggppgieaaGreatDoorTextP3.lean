/- Parts of the proof: rules for an abstract memory, plain laws, and walks through the program. -/
import Derived.Test.YtaaeifggppgieaaGreatDoorTextP0
import Derived.Test.YtaaeifggppgieaaGreatDoorTextP2
import Derived.Test.YtaaeifggppgieaaGreatDoorTextP1
import Derived.LaidSub
import Derived.Lay
import Derived.Test.YtaaeifggppgieaaGreatDoorRows
set_option maxRecDepth 10000
set_option linter.unusedVariables false
set_option linter.unusedSimpArgs false
namespace Go.Av
open Go.Proofs Go.RowKit
theorem q2i (E:Errs) (n:Int) (h0:-9223372036854775808≤n) (h1:n≤9223372036854775807) (H:q8):ACL Tryz.prog (KS E) 14 [.int .i64 n] H (Ret (.str (bs (Lib.itoa n))) H):=ACL.kit fun S w cargs hk hH hv=>by
 obtain ⟨u,rfl,h2⟩:=qax hv
 cases h2
 have hkn:Kn KP S w:=hk (KT+1,KP) Y10
 refine (Tryz.strconv_Itoa n h0 h1 w (hkn.tabIs Yz rfl)).mono ?_
 rintro e w' ⟨rfl,k,os,rfl⟩
 exact ⟨_,rfl,Lib.below_grow _ _ (Nat.le_refl _) _ _,.str⟩
theorem q3b (E:Errs) (n:Int) (h0:-9223372036854775808≤n) (h1:n≤9223372036854775807) (H:q8):ACL Tryz.prog (KS E) 16 [.int .i64 n,.int .i64 10] H (Ret (.str (bs (Lib.itoa n))) H):=ACL.kit fun S w cargs hk hH hv=>by
 obtain ⟨u,u',rfl,h1',h2⟩:=qf1 hv
 cases h1';cases h2
 have hkn:Kn KP S w:=hk (KT+1,KP) Y10
 refine (Tryz.strconv_FormatInt_10 n h0 h1 w (hkn.tabIs Yz rfl)).mono ?_
 rintro e w' ⟨rfl,k,os,rfl⟩
 exact ⟨_,rfl,Lib.below_grow _ _ (Nat.le_refl _) _ _,.str⟩
theorem q31 {id g n:Nat} {xs:List (List UInt8)} {H:q8} (c:UInt8) (hid:H[id]?=some ⟨g,1,(xs.map bs).map qd6⟩) (hl:xs.length≤1000000) (hj:(Lib.join xs [c]).length≤1000000):AC Tryz.prog 22 [.sl id g 0 xs.length n,.str (bs [c])] H (Ret (.str (bs (Lib.join xs [c]))) H):=AC.kit fun S w cargs hH hv=>by
 obtain ⟨u,u',rfl,h1,h2⟩:=qf1 hv
 cases h2
 have h1':VR (own S) w S (.sl id g 0 (xs.map bs).length n) u:=by rw [List.length_map];exact h1
 refine ⟨.string (bs (Lib.join xs [c])),?_,fun w' _=>.str⟩
 rcases qb6 hH hid h1' with ⟨e,a,d,rfl⟩ | ⟨b,d,rfl,k1,k2,k3⟩
 ·obtain rfl:xs=[]:=by simpa using e
  refine (Tryz.strings_Join_none a d (bs [c]) w).mono ?_
  rintro e w' ⟨rfl,rfl⟩
  exact ⟨by simp [Lib.join,List.intercalate],Below.refl _ _⟩
 ·have e1:(xs.map bs).map (fun x:ByteArray=>x.data.toList)=xs:=by
   rw [List.map_map]
   refine (List.map_congr_left fun x _=>?_).trans (List.map_id _)
   exact q1w x
  refine (Tryz.strings_Join b 0 d (xs.map bs) (bs [c]) w k3 k1 (by rw [List.length_map];omega) k2 (by rw [e1,q1w];omega)).mono ?_
  rintro e w' ⟨rfl,hb⟩
  exact ⟨by rw [e1,q1w],hb⟩
theorem qaj (E:Errs) (s:List UInt8) (hs:s.length≤1000000):∃ x:AV,(x = .nifc∨∃ t,x = .ifc t .junk)∧∀ H,ACL Tryz.prog (KS E) 59 [.str (bs s)] H (Ret (.tup [.int .i64 (atV s),x]) H):=by
 rcases h:Lib.atoiAll s with v | _ | _
 ·
  refine ⟨.nifc,.inl rfl,fun H=>ACL.kit fun S w cargs hk hH hv=>?_⟩
  obtain ⟨u,rfl,h2⟩:=qax hv
  cases h2
  rw [atV,h]
  refine (Tryz.strconv_Atoi_ok (bs s) Yr v Yp w).mono ?_
  rintro e w' ⟨rfl,hw⟩
  refine ⟨_,rfl,?_,?_⟩
  ·rcases hw with rfl | ⟨t,rfl⟩
   ·exact Below.refl _ _
   ·exact Lib.bytesWorld_below _ _ _
  ·exact .tup rfl fun j v u hv hu=>by
    match j,hv,hu with
    | 0,hv,hu=>cases hv;cases hu;exact .int
    | 1,hv,hu=>cases hv;cases hu;exact .nifc
 ·
  refine ⟨.ifc 132 .junk,.inr ⟨_,rfl⟩,fun H=>ACL.kit fun S w cargs hk hH hv=>?_⟩
  obtain ⟨u,rfl,h2⟩:=qax hv
  cases h2
  rw [atV,h]
  have hkn:Kn (KY E) S w:=hk (KT+2,KY E) Y10
  refine (Tryz.strconv_Atoi_syntax (bs s) Yr Yp E.syn w (hkn.2.2.1 0 _ rfl) (.inr E.synI)).mono ?_
  rintro e w' ⟨N,rfl,_,_,hb⟩
  refine ⟨_,rfl,hb,.tup rfl fun j v u hv hu=>?_⟩
  match j,hv,hu with
  | 0,hv,hu=>cases hv;cases hu;exact .int
  | 1,hv,hu=>cases hv;cases hu;exact .ifc .junk
 ·
  refine ⟨.ifc 132 .junk,.inr ⟨_,rfl⟩,fun H=>ACL.kit fun S w cargs hk hH hv=>?_⟩
  obtain ⟨u,rfl,h2⟩:=qax hv
  cases h2
  rw [atV,h]
  have hkn:Kn (KR E) S w:=hk (KT+3,KR E) Y10
  refine (Tryz.strconv_Atoi_range (bs s) Yr Yp E.rng w (hkn.2.2.1 0 _ rfl) (.inr E.rngI)).mono ?_
  rintro e w' ⟨N,rfl,_,_,hb⟩
  refine ⟨_,rfl,hb,.tup rfl fun j v u hv hu=>?_⟩
  match j,hv,hu with
  | 0,hv,hu=>cases hv;cases hu;rw [q1w];exact .int
  | 1,hv,hu=>cases hv;cases hu;exact .ifc .junk
theorem qeb (E:Errs) (s:List UInt8) (hs:s.length≤1000000):∃ x:AV,(x = .nifc∨∃ t,x = .ifc t .junk)∧∀ H,ACL Tryz.prog (KS E) 61 [.str (bs s),.int .i64 10,.int .i64 64] H (Ret (.tup [.int .i64 (piV s),x]) H):=by
 rcases h:Lib.parseIntB 64 s with v | _ | _
 ·
  refine ⟨.nifc,.inl rfl,fun H=>ACL.kit fun S w cargs hk hH hv=>?_⟩
  obtain ⟨u,u',u'',rfl,h1,h2,h3⟩:=qjv hv
  cases h1;cases h2;cases h3
  rw [piV,h]
  refine (Tryz.strconv_ParseInt_10_at64_ok (bs s) Yr v Yp w).mono ?_
  rintro e w' ⟨rfl,hw⟩
  refine ⟨_,rfl,?_,?_⟩
  ·rcases hw with rfl | ⟨t,rfl⟩
   ·exact Below.refl _ _
   ·exact Lib.bytesWorld_below _ _ _
  ·exact .tup rfl fun j v u hv hu=>by
    match j,hv,hu with
    | 0,hv,hu=>cases hv;cases hu;exact .int
    | 1,hv,hu=>cases hv;cases hu;exact .nifc
 ·
  refine ⟨.ifc 132 .junk,.inr ⟨_,rfl⟩,fun H=>ACL.kit fun S w cargs hk hH hv=>?_⟩
  obtain ⟨u,u',u'',rfl,h1,h2,h3⟩:=qjv hv
  cases h1;cases h2;cases h3
  rw [piV,h]
  have hkn:Kn (KY E) S w:=hk (KT+2,KY E) Y10
  refine (Tryz.strconv_ParseInt_10_at64_syntax (bs s) Yr Yp E.syn w (hkn.2.2.1 0 _ rfl) (.inr E.synI)).mono ?_
  rintro e w' ⟨N,rfl,_,_,hb⟩
  refine ⟨_,rfl,hb,.tup rfl fun j v u hv hu=>?_⟩
  match j,hv,hu with
  | 0,hv,hu=>cases hv;cases hu;exact .int
  | 1,hv,hu=>cases hv;cases hu;exact .ifc .junk
 ·
  refine ⟨.ifc 132 .junk,.inr ⟨_,rfl⟩,fun H=>ACL.kit fun S w cargs hk hH hv=>?_⟩
  obtain ⟨u,u',u'',rfl,h1,h2,h3⟩:=qjv hv
  cases h1;cases h2;cases h3
  rw [piV,h]
  have hkn:Kn (KR E) S w:=hk (KT+3,KR E) Y10
  refine (Tryz.strconv_ParseInt_10_at64_range (bs s) Yr Yp E.rng w (hkn.2.2.1 0 _ rfl) (.inr E.rngI)).mono ?_
  rintro e w' ⟨N,rfl,_,_,hb⟩
  refine ⟨_,rfl,hb,.tup rfl fun j v u hv hu=>?_⟩
  match j,hv,hu with
  | 0,hv,hu=>cases hv;cases hu;rw [q1w];exact .int
  | 1,hv,hu=>cases hv;cases hu;exact .ifc .junk
set_option maxHeartbeats 0 in
theorem q9d (s:List UInt8) (z:UInt8) (hs:s.length≤100000) (H:q8):AC Tryz.prog 43 [.str (bs s),.str (bs [z]),.int .i64 0,.int .i64 (-1)] H (Ret (.pl ((q9 z s).map eS)) H):=by
 have hcl:=qhb z s
 have c1:=fun H=>qao s z H
 generalize hcn:Lib.countByte s z=c at hcl c1
 refine AC.body (N:=66) [.tmp 8] Tryz.func43 rfl rfl rfl (Nat.le_of_ble_eq_true rfl) fun B hB=>?_
 refine Z3f ?_
 refine Z14 ?_
 refine q5 rfl (fun hc=>?_) (fun hc=>?_)
 ·simp at hc
 refine Z7 ?_
 refine Z4y ?_
 refine Za ?_
 refine q5 rfl (fun hc=>?_) (fun hc=>?_)
 ·simp at hc
 refine Z1l ?_
 refine q5 rfl (fun hc=>?_) (fun hc=>?_)
 ·refine Z4r ?_
  refine Z4z ?_
  refine Z50 ?_
  refine Z4t ?_
  refine Zy ?_
  refine Z52 ?_
  refine Z31 ?_
  refine Z53 ?_
  refine Z4 ?_
  refine Zy ?_
  refine Z54 ?_
  refine Z3m ?_
  refine Z55 ?_
  refine Zy ?_
  refine Z56 ?_
  refine Z4 ?_
  refine Z5 ?_
  refine Z1a ?_
  refine qz (G:=GSp) (fun g=>q9 z s=g.ps++q9 z g.r∧g.ps.length+Lib.countByte g.r z=c∧g.r.length≤s.length) (fun g=>[(0,.str (bs g.r)),(1,.str (bs [z])),(2,.int .i64 0),(3,.int .i64 (c:Int)),(9,.sl (Lid H.length 0) 0 0 (c+1) (c+1)),(10,.int .i64 (g.ps.length:Int))]) (fun g=>H++[⟨0,1,g.ps.map eS++List.replicate (c+1-g.ps.length) [.str ByteArray.empty]⟩]) (fun g=>c-g.ps.length) ⟨[],s⟩ ⟨rfl,by simpa using hcn,Nat.le_refl _⟩ Y3 (.inl rfl) ?_
  rintro ⟨ps,r⟩ ⟨i1,i2,i3⟩
  simp only at i1 i2 i3 ⊢
  refine Z57 ?_
  refine Z1b ?_
  refine q5 rfl (fun hc=>?_) (fun hc=>?_)
  ·have hlt:ps.length<c:=by simpa using hc
   have hm:z∈r:=count_memB.1 (by omega)
   have hat:=qht hm
   have ht:=q9z (c:=z) (l:=r)
   have hd:=q51 (c:=z) (l:=r)
   have hsp:=q8z hm
   have hcnt:=q8s hm
   have hdl:=q2d (c:=z) r
   have hrow:(ps.map eS++List.replicate (c+1-ps.length) [AV.str ByteArray.empty])[0+ps.length]?=some [.str ByteArray.empty]:=by
    rw [Nat.zero_add,List.getElem?_append_right (by simp),List.length_map,Nat.sub_self,List.getElem?_replicate,if_pos (by omega)]
   refine Z4r ?_
   refine ao2 Yq (V2.call (qb2 r z _) rfl) ?_
   refine Z4t ?_
   rw [q6i hm]
   refine Z1l ?_
   refine q5 rfl (fun hc=>?_) (fun hc=>?_)
   ·simp at hc;omega
   refine Z3k ?_
   refine Z6 ?_
   refine Z1w ?_
   refine ao1 (by decide) (q24 (r:=((r.takeWhile (· != z)).length:Int)) rfl rfl (by rw [Int.add_zero];exact qb (by omega) (by omega))) ?_
   refine ao1 (by decide) (q1p (q:=r.takeWhile (· != z)) rfl Bd.none (Bd.some rfl rfl) (Nat.zero_le _) (by omega) (by rw [List.drop_zero];exact ht)) ?_
   refine Z58 ?_
   refine ao2 Yw (q49 (sz:=1) (v:=.str _) (r':=eS (r.takeWhile (· != z))) rfl rfl rfl rfl hrow rfl rfl rfl (by show _≤1;omega) rfl) ?_
   refine qc ?_
   refine Z2x ?_
   refine Z9 ?_
   refine Z52 ?_
   refine ao1 (by decide) (q24 (r:=(((r.takeWhile (· != z)).length+1:Nat):Int)) rfl rfl (by rw [show ((r.takeWhile (· != z)).length:Int)+(([z]:List UInt8).length:Int)=(((r.takeWhile (· != z)).length+1:Nat):Int) by simp];exact qb (by omega) (by omega))) ?_
   refine ao1 (by decide) (q1p (q:=(r.dropWhile (· != z)).tail) rfl (Bd.some rfl rfl) Bd.none (by omega) (Nat.le_refl _) Yh) ?_
   refine Z18 ?_
   refine Z4v ?_
   refine Zy ?_
   refine Z59 ?_
   refine Zb ?_
   refine ⟨⟨ps++[r.takeWhile (· != z)],(r.dropWhile (· != z)).tail⟩,by simp only [List.length_append,List.length_cons,List.length_nil];omega,⟨by simp only;rw [i1,hsp];simp,by simp only [List.length_append,List.length_cons,List.length_nil];omega,by simp only;omega⟩,by simp only [List.length_append,List.length_cons,List.length_nil];exact Y3,.inl ?_⟩
   simp only [List.length_append,List.length_cons,List.length_nil,List.map_append,List.map_cons,List.map_nil,Nat.zero_add]
   rw [List.set_append_right _ _ (by simp),List.length_map,Nat.sub_self,show c+1-ps.length=(c+1-(ps.length+1))+1 by omega,List.replicate_succ]
   simp
  ·have hpl:ps.length=c:=by simp at hc;omega
   have hno:z∉r:=fun h=>by have:=count_memB.2 h;omega
   have hrow:(ps.map eS++List.replicate (c+1-ps.length) [AV.str ByteArray.empty])[0+ps.length]?=some [.str ByteArray.empty]:=by
    rw [Nat.zero_add,List.getElem?_append_right (by simp),List.length_map,Nat.sub_self,List.getElem?_replicate,if_pos (by omega)]
   have hfin:(ps.map eS++List.replicate (c+1-ps.length) [AV.str ByteArray.empty]).set (0+ps.length) (eS r)=(q9 z s).map eS:=by
    rw [i1,q3y r hno,Nat.zero_add,List.set_append_right _ _ (by simp),List.length_map,Nat.sub_self,show c+1-ps.length=0+1 by omega,List.replicate_succ]
    simp
   have hlen:((q9 z s).map eS).length=c+1:=by rw [i1,q3y r hno];simp;omega
   refine Z3k ?_
   refine Z6 ?_
   refine Z58 ?_
   refine Z5a ?_
   refine qc ?_
   refine Z2x ?_
   rw [hfin]
   refine Z3k ?_
   refine Z5b ?_
   refine Z5c ?_
   refine Z3m ?_
   refine Z5d ?_
   refine Z1a ?_
   refine qt (ys:=(q9 z s).map eS) 8 rfl rfl rfl rfl (by rw [List.drop_zero,List.take_of_length_le (by rw [hlen];omega)]) (by rw [hlen];omega) (qdv 0 _) ?_
   refine q4m ?_
   exact Zc
 ·simp at hc
theorem q5u (s:List UInt8) (z:UInt8) (hs:s.length≤100000) (H:q8):AC Tryz.prog 24 [.str (bs s),.str (bs [z])] H (Ret (.pl ((q9 z s).map eS)) H):=by
 refine AC.body (N:=8) [.tmp 4] Tryz.func24 rfl rfl rfl (Nat.le_of_ble_eq_true rfl) fun B hB=>?_
 refine Z3f ?_
 refine Z4r ?_
 refine q10 (q9d _ _ Yy _) rfl (by decide) ?_
 refine Z43 ?_
 exact Z5e
theorem q9t (s:List UInt8) (z:UInt8) (hs:s.length≤1000000) (H:q8):AC Tryz.prog 96 [.str (bs s),.str (bs [z])] H (Ret (.bool (decide (s.head?=some z))) H):=by
 refine AC.body (N:=18) [.tmp 4] Tryz.func96 rfl rfl rfl (Nat.le_of_ble_eq_true rfl) fun B hB=>?_
 refine Z1n ?_
 cases s with
 | nil =>
  refine Z1 ?_
  refine qm 4 (.bool (decide (([]:List UInt8).head?=some z))) ?_ ?_
  ·refine Z52 ?_
   refine Z52 ?_
   refine Z1x ?_
   refine q7 rfl rfl (fun hg5=>?_) (fun hg5=>?_)
   ·exfalso;simp at hg5
   ·refine Z3s ?_
    refine Zt ?_
    exact Zx
  exact Z1v
 | cons x r =>
  have hcut:((x :: r).take 1).drop 0=[x]:=by simp
  refine Z1 ?_
  refine qm 4 (.bool (decide ((x :: r).head?=some z))) ?_ ?_
  ·refine Z52 ?_
   refine Z52 ?_
   refine Z1x ?_
   refine q7 rfl rfl (fun hg5=>?_) (fun hg5=>?_)
   ·refine Z1q ?_
    refine Z1q ?_
    refine q12 rfl rfl (by decide) (qbs rfl) ?_
    refine q12 rfl rfl (by decide) (q1p (q:=[x]) rfl Bd.none (Bd.some (n:=1) rfl rfl) (Nat.zero_le _) (by simp) hcut) ?_
    refine Z1q ?_
    refine Z79 ?_
    refine Zn ?_
    exact Z7a
   ·refine Z3s ?_
    refine Zt ?_
    exact qc (Out.mk (by (refine congrArg AV.bool ?_;(clear hB;(simp_all;omega)))) Y5)
  exact Z1v
theorem q75 (s:List UInt8) (hs:s.length≤1000000) (H:q8):AC Tryz.prog 80 [.str (bs s),.str (bs [45])] H (Ret (.str (bs (q34 s))) H):=by
 refine AC.body (N:=13) [.tmp 4] Tryz.func80 rfl rfl rfl (Nat.le_of_ble_eq_true rfl) fun B hB=>?_
 refine Z63 ?_
 refine Z4r ?_
 refine q10 (q9t _ _ Yy _) rfl (by decide) ?_
 refine Za ?_
 refine q5 rfl (fun hc=>?_) (fun hc=>?_)
 ·have hh:s.head?=some 45:=of_decide_eq_true hc
  obtain ⟨r,rfl⟩:∃ r,s=45 :: r:=by
   cases s with
   | nil=>cases hh
   | cons x r=>simp at hh;exact ⟨r,by rw [hh]⟩
  rw [q34,if_pos hh]
  refine Z4r ?_
  refine Z51 ?_
  refine ao1 (by decide) (q1p (q:=r) rfl (Bd.some (n:=1) rfl rfl) Bd.none (by simp) (Nat.le_refl _) (by rw [List.take_length];rfl)) ?_
  refine Z18 ?_
  refine Z4v ?_
  exact Z1v
 ·have hh:¬ s.head?=some 45:=of_decide_eq_false hc
  rw [q34,if_neg hh]
  refine Z7 ?_
  refine Z17 ?_
  exact Z5e
theorem q84 (s:List UInt8) (hs:s.length≤1000000) (H:q8):AC Tryz.prog 60 [.str (bs s),.str (bs [45])] H (Ret (.str (bs (q34 s))) H):=by
 refine AC.body (N:=8) [.tmp 4] Tryz.func60 rfl rfl rfl (Nat.le_of_ble_eq_true rfl) fun B hB=>?_
 refine Z63 ?_
 refine Z4r ?_
 refine q10 (q75 _ Yy _) rfl (by decide) ?_
 refine Z17 ?_
 exact Z5e
theorem qa2 (l:List (List UInt8)) (v:List UInt8) (H:q8) (hl:l.length≤1000000):AC Tryz.prog 62 [.pl (l.map eS),.str (bs v)] H (Ret (.int .i64 (ixf (fun x=>decide (v=x)) l)) H):=by
 refine AC.body (N:=19) [.tmp 4] Tryz.func62 rfl rfl rfl (Nat.le_of_ble_eq_true rfl) fun B hB=>?_
 refine Z5 ?_
 refine Z2l ?_
 refine Z2o ?_
 refine Z1a ?_
 refine qz (G:=Nat) (fun k=>k≤l.length∧∀ y∈l.take k,decide (v=y)=false) (fun k=>[(0,.pl (l.map eS)),(1,.str (bs v)),(7,.int .i64 (l.length:Int)),(8,.int .i64 (k:Int))]) (fun _=>H++[]) (fun k=>l.length-k) 0 ⟨Nat.zero_le _,by simp⟩ Y3 (Fit.refl _ _) ?_
 rintro k ⟨hk,hno⟩
 refine Z2p ?_
 refine q5 rfl (fun hc=>?_) (fun hc=>?_)
 ·have hlt:k<l.length:=by simpa using hc
  obtain ⟨x,hx,hxl⟩:=q1n hlt
  have hr:=qv eS hx
  refine Zy ?_
  refine Z4 ?_
  refine Z7 ?_
  refine Z6t ?_
  refine Z2q ?_
  refine Z73 ?_
  refine Z4y ?_
  refine Za ?_
  refine q5 rfl (fun hc=>?_) (fun hc=>?_)
  ·refine Zy ?_
   refine Zb ?_
   rw [q6t hx hc hno]
   exact Zc
  ·refine Z2 ?_
   refine Z31 ?_
   refine Z32 ?_
   refine ⟨k+1,by omega,⟨by omega,?_⟩,Y3,.refl _ _⟩
   rw [qe hx]
   intro y hy
   rcases List.mem_append.1 hy with h | h
   ·exact hno y h
   ·simp only [List.mem_singleton] at h
    subst h
    exact hc
 ·have:k=l.length:=by simp at hc;omega
  subst this
  rw [List.take_length] at hno
  rw [q6p hno]
  exact Z15
end Go.Av
namespace Go.Av
end Go.Av
namespace Go.Av
open Go.Proofs
theorem qly (l:List Int):∀ r∈l.map eI,r.length=1:=q46 (e:=eI) (n:=1) (fun _=>rfl) l
theorem qlc (n:Nat) (l:List Int):∀ r∈l.map eI,AV.bels n r=true:=q2s (e:=eI) (fun _=>rfl) l
abbrev eOp (o:OOp):List AV:=[.int .i64 o.kind]++qga o.spec++[.pl (o.needs.map eI),.int .i64 o.id,.int .i64 o.what,.int .i64 o.at_,.pl (o.set.map eI)]
theorem q5i (F:Nat) [FnI Tryz.prog F] (p:Int→Bool) (hF:∀ (x:Int) (H:q8),AC Tryz.prog F [.int .i64 x] H (Ret (.bool (p x)) H)) (l:List Int) (H:q8) (hl:l.length≤1000000):AC Tryz.prog 70 [.pl (l.map eI),.fn (.func F) [] []] H (Ret (.int .i64 (ixf p l)) H):=by
 refine AC.body (N:=19) [.tmp 4] Tryz.func70 rfl rfl rfl (Nat.le_of_ble_eq_true rfl) fun B hB=>?_
 refine Z5 ?_
 refine Z2l ?_
 refine Z2o ?_
 refine Z1a ?_
 refine qz (G:=Nat) (fun k=>k≤l.length∧∀ y∈l.take k,p y=false) (fun k=>[(0,.pl (l.map eI)),(1,.fn (.func F) [] []),(7,.int .i64 (l.length:Int)),(8,.int .i64 (k:Int))]) (fun _=>H++[]) (fun k=>l.length-k) 0 ⟨Nat.zero_le _,by simp⟩ Y3 (Fit.refl _ _) ?_
 rintro k ⟨hk,hno⟩
 refine Z2p ?_
 refine q5 rfl (fun hc=>?_) (fun hc=>?_)
 ·have hlt:k<l.length:=by simpa using hc
  obtain ⟨x,hx,hxl⟩:=q1n hlt
  have hr:=qv eI hx
  refine Zy ?_
  refine Z4 ?_
  refine Z2 ?_
  refine Z1p ?_
  refine Z6t ?_
  refine Z2q ?_
  refine Z2s ?_
  refine ao2 Yq (V2.callv (hF x _) rfl rfl) ?_
  refine Z5o ?_
  refine q5 rfl (fun hc=>?_) (fun hc=>?_)
  ·refine Zy ?_
   refine Zb ?_
   rw [q6t hx hc hno]
   exact Zc
  ·refine Z2 ?_
   refine Z31 ?_
   refine Z32 ?_
   refine ⟨k+1,by omega,⟨by omega,?_⟩,Y3,.refl _ _⟩
   rw [qe hx]
   intro y hy
   rcases List.mem_append.1 hy with h | h
   ·exact hno y h
   ·simp only [List.mem_singleton] at h
    subst h
    exact hc
 ·have:k=l.length:=by simp at hc;omega
  subst this
  rw [List.take_length] at hno
  rw [q6p hno]
  exact Z15
theorem q4f (F:Nat) [FnI Tryz.prog F] (p:Int→Bool) (hF:∀ (x:Int) (H:q8),AC Tryz.prog F [.int .i64 x] H (Ret (.bool (p x)) H)) (l:List Int) (H:q8) (hl:l.length≤1000000):AC Tryz.prog 45 [.pl (l.map eI),.fn (.func F) [] []] H (Ret (.bool (l.any p)) H):=by
 refine AC.body (N:=9) [.tmp 4] Tryz.func45 rfl rfl rfl (Nat.le_of_ble_eq_true rfl) fun B hB=>?_
 refine Z1n ?_
 refine Z2l ?_
 refine Z1p ?_
 refine ao2 Yq (V2.call (q5i F p hF l _ hl) rfl) ?_
 refine Z1o ?_
 refine Z1m ?_
 try dsimp only [put]
 refine Z1 ?_
 rw [← q8b]
 exact Zc
theorem qdq (n:Int) (H:q8):AC Tryz.prog 47 [.int .i64 n] H (Ret (.bool (q1r n)) H):=by
 refine AC.body (N:=9) [.tmp 2] Tryz.func47 rfl rfl rfl (Nat.le_of_ble_eq_true rfl) fun B hB=>?_
 refine Zg ?_
 refine qm 2 (.bool (q1r n)) ?_ ?_
 ·refine Z8 ?_
  refine Z1x ?_
  refine q7 rfl rfl (fun hg2=>?_) (fun hg2=>?_)
  ·refine Zj ?_
   refine Zw ?_
   exact qc (Out.mk (by (refine congrArg AV.bool ?_;(simp only [q1r];(simp_all;done)))) Y5)
  ·refine Zt ?_
   exact qc (Out.mk (by (refine congrArg AV.bool ?_;(simp only [q1r];((refine Bool.eq_iff_iff.mpr ?_;simp only [Bool.and_eq_true,Bool.or_eq_true,Bool.not_eq_true',decide_eq_true_eq,decide_eq_false_iff_not,beq_iff_eq,bne_iff_ne,beq_eq_false_iff_ne,Bool.false_eq_true,Bool.true_eq_false,Bool.and_eq_false_iff,Bool.or_eq_false_iff,List.length_map,false_iff,true_iff,iff_true,iff_false] at *;omega))))) Y5)
 exact Z1v
theorem qg3 (n:Int) (H:q8):AC Tryz.prog 46 [.int .i64 n] H (Ret (.bool (!q1r n)) H):=by
 refine AC.body (N:=6) [.tmp 2] Tryz.func46 rfl rfl rfl (Nat.le_of_ble_eq_true rfl) fun B hB=>?_
 refine Z1n ?_
 refine Zy ?_
 refine Z7b ?_
 refine Z16 ?_
 refine Zf ?_
 exact Zc
theorem qk9 (l:List Int) (p:Int→Bool):(!l.any fun n=>!p n)=l.all p:=by
 induction l with
 | nil=>rfl
 | cons x l ih=>simp only [List.any_cons,List.all_cons,Bool.not_or,Bool.not_not,ih]
set_option maxHeartbeats 0 in
theorem qij (o:OOp) (hn:o.needs.length≤1000000) (hs:o.set.length≤1000000) (H:q8):AC Tryz.prog 26 [.agg (eOp o)] H (Ret (.bool (q14 o)) H):=by
 have hs2:o.set.length≤9223372036854775807:=by omega
 refine AC.body (N:=53) [.tmp 2] Tryz.func26 rfl rfl rfl (Nat.le_of_ble_eq_true rfl) fun B hB=>?_
 refine Z7d ?_
 refine Z1m ?_
 refine Z1z ?_
 refine Z1 ?_
 refine qm 3 (.bool (tm o.at_)) ?_ ?_
 ·refine Z22 ?_
  refine Z1x ?_
  refine q7 rfl rfl (fun hg3=>?_) (fun hg3=>?_)
  ·refine Z24 ?_
   refine Zw ?_
   exact qc (Out.mk (by (refine congrArg AV.bool ?_;(simp only [tm];(simp_all;done)))) Y5)
  ·refine Z1u ?_
   exact qc (Out.mk (by (refine congrArg AV.bool ?_;(simp only [tm];((refine Bool.eq_iff_iff.mpr ?_;simp only [Bool.and_eq_true,Bool.or_eq_true,Bool.not_eq_true',decide_eq_true_eq,decide_eq_false_iff_not,beq_iff_eq,bne_iff_ne,beq_eq_false_iff_ne,Bool.false_eq_true,Bool.true_eq_false,Bool.and_eq_false_iff,Bool.or_eq_false_iff,List.length_map,false_iff,true_iff,iff_true,iff_false] at *;omega))))) Y5)
 refine Z4f ?_
 refine qc ?_
 refine Z5d ?_
 refine Z7e ?_
 refine q5 rfl (fun hc=>?_) (fun hc=>?_)
 ·have hk:o.kind=1:=by simpa using hc
  rw [show q14 o=(qq o.spec&&decide (o.needs.length≤16)&&o.needs.all q1r) by rw [q14,if_pos hk],← qk9]
  refine Z1 ?_
  refine qm 2 (.bool (qq o.spec&&decide (o.needs.length≤16)&&!o.needs.any fun n=>!q1r n)) ?_ ?_
  ·refine Z20 ?_
   refine Z7f ?_
   refine Z4d ?_
   refine Zi ?_
   refine q7 rfl rfl (fun hg3=>?_) (fun hg3=>?_)
   ·refine Z7g ?_
    refine Z77 ?_
    refine Zv ?_
    refine Z26 ?_
    refine q7 rfl rfl (fun hg9=>?_) (fun hg9=>?_)
    ·refine Z7g ?_
     refine qip rfl rfl (by decide) (V2.call (q4f 46 _ qg3 o.needs _ hn) rfl) ?_
     refine Z1r ?_
     refine Zn ?_
     exact qc (Out.mk (by (refine congrArg AV.bool ?_;(clear hB;((simp_all;omega))))) Y5)
    ·refine Zq ?_
     refine Zt ?_
     exact qc (Out.mk (by (refine congrArg AV.bool ?_;(clear hB;((refine Bool.eq_iff_iff.mpr ?_;simp only [Bool.and_eq_true,Bool.or_eq_true,Bool.not_eq_true',decide_eq_true_eq,decide_eq_false_iff_not,beq_iff_eq,bne_iff_ne,beq_eq_false_iff_ne,Bool.false_eq_true,Bool.true_eq_false,Bool.and_eq_false_iff,Bool.or_eq_false_iff,List.length_map,false_iff,true_iff,iff_true,iff_false] at *;omega))))) Y5)
   ·refine Zq ?_
    refine Z7i ?_
    refine Zt ?_
    exact Z7a
  exact Z1v
 have hk1:¬ o.kind=1:=by simpa using hc
 refine Z7e ?_
 refine q2r ([(1,.pt (Lid H.length 0) 0 0 0),(3,.bool (tm o.at_)),(13,.int .i64 o.kind),(31,.bool (decide (o.kind=2∨o.kind=5)))]) (H++[⟨0,13,[eOp o]⟩]) ?_ ?_
 ·refine Z1 ?_
  refine q5 rfl (fun hc=>?_) (fun hc=>?_)
  ·have hk:o.kind=2:=by simpa using hc
   rw [hc]
   refine Z1 ?_
   refine ⟨?_,.inl rfl⟩
   rw [show decide (o.kind=2∨o.kind=5)=true from decide_eq_true (.inl hk)]
   exact Y3
  ·have hk:¬ o.kind=2:=by simpa using hc
   refine qi ?_
   refine Zz ?_
   refine Z1m ?_
   refine ⟨?_,.inl rfl⟩
   rw [show decide (o.kind=2∨o.kind=5)=(o.kind == 5) by rw [Bool.eq_iff_iff];simp [hk]]
   exact Y3
 refine Z1 ?_
 refine q5 rfl (fun hc=>?_) (fun hc=>?_)
 ·have hk:o.kind=2∨o.kind=5:=of_decide_eq_true hc
  rw [show q14 o=(q1r o.id&&q1r o.what) by rw [q14,if_neg hk1,if_pos hk]]
  refine Z1 ?_
  refine qm 2 (.bool (q1r o.id&&q1r o.what)) ?_ ?_
  ·refine Z22 ?_
   refine Z7b ?_
   refine Zi ?_
   refine q7 rfl rfl (fun hg3=>?_) (fun hg3=>?_)
   ·refine Z24 ?_
    refine qip rfl rfl (by decide) (V2.call (qdq _ _) rfl) ?_
    refine Zn ?_
    exact Z1s
   ·refine Z1u ?_
    exact Z1s
  exact Z1v
 have hk2:¬ (o.kind=2∨o.kind=5):=of_decide_eq_false hc
 refine Z7e ?_
 refine q5 rfl (fun hc=>?_) (fun hc=>?_)
 ·have hk:o.kind=3:=by simpa using hc
  rw [show q14 o=tm o.at_ by rw [q14,if_neg hk1,if_neg hk2,if_pos hk]]
  refine Z2 ?_
  refine Zi ?_
  refine Zf ?_
  exact Zc
 have hk3:¬ o.kind=3:=by simpa using hc
 refine Z7e ?_
 refine q5 rfl (fun hc=>?_) (fun hc=>?_)
 ·have hk:o.kind=4:=by simpa using hc
  rw [show q14 o=(tm o.at_&&sok o.set) by rw [q14,if_neg hk1,if_neg hk2,if_neg hk3,if_pos hk]]
  refine Z1 ?_
  refine qm 2 (.bool (tm o.at_&&sok o.set)) ?_ ?_
  ·refine Zi ?_
   refine Zi ?_
   refine q7 rfl rfl (fun hg1=>?_) (fun hg1=>?_)
   ·refine Z7g ?_
    refine qip rfl rfl (by decide) (V2.call (qav o.set Yy _) rfl) ?_
    refine Zn ?_
    exact Z1s
   ·refine Z1u ?_
    exact Z1s
  exact Z1v
 have hk4:¬ o.kind=4:=by simpa using hc
 rw [show q14 o=false by rw [q14,if_neg hk1,if_neg hk2,if_neg hk3,if_neg hk4]]
 exact Z38
theorem qgp:∀ (k n i:Nat),i<k→(big k n)[i]?=some (UInt8.ofNat (n / 256 ^ (k-1-i) % 256))
 | 0,_,_,h=>absurd h (Nat.not_lt_zero _)
 | k+1,n,i,h=>by
  rw [big]
  by_cases hi:i<k
  ·rw [List.getElem?_append_left (by rw [q1h];exact hi),qgp k (n / 256) i hi]
   congr 3
   rw [Nat.div_div_eq_div_mul,← Nat.pow_succ',show (k-1-i).succ=k+1-1-i by omega]
  ·have:i=k:=by omega
   subst this
   rw [List.getElem?_append_right Yd,q1h,Nat.sub_self]
   simp
   apply UInt8.toNat_inj.1
   simp [UInt8.toNat_ofNat']
theorem qku (n j:Nat) (hj:j≤7):((n:Int)).fdiv (2 ^ min (8 * (j:Int)).toNat IntKind.u64.bits)=((n / 256 ^ j:Nat):Int):=by
 have h64:IntKind.u64.bits=64:=rfl
 rw [show min (8 * (j:Int)).toNat IntKind.u64.bits=8 * j by rw [h64];omega]
 have hp:(256:Nat) ^ j=2 ^ (8 * j):=by rw [Nat.pow_mul]
 rw [hp,Int.fdiv_eq_ediv_of_nonneg _ (Int.pow_nonneg (by decide))]
 rw [Int.natCast_ediv]
 simp
set_option maxHeartbeats 0 in
theorem q2l (bs:List UInt8) (n k:Nat) (hn:n<18446744073709551616) (h1:1≤k) (hk:k≤8) (H:q8) (id g:Nat) (hbs:bs.length≤1000000) (hid:H[id]?=some ⟨g,1,bs.map q1o⟩):AC Tryz.prog 28 [.sl id g 0 bs.length bs.length,.int .u64 (n:Int),.int .i64 (k:Int)] H
  (Ret (.sl id (g+k) 0 (bs.length+k) (bs.length+k)) (H.set id ⟨g+k,1,(bs++big k n).map q1o⟩)):=by
 have hlt:id<H.length:=(List.getElem?_eq_some_iff.1 hid).1
 have hbl:=q1h k n
 refine AC.body (N:=23) [.tmp 6] Tryz.func28 rfl rfl rfl (Nat.le_of_ble_eq_true rfl) fun B hB=>?_
 refine Z3f ?_
 refine Zy ?_
 refine ao1 (by decide) (q81 (r:=(k:Int)-1) rfl rfl (qb (by omega) (by omega))) ?_
 refine ao1 (by decide) (qk8 (r:=8 * ((k:Int)-1-((0:Nat):Int))) rfl rfl (by rw [show (8:Int) * ((k:Int)-1)=8 * ((k:Int)-1-((0:Nat):Int)) by omega];exact qb (by omega) (by omega))) ?_
 refine Z4b ?_
 refine qz (G:=Nat) (fun i=>i≤k) (fun i=>[(0,.sl id (g+i) 0 (bs.length+i) (bs.length+i)),(1,.int .u64 (n:Int)),(7,.int .i64 (8 * ((k:Int)-1-(i:Int))))]) (fun i=>H.set id ⟨g+i,1,(bs++(big k n).take i).map q1o⟩++[]) (fun i=>k-i) 0 (Nat.zero_le _) Y3 (.inl (by rw [List.take_zero,List.append_nil bs,Nat.add_zero,qe3 hid])) ?_
 intro i hi
 have hF:(H.set id ⟨g+i,1,(bs++(big k n).take i).map q1o⟩)[id]?=some ⟨g+i,1,(bs++(big k n).take i).map q1o⟩:=List.getElem?_set_self hlt
 refine Z4u ?_
 refine q5 rfl (fun hc=>?_) (fun hc=>?_)
 ·have hik:i<k:=by simp at hc;omega
  have hget:=qgp k n i hik
  have htake:((bs++(big k n).take i).map q1o).take (bs.length+i)=(bs++(big k n).take i).map q1o:=List.take_of_length_le Yx
  have hj:8 * ((k:Int)-1-(i:Int))=8 * ((k-1-i:Nat):Int):=by omega
  refine Z3k ?_
  refine Z8 ?_
  refine ao1 (by decide) (ql5 (r:=((n / 256 ^ (k-1-i):Nat):Int)) rfl rfl (by omega) (by rw [hj];exact qku n _ (by omega))) ?_
  refine ao1 (by decide) (qh (r:=((n / 256 ^ (k-1-i) % 256:Nat):Int)) rfl (by rw [IntKind.wrap_u8];omega)) ?_
  refine ao2 Yq (q4k (sz:=1) (v:=.int .u8 ((n / 256 ^ (k-1-i) % 256:Nat):Int)) rfl (by decide) (by decide) rfl rfl rfl rfl rfl) ?_
  refine ao2 Yq (q3m (bs.length+i+1) rfl hF rfl rfl (Src.pl (ys:=[q1o (UInt8.ofNat (n / 256 ^ (k-1-i) % 256))]) Yg (q2e [_])) rfl Yu Yu Yu Yv) ?_
  refine Z3m ?_
  refine Z3n ?_
  rw [List.set_set,htake]
  refine Zy ?_
  refine ao1 (by decide) (q81 (r:=8 * ((k:Int)-1-((i+1:Nat):Int))) rfl rfl (by rw [show (8 * ((k:Int)-1-(i:Int)))-8=8 * ((k:Int)-1-((i+1:Nat):Int)) by omega];exact qb (by omega) (by omega))) ?_
  refine Zb ?_
  refine ⟨i+1,by omega,by omega,Y3,.inl ?_⟩
  rw [List.take_add_one,hget]
  simp [Nat.add_assoc]
 ·have hik:i=k:=by simp at hc;omega
  subst hik
  rw [List.take_of_length_le (by omega)]
  refine Z4a ?_
  refine Za ?_
  refine qe6 hB (q56 rfl .nil) rfl ⟨rfl,rfl⟩ (decide_eq_true hlt) (by simp) ?_
  exact HBel.set hB.heap _ _ (fun r hr=>qw _ _ r hr)
theorem qd2 {o:OOp} (h:q14 o=true) (hk:o.kind=2∨o.kind=5):(0≤o.id∧o.id≤1073741824)∧0≤o.what∧o.what≤1073741824:=by
 unfold q14 at h
 rw [if_neg (by omega),if_pos hk] at h
 simp only [q1r,Bool.and_eq_true,decide_eq_true_eq] at h
 exact h
theorem qak {o:OOp} (h:q14 o=true):o.kind=1∨(o.kind=2∨o.kind=5)∨o.kind=3∨o.kind=4:=by
 unfold q14 at h
 by_cases h1:o.kind=1
 ·exact .inl h1
 ·rw [if_neg h1] at h
  by_cases h2:o.kind=2∨o.kind=5
  ·exact .inr (.inl h2)
  ·rw [if_neg h2] at h
   by_cases h3:o.kind=3
   ·exact .inr (.inr (.inl h3))
   ·rw [if_neg h3] at h
    by_cases h4:o.kind=4
    ·exact .inr (.inr (.inr h4))
    ·rw [if_neg h4] at h;cases h
theorem qby {o:OOp} (h:q14 o=true) (hk:o.kind=3∨o.kind=4):0≤o.at_∧o.at_≤4611686018427387904:=by
 unfold q14 at h
 rcases hk with hk | hk
 ·rw [if_neg (by omega),if_neg (by omega),if_pos hk] at h
  exact tm_iff2.1 h
 ·rw [if_neg (by omega),if_neg (by omega),if_neg (by omega),if_pos hk,Bool.and_eq_true] at h
  exact tm_iff2.1 h.1
theorem qcs {o:OOp} (h:q14 o=true) (hk:o.kind=4):sok o.set=true:=by
 unfold q14 at h
 rw [if_neg (by omega),if_neg (by omega),if_neg (by omega),if_pos hk,Bool.and_eq_true] at h
 exact h.2
theorem qae {o:OOp} (h:q14 o=true) (hk:o.kind=1):qq o.spec=true∧o.needs.length≤16∧∀ n∈o.needs,0≤n∧n≤1073741824:=by
 unfold q14 at h
 rw [if_pos hk,Bool.and_eq_true,Bool.and_eq_true,List.all_eq_true] at h
 refine ⟨h.1.1,of_decide_eq_true h.1.2,fun n hn=>?_⟩
 have:=h.2 n hn
 simp only [q1r,Bool.and_eq_true,decide_eq_true_eq] at this
 exact this
theorem qf2 {l:List Int} {k:Nat} {n:Int} (h:l[k]?=some n):q1g (l.take (k+1))=q1g (l.take k)++big 4 n.toNat:=by
 unfold q1g
 rw [qe h,List.flatMap_append]
 simp
set_option maxHeartbeats 0 in
theorem qhj (o:OOp) (hn:o.needs.length≤1000000) (hs:o.set.length≤1000000) (H:q8):AC Tryz.prog 13 [.agg (eOp o)] H (Ret (.tup [.pl ((qat o).1.map q1o),.int .i64 (qat o).2]) H):=by
 refine AC.body (N:=84) [.tmp 2,.tmp 3] Tryz.func13 rfl rfl rfl (Nat.le_of_ble_eq_true rfl) fun B hB=>?_
 refine Z7d ?_
 refine Z3d ?_
 refine Z4 ?_
 refine Z1z ?_
 refine Z2v ?_
 refine q10 (qij _ Yy Yy _) rfl (by decide) ?_
 refine Z3y ?_
 refine q5 rfl (fun hc=>?_) (fun hc=>?_)
 ·have hm:q14 o=false:=by simpa using hc
  rw [show qat o=([],1) by rw [qat,hm];rfl]
  refine Z3w ?_
  try dsimp only
  exact Z42
 have hm:q14 o=true:=by simpa using hc
 clear hc
 rw [show qat o=(q83 o,0) by rw [qat,hm];rfl]
 have hkind:=qak hm
 have hkb:q1o (UInt8.ofNat o.kind.toNat)=[.int .u8 o.kind]:=by
  rw [q8g (by omega),Int.toNat_of_nonneg (by omega)]
 have hob:q83 o=UInt8.ofNat o.kind.toNat :: (if o.kind=1 then q13 o.spec++(UInt8.ofNat o.needs.length :: q1g o.needs)
  else if o.kind=2∨o.kind=5 then big 4 o.id.toNat++big 4 o.what.toNat
  else if o.kind=3 then big 8 o.at_.toNat else big 8 o.at_.toNat++q7x o.set):=rfl
 generalize UInt8.ofNat o.kind.toNat=kb at hkb hob
 refine Z4f ?_
 refine ao1 (by decide) (qh (r:=o.kind) rfl (by rw [IntKind.wrap_u8];omega)) ?_
 refine ao2 Yq (q20 (sz:=1) (v:=.int .u8 o.kind) rfl (by decide) (by decide) rfl rfl rfl rfl rfl) ?_
 refine Z3m ?_
 refine Z4e ?_
 rw [← hkb,show [q1o kb]=[kb].map q1o from rfl]
 refine Z4f ?_
 refine qc ?_
 refine Z5d ?_
 refine Z7e ?_
 refine q5 rfl (fun hc=>?_) (fun hc=>?_)
 ·have hk:o.kind=1:=by simpa using hc
  obtain ⟨hsr,hnl,hnr⟩:=qae hm hk
  have hsl:=q78 hsr
  rw [if_pos hk] at hob
  rw [hob]
  clear hob hc
  refine Z7j ?_
  refine Z7f ?_
  refine q10 (qgq _ _) rfl (by decide) ?_
  refine Z74 ?_
  refine Z11 ?_
  refine Z43 ?_
  refine Z4 ?_
  refine Z5d ?_
  rw [show q3v o.spec=(q13 o.spec,0) by rw [q3v,if_neg (by rw [hsr];simp)]]
  refine Z1 ?_
  refine Z4k ?_
  try dsimp only
  refine Z3u ?_
  refine Z7k ?_
  refine aqr 3 rfl Ys (by decide) (fun G hG=>qg rfl (lk rfl hG) rfl (by decide)) ?_
  refine aqr 4 rfl Ys (by decide) (fun G hG=>qp (v:=.pl _) rfl (lk rfl hG) rfl rfl rfl) ?_
  refine aqr 5 rfl Ys (by decide) (fun G hG=>qdu rfl) ?_
  refine aq0 6 rfl Ys (by decide) (fun _=>qh (r:=(o.needs.length:Int)) rfl (by rw [List.length_map,IntKind.wrap_u8];omega)) ?_
  refine q89 7 rfl Ys (by decide) (fun _=>q4k (sz:=1) (v:=.int .u8 (o.needs.length:Int)) rfl (by decide) (by decide) rfl rfl rfl rfl rfl) ?_
  refine aqs 2 rfl Ys Yi Yq (qd9 (bs:=[kb]) (cs:=q13 o.spec) (en:=q1o) rfl rfl rfl (Src.pl rfl (q2e _)) rfl Yx Yx) ?_
  refine aqs 8 rfl Ys Yi Yq (qd9 (bs:=[kb]++q13 o.spec) (cs:=[UInt8.ofNat o.needs.length]) (en:=q1o) rfl rfl rfl (Src.pl (ys:=[q1o (UInt8.ofNat o.needs.length)]) Yg (q2e [_])) rfl Yx Yx) ?_
  refine Z7l ?_
  refine Z48 ?_
  generalize hb0:[kb]++q13 o.spec++[UInt8.ofNat o.needs.length]=b0
  have hb0l:b0.length=(q13 o.spec).length+2:=by rw [← hb0];simp
  have hfin:kb :: (q13 o.spec++(UInt8.ofNat o.needs.length :: q1g o.needs))=b0++q1g o.needs:=by rw [← hb0];simp
  rw [hfin]
  refine Z7j ?_
  refine Z7m ?_
  refine Z2o ?_
  try dsimp only [Nat.reduceAdd,AV.cells,List.cons_append,List.nil_append,List.length_cons,put,List.set_cons_succ,List.set_cons_zero]
  refine Z1a ?_
  refine qz (G:=Nat) (fun k=>k≤o.needs.length) (fun k=>[(1,.pt (Lid H.length 0) 0 0 0),(4,.sl (Lid H.length 1) (2+4 * k) 0 (b0.length+4 * k) (b0.length+4 * k)),(38,.pl (o.needs.map eI)),(39,.int .i64 (o.needs.length:Int)),(40,.int .i64 (k:Int))]) (fun k=>H++[⟨0,13,[eOp o]⟩,⟨2+4 * k,1,(b0++q1g (o.needs.take k)).map q1o⟩]) (fun k=>o.needs.length-k) 0 (Nat.zero_le _) Y3 (.inl (by rw [List.take_zero];simp [q1g])) ?_
  intro k hkn
  have hl2:(b0++q1g (o.needs.take k)).length=b0.length+4 * k:=by
   rw [List.length_append,q70,List.length_take,Nat.min_eq_left hkn]
  refine Z2p ?_
  refine q5 rfl (fun hc=>?_) (fun hc=>?_)
  ·have hlt:k<o.needs.length:=by simpa using hc
   obtain ⟨n,hx,hxl⟩:=q1n hlt
   have hr:=qv eI hx
   have hnn:=hnr n hxl
   have c1:=fun H' id hid=>q2l (b0++q1g (o.needs.take k)) n.toNat 4 (by omega) (by decide) (by decide) H' id (2+4 * k) (by rw [hl2];omega) hid
   rw [hl2,List.append_assoc,← qf2 hx] at c1
   refine Z2r ?_
   refine Z2s ?_
   refine Z4 ?_
   refine Z3k ?_
   refine ao1 (by decide) (qh (r:=((n.toNat:Nat):Int)) rfl Yj) ?_
   refine Z4h ?_
   refine Z3m ?_
   try dsimp only [put,List.set_cons_succ,List.set_cons_zero]
   refine Z4j ?_
   exact ⟨k+1,by omega,by omega,Y3,.inl rfl⟩
  ·have hkk:k=o.needs.length:=by simp at hc;omega
   subst hkk
   rw [List.take_length] at hl2 ⊢
   rw [← hl2]
   refine Z4a ?_
   refine Z4b ?_
   refine qt (ys:=(b0++q1g o.needs).map q1o) 2 rfl rfl rfl rfl Y7 (by simp) (qw 0 _) ?_
   exact Z41
 have hk1:¬ o.kind=1:=by simpa using hc
 rw [if_neg hk1] at hob
 refine Z7e ?_
 refine q2r ([(1,.pt (Lid H.length 0) 0 0 0),(4,.sl (Lid H.length 1) 0 0 1 1),(19,.int .i64 o.kind),(49,.bool (decide (o.kind=2∨o.kind=5)))]) (H++[⟨0,13,[eOp o]⟩,⟨0,1,[kb].map q1o⟩]) ?_ ?_
 ·refine Z1 ?_
  refine q5 rfl (fun hc=>?_) (fun hc=>?_)
  ·have hk:o.kind=2:=by simpa using hc
   rw [hc]
   refine Z1 ?_
   refine ⟨?_,.inl rfl⟩
   rw [show decide (o.kind=2∨o.kind=5)=true from decide_eq_true (.inl hk)]
   exact Y3
  ·have hk:¬ o.kind=2:=by simpa using hc
   refine qi ?_
   refine Zz ?_
   refine Z1m ?_
   refine ⟨?_,.inl rfl⟩
   rw [show decide (o.kind=2∨o.kind=5)=(o.kind == 5) by rw [Bool.eq_iff_iff];simp [hk]]
   exact Y3
 refine Z1 ?_
 refine q5 rfl (fun hc=>?_) (fun hc=>?_)
 ·have hk:o.kind=2∨o.kind=5:=of_decide_eq_true hc
  obtain ⟨hi,hw⟩:=qd2 hm hk
  rw [if_pos hk] at hob
  rw [hob]
  have c1:=fun H' id hid=>q2l [kb] o.id.toNat 4 (by omega) (by decide) (by decide) H' id 0 (by simp) hid
  have c2:=fun H' id hid=>q2l ([kb]++big 4 o.id.toNat) o.what.toNat 4 (by omega) (by decide) (by decide) H' id 4 (by simp [q1h]) hid
  have e5:([kb]++big 4 o.id.toNat).length=5:=by simp [q1h]
  rw [e5] at c2
  have e9:([kb]++big 4 o.id.toNat++big 4 o.what.toNat).length=9:=by simp [q1h]
  refine Z4k ?_
  refine Z3u ?_
  refine Z4l ?_
  refine Z47 ?_
  refine aq0 3 rfl Ys (by decide) (fun _=>qh (r:=((o.id.toNat:Nat):Int)) rfl Yj) ?_
  refine Z4n ?_
  refine Z4o ?_
  refine aq0 7 rfl Ys (by decide) (fun _=>qh (r:=((o.what.toNat:Nat):Int)) rfl Yj) ?_
  refine aqs 4 rfl Ys Yi Yq (V2.callo3 (k:=1) (c1 _ (Lid H.length 1) (lk rfl rfl)) rfl rfl) ?_
  refine aqs 8 rfl Ys Yi Yq (V2.callo3 (k:=1) (c2 _ (Lid H.length 1) (lk rfl rfl)) rfl rfl) ?_
  refine Z7l ?_
  refine Z48 ?_
  refine Z7n ?_
  refine Z4a ?_
  refine Z4b ?_
  rw [show kb :: (big 4 o.id.toNat++big 4 o.what.toNat)=[kb]++big 4 o.id.toNat++big 4 o.what.toNat by simp]
  refine qt (ys:=([kb]++big 4 o.id.toNat++big 4 o.what.toNat).map q1o) 2 rfl rfl rfl rfl (by rw [List.drop_zero,List.take_of_length_le (by rw [List.length_map,e9];exact Nat.le_refl _)]) (by rw [List.length_map,e9]) (qw 0 _) ?_
  exact Z41
 have hk2:¬ (o.kind=2∨o.kind=5):=of_decide_eq_false hc
 rw [if_neg hk2] at hob
 refine Z7e ?_
 refine q5 rfl (fun hc=>?_) (fun hc=>?_)
 ·have hk:o.kind=3:=by simpa using hc
  have ha:=qby hm (.inl hk)
  rw [if_pos hk] at hob
  rw [hob]
  have c1:=fun H' id hid=>q2l [kb] o.at_.toNat 8 (by omega) (by decide) (by decide) H' id 0 (by simp) hid
  have e9:([kb]++big 8 o.at_.toNat).length=9:=by simp [q1h]
  refine qi ?_
  refine Z3i ?_
  refine Z22 ?_
  refine Z7o ?_
  refine Z4h ?_
  refine Z3m ?_
  refine Z7n ?_
  refine Z4a ?_
  refine Z4b ?_
  rw [show kb :: big 8 o.at_.toNat=[kb]++big 8 o.at_.toNat from rfl]
  refine qt (ys:=([kb]++big 8 o.at_.toNat).map q1o) 2 rfl rfl rfl rfl (by rw [List.drop_zero,List.take_of_length_le (by rw [List.length_map,e9];exact Nat.le_refl _)]) (by rw [List.length_map,e9]) (qw 0 _) ?_
  exact Z41
 have hk3:¬ o.kind=3:=by simpa using hc
 rw [if_neg hk3] at hob
 refine Z2 ?_
 refine Zz ?_
 refine Z1m ?_
 have hk:o.kind=4:=by omega
 refine Z1 ?_
 refine q5 rfl (fun hc=>?_) (fun hc=>?_)
 ·have ha:=qby hm (.inr hk)
  have qf8:=qcs hm hk
  have hsl:=q9w o.set
  rw [hob]
  have c1:=fun H' id hid=>q2l [kb] o.at_.toNat 8 (by omega) (by decide) (by decide) H' id 0 (by simp) hid
  have e9:([kb]++big 8 o.at_.toNat).length=9:=by simp [q1h]
  refine Z7j ?_
  refine Z7m ?_
  refine q10 (qid _ Yy _) rfl (by decide) ?_
  refine Z74 ?_
  refine Z11 ?_
  refine Z43 ?_
  refine Z4 ?_
  refine Z5d ?_
  rw [show q6c o.set=(q7x o.set,0) by rw [q6c,if_neg (by rw [qf8];simp)]]
  refine Z3j ?_
  refine Z22 ?_
  refine Z7o ?_
  refine Z4h ?_
  refine Z2k ?_
  refine ao2 Yq (qd9 (bs:=[kb]++big 8 o.at_.toNat) (cs:=q7x o.set) (en:=q1o) (by rw [e9];rfl) rfl rfl (Src.pl rfl (q2e _)) rfl (by rw [e9];omega) (by rw [e9];omega)) ?_
  refine Z3m ?_
  try dsimp only [Nat.reduceAdd,List.cons_append,List.nil_append,List.length_cons,List.length_nil,put,List.set_cons_succ,List.set_cons_zero]
  refine Z4a ?_
  refine Z4b ?_
  rw [show kb :: (big 8 o.at_.toNat++q7x o.set)=[kb]++big 8 o.at_.toNat++q7x o.set by simp]
  refine qt (ys:=([kb]++big 8 o.at_.toNat++q7x o.set).map q1o) 2 rfl rfl rfl rfl Y7 (by simp) (qw 0 _) ?_
  exact Z41
 ·simp at hc;omega
end Go.Av
namespace Go.Av
section
variable {P : Program} {N : Nat} {B : Base} {ops : Array Oper} {a : Option Nat} {C : q8 → Prop} {F : Env → q8 → Prop}
variable {fuel : Nat} {listed : Array Bool} {env : Env} {H H0 L : q8} {op : Op} {ty : TypeId} {pos : String} {after : Array Edge} {v : AV}
end
end Go.Av
namespace Go.Av
open Go.Proofs Go.RowKit
theorem qab (H:q8):AC Tryz.prog 19 [] H (Ret (.pl (jobsT.map eS)) H):=by
 refine AC.body (N:=2) [.tmp 0] Tryz.func19 rfl rfl rfl (Nat.le_of_ble_eq_true rfl) fun B hB=>?_
 refine Z3f ?_
 refine Z2 ?_
 refine ao2 Yq (qe0 (sz:=1) (jobsT.map eS) rfl (by decide) (by decide) (by decide) rfl rfl (qjc _) rfl (qdv 0 _)) ?_
 refine Z43 ?_
 refine Z5m ?_
 exact Z1v
theorem q7s (H:q8):AC Tryz.prog 21 [] H (Ret (.pl (healthT.map eS)) H):=by
 refine AC.body (N:=2) [.tmp 0] Tryz.func21 rfl rfl rfl (Nat.le_of_ble_eq_true rfl) fun B hB=>?_
 refine Z3f ?_
 refine Z2 ?_
 refine ao2 Yq (qe0 (sz:=1) (healthT.map eS) rfl (by decide) (by decide) (by decide) rfl rfl (qjc _) rfl (qdv 0 _)) ?_
 refine Z43 ?_
 refine Z5m ?_
 exact Z1v
theorem q6v (s:List UInt8) (H:q8):AC Tryz.prog 15 [.str (bs s)] H (Ret (.str (bs (q1u s))) H):=by
 refine AC.body (N:=6) [.tmp 2] Tryz.func15 rfl rfl rfl (Nat.le_of_ble_eq_true rfl) fun B hB=>?_
 refine Z63 ?_
 refine Z7 ?_
 refine Z7p ?_
 refine Za ?_
 refine q5 rfl (fun hc=>?_) (fun hc=>?_)
 ·have hs:s=[]:=of_decide_eq_true hc
  rw [q1u,if_pos hs]
  refine Z4q ?_
  exact Z5e
 ·have hs:¬ s=[]:=of_decide_eq_false hc
  rw [q1u,if_neg hs]
  refine Z7 ?_
  refine Z17 ?_
  exact Z5e
theorem qar (E:Errs) (n first:Int) (names:List (List UInt8)) (h0:-9223372036854775808≤n) (h1:n≤9223372036854775807) (hf0:0≤first) (hf1:first≤1000) (hl:names.length≤1000) (H:q8):ACL Tryz.prog (KS E) 18 [.int .i64 n,.int .i64 first,.pl (names.map eS)] H (Ret (.str (bs (q27 n first names))) H):=by
 refine ACL.body (N:=26) [.tmp 6] Tryz.func18 rfl rfl rfl (Nat.le_of_ble_eq_true rfl) fun B hB=>?_
 try dsimp only [KS,q8j]
 refine Z4q ?_
 refine Za ?_
 refine qm 17 (.bool (decide (first≤n∧n<first+(names.length:Int)))) ?_ ?_
 ·refine Z1w ?_
  refine Z1x ?_
  refine q7 rfl rfl (fun hg3=>?_) (fun hg3=>?_)
  ·refine Zj ?_
   refine Zj ?_
   refine Z3p ?_
   refine Z77 ?_
   refine q12 rfl rfl (by decide) (q24 (r:=first+(names.length:Int)) rfl rfl (by rw [List.length_map];exact qb (by omega) (by omega))) ?_
   refine Zk ?_
   refine Zm ?_
   exact Zo
  ·refine Z3s ?_
   refine Zq ?_
   refine Zr ?_
   exact Zo
 refine Z1 ?_
 refine q5 rfl (fun hc=>?_) (fun hc=>?_)
 ·have hr:first≤n∧n<first+(names.length:Int):=of_decide_eq_true hc
  obtain ⟨x,hx,hxl⟩:=q1n (l:=names) (k:=(n-first).toNat) (by omega)
  have hr1:=qv eS hx
  rw [q27,if_pos hr,List.getD_eq_getElem?_getD,hx]
  refine Z6p ?_
  refine Z8 ?_
  refine ao1 (by decide) (q81 (r:=(((n-first).toNat:Nat):Int)) rfl rfl (by rw [Int.toNat_of_nonneg (by omega)];exact qb (by omega) (by omega))) ?_
  refine Z6u ?_
  refine ao1 (by decide) (q21 (v:=.str _) rfl hr1 rfl) ?_
  refine Z17 ?_
  exact Z5e
 ·have hr:¬ (first≤n∧n<first+(names.length:Int)):=of_decide_eq_false hc
  rw [q27,if_neg hr]
  refine Zy ?_
  refine ao2 Yq (V2.callL (q2i E n h0 h1 _) rfl ⟨rfl,rfl,rfl,rfl,trivial⟩) ?_
  refine Z17 ?_
  refine Z5m ?_
  exact Z1v
theorem q1e {n:Int} (h0:-9223372036854775808≤n) (h1:n≤9223372036854775807):(Lib.itoa n).length≤21:=Lib.itoa_length_le n h0 h1
theorem q23 (c:UInt8) (m:Nat):∀ xs:List (List UInt8),(∀ x∈xs,x.length≤m)→(Lib.join xs [c]).length≤xs.length * (m+1)
 | [],_=>by simp [Lib.join,List.intercalate]
 | [x],h=>by
  have:=h x List.mem_cons_self
  rw [q16];simp;omega
 | x :: y :: t,h=>by
  have h1:=h x List.mem_cons_self
  have ih:=q23 c m (y :: t) fun z hz=>h z (List.mem_cons_of_mem _ hz)
  rw [qu,List.length_append,List.length_cons]
  simp only [List.length_cons] at ih ⊢
  have e1:(t.length+1+1) * (m+1)=(t.length+1) * (m+1)+(m+1):=Nat.succ_mul _ _
  omega
set_option maxHeartbeats 0 in
theorem qcb (E:Errs) (l:List Int) (hl:l.length≤10000) (hr0:∀ n∈l,-9223372036854775808≤n∧n≤9223372036854775807) (H:q8):ACL Tryz.prog (KS E) 17 [.pl (l.map eI)] H (Ret (.str (bs (q1z l))) H):=by
 refine ACL.body (N:=21) [.tmp 2] Tryz.func17 rfl rfl rfl (Nat.le_of_ble_eq_true rfl) fun B hB=>?_
 try dsimp only [KS,q8j]
 refine Z63 ?_
 refine Z3g ?_
 refine Z64 ?_
 refine qi ?_
 refine Z2k ?_
 refine Z2o ?_
 refine Z5v ?_
 refine Z1a ?_
 refine qz (G:=Nat) (fun k=>k≤l.length) (fun k=>[(KT,KD.av),(KT+1,KP.av),(KT+2,(KY E).av),(KT+3,(KR E).av),(3,.sl (Lid H.length 0) k 0 k k),(6,.pl (l.map eI)),(7,.int .i64 (l.length:Int)),(8,.int .i64 (k:Int))]) (fun k=>H++[⟨k,1,(((l.take k).map Lib.itoa).map bs).map qd6⟩]) (fun k=>l.length-k) 0 (Nat.zero_le _) Y3 (.inl rfl) ?_
 intro k hk
 refine Z2p ?_
 refine q5 rfl (fun hc=>?_) (fun hc=>?_)
 ·have hlt:k<l.length:=by simpa using hc
  obtain ⟨x,hx,hxl⟩:=q1n hlt
  have hr:=qv eI hx
  have hxr:=hr0 x hxl
  have hlk:(l.take k).length=k:=by rw [List.length_take];omega
  have hcells:((((l.take k).map Lib.itoa).map bs).map qd6).length=k:=by rw [List.length_map,List.length_map,List.length_map,hlk]
  refine Z2r ?_
  refine Z2s ?_
  refine Z4 ?_
  refine Z3k ?_
  refine ao2 Yq (V2.callL (q2i E x hxr.1 hxr.2 _) rfl ⟨rfl,rfl,rfl,rfl,trivial⟩) ?_
  refine ao2 Yq (q4k (sz:=1) (v:=.str (bs (Lib.itoa x))) rfl (by decide) (by decide) rfl rfl rfl rfl rfl) ?_
  refine ao2 Yq (q6g (sz:=1) (bytes:=16) rfl rfl rfl rfl rfl (Src.pl (ys:=[qd6 (bs (Lib.itoa x))]) rfl Ya) rfl (by rw [hcells];exact Nat.le_refl _) Yu Yu) ?_
  refine Z3m ?_
  try dsimp only [List.length_cons,List.length_nil,Nat.reduceAdd,put,AV.cells,List.set_cons_zero]
  refine Z4j ?_
  refine ⟨k+1,by omega,by omega,Y3,.inl ?_⟩
  rw [List.take_of_length_le (by rw [hcells];exact Nat.le_refl _),qe hx]
  simp
 ·have hkk:k=l.length:=by simp at hc;omega
  subst hkk
  rw [List.take_length]
  have hjl:=q23 44 21 (l.map Lib.itoa) (fun x hx=>by
   obtain ⟨n,hn,rfl⟩:=List.mem_map.1 hx
   exact q1e (hr0 n hn).1 (hr0 n hn).2)
  rw [List.length_map] at hjl
  refine Z3j ?_
  refine ao2 Yq (V2.call (q31 (xs:=l.map Lib.itoa) 44 (lk rfl rfl) (by rw [List.length_map];omega) (by omega)) (by rw [List.length_map];rfl)) ?_
  refine q10 (q6v _ _) rfl (by decide) ?_
  refine Z17 ?_
  refine Z5m ?_
  exact Z1v
theorem qi8 {o:OOp} (h:q14 o=true):((o.kind=2∨o.kind=5)→(-9223372036854775808≤o.id∧o.id≤9223372036854775807)∧-9223372036854775808≤o.what∧o.what≤9223372036854775807)∧((o.kind=3∨o.kind=4)→-9223372036854775808≤o.at_∧o.at_≤9223372036854775807):=by
 refine ⟨fun hk=>?_,fun hk=>?_⟩
 ·obtain ⟨h1,h2⟩:=qd2 h hk;omega
 ·have:=qby h hk;omega
abbrev KE (E:Errs):Env:=[(KT,KD.av),(KT+1,KP.av),(KT+2,(KY E).av),(KT+3,(KR E).av)]
theorem qaz {n first:Int} {names:List (List UInt8)} (h0:-9223372036854775808≤n) (h1:n≤9223372036854775807) (hn:∀ w∈names,w.length≤21):(q27 n first names).length≤21:=by
 unfold q27
 split
 ·rename_i h
  have hk:(n-first).toNat<names.length:=by omega
  rw [List.getD_eq_getElem?_getD,List.getElem?_eq_getElem hk]
  exact hn _ (List.getElem_mem hk)
 ·exact q1e h0 h1
theorem qf0 {l:List Int} (hl:l.length≤16) (h:∀ n∈l,0≤n∧n≤1073741824):(q1z l).length≤400:=by
 have hjl:=q23 44 21 (l.map Lib.itoa) (fun x hx=>by
  obtain ⟨n,hn,rfl⟩:=List.mem_map.1 hx
  have:=h n hn
  exact q1e (by omega) (by omega))
 rw [List.length_map] at hjl
 unfold q1z q1u
 split
 ·simp
 ·omega
theorem qlh (t:ByteArray):bs t.data.toList=t:=rfl
theorem qbu (r:List (List UInt8)) (i:Nat) (hi:i≤1000) (hl:r.length≤1000000) (H:q8):AC Tryz.prog 36 [.pl (r.map eS),.int .i64 (i:Int)] H (Ret (.str (bs (atR r i))) H):=by
 refine AC.body (N:=13) [.tmp 4] Tryz.func36 rfl rfl rfl (Nat.le_of_ble_eq_true rfl) fun B hB=>?_
 refine Z63 ?_
 refine Zy ?_
 refine Z36 ?_
 refine Z1o ?_
 refine Za ?_
 refine q5 rfl (fun hc=>?_) (fun hc=>?_)
 ·have h:r.length≤i:=by simp at hc;omega
  rw [show atR r i=[] by rw [atR,List.getD_eq_getElem?_getD,List.getElem?_eq_none h];rfl]
  refine Z4q ?_
  exact Z5e
 ·have h:i<r.length:=by simp at hc;omega
  obtain ⟨x,hx,hxl⟩:=q1n h
  have hr:=qv eS hx
  rw [show atR r i=x by rw [atR,List.getD_eq_getElem?_getD,hx];rfl]
  refine Z6p ?_
  refine Z2q ?_
  refine Z73 ?_
  refine Z17 ?_
  exact Z5e
theorem q5l {r:List (List UInt8)} {n:Nat} (h:∀ w∈r,w.length≤n) (i:Nat):(atR r i).length≤n:=by
 rw [atR,List.getD_eq_getElem?_getD]
 cases hq:r[i]? with
 | none=>exact Nat.zero_le _
 | some w=>exact h w (List.mem_of_getElem? hq)
structure RR (r : List (List UInt8)) : Prop where
 n:r.length≤100000
 w:∀ w∈r,w.length≤100000
theorem qdc (E:Errs) (r:List (List UInt8)) (i:Nat) (hi:i≤1000) (hr:RR r) (H:q8):ACL Tryz.prog (KS E) 37 [.pl (r.map eS),.int .i64 (i:Int)] H (Ret (.int .i64 (atV (atR r i))) H):=by
 have hn:=hr.n
 have hl:=q5l hr.w i
 obtain ⟨x,hx,ca⟩:=qaj E (atR r i) (by omega)
 refine ACL.body (N:=15) [.tmp 4] Tryz.func37 rfl rfl rfl (Nat.le_of_ble_eq_true rfl) fun B hB=>?_
 try dsimp only [KS,q8j]
 refine Z5 ?_
 rcases hx with rfl | ⟨t,rfl⟩
 ·refine Z6p ?_
  refine Z7q ?_
  refine Z5i ?_
  refine Z5l ?_
  refine Z5m ?_
  refine Zy ?_
  exact Zd
 ·refine Z6p ?_
  refine Z7q ?_
  refine Z5i ?_
  refine Z5y ?_
  refine Z5m ?_
  refine Zy ?_
  exact Zd
theorem qfs (E:Errs) (r:List (List UInt8)) (i:Nat) (hi:i≤1000) (hr:RR r) (H:q8):ACL Tryz.prog (KS E) 39 [.pl (r.map eS),.int .i64 (i:Int)] H (Ret (.int .i64 (piV (atR r i))) H):=by
 have hn:=hr.n
 have hl:=q5l hr.w i
 obtain ⟨x,hx,ca⟩:=qeb E (atR r i) (by omega)
 refine ACL.body (N:=15) [.tmp 4] Tryz.func39 rfl rfl rfl (Nat.le_of_ble_eq_true rfl) fun B hB=>?_
 try dsimp only [KS,q8j]
 refine Z5 ?_
 rcases hx with rfl | ⟨t,rfl⟩
 ·refine Z6p ?_
  refine Z7q ?_
  refine Z5i ?_
  refine Z5l ?_
  refine Z5m ?_
  refine Zy ?_
  exact Zd
 ·refine Z6p ?_
  refine Z7q ?_
  refine Z5i ?_
  refine Z5y ?_
  refine Z5m ?_
  refine Zy ?_
  exact Zd
theorem qec (r:List (List UInt8)) (i:Nat) (hi:i≤1000) (hr:RR r) (H:q8):AC Tryz.prog 38 [.pl (r.map eS),.int .i64 (i:Int)] H (Ret (.str (bs (q34 (atR r i)))) H):=by
 have hn:=hr.n
 have hl:=q5l hr.w i
 refine AC.body (N:=9) [.tmp 4] Tryz.func38 rfl rfl rfl (Nat.le_of_ble_eq_true rfl) fun B hB=>?_
 refine Z63 ?_
 refine Z6p ?_
 refine Z7q ?_
 refine ao2 Yq (V2.call (q84 (atR r i) (by omega) _) rfl) ?_
 refine Z17 ?_
 refine Z5m ?_
 exact Z1v
theorem qj5 {v:List UInt8}:∀ (l:List (List UInt8)) (j:Nat) (y:List UInt8),l[j]?=some y→j<l.idxOf v→v≠y
 | [],_,_,h,_=>by simp at h
 | x :: r,j,y,h,hj=>by
  rw [List.idxOf_cons] at hj
  by_cases e:x=v
  ·rw [show (x == v)=true by simpa using e] at hj
   simp at hj
  ·rw [show (x == v)=false by simpa using e] at hj
   simp only [cond_false] at hj
   cases j with
   | zero =>
    simp only [List.getElem?_cons_zero,Option.some.injEq] at h
    subst h
    exact fun h=>e h.symm
   | succ j =>
    rw [List.getElem?_cons_succ] at h
    exact qj5 r j y h (by omega)
theorem qlz {l:List (List UInt8)} {v:List UInt8} (h:v∈l):ixf (fun x=>decide (v=x)) l=(l.idxOf v:Int)∧l.idxOf v<l.length:=by
 have hlt:=List.idxOf_lt_length_of_mem h
 refine ⟨q6t (x:=v) (by rw [List.getElem?_eq_getElem hlt,List.getElem_idxOf hlt]) (by simp) fun y hy=>?_,hlt⟩
 obtain ⟨j,hj⟩:=List.mem_iff_getElem?.1 hy
 have hjl:=(List.getElem?_eq_some_iff.1 hj).1
 rw [List.length_take] at hjl
 rw [List.getElem?_take_of_lt (by omega)] at hj
 rw [decide_eq_false_iff_not]
 exact qj5 l j y hj (by omega)
theorem qk3 {l:List (List UInt8)} {v:List UInt8} (h:v∉l):ixf (fun x=>decide (v=x)) l = -1:=q6p fun y hy=>by
 rw [decide_eq_false_iff_not]
 intro e
 subst e
 exact h hy
theorem q8k (E:Errs) (r:List (List UInt8)) (i:Nat) (first:Int) (names:List (List UInt8)) (hi:i≤1000) (hr:RR r) (hf:0≤first∧first≤1000) (hnl:names.length≤1000) (H:q8):ACL Tryz.prog (KS E) 41 [.pl (r.map eS),.int .i64 (i:Int),.int .i64 first,.pl (names.map eS)] H (Ret (.int .i64 (q4h (atR r i) first names)) H):=by
 have hn:=hr.n
 refine ACL.body (N:=23) [.tmp 8] Tryz.func41 rfl rfl rfl (Nat.le_of_ble_eq_true rfl) fun B hB=>?_
 try dsimp only [KS,q8j]
 refine Z5 ?_
 refine Z2l ?_
 refine Z6t ?_
 refine Z7q ?_
 refine ao2 Yq (V2.call (qa2 names (atR r i) _ (by omega)) rfl) ?_
 refine Z4t ?_
 by_cases hm:atR r i∈names
 ·obtain ⟨e1,e2⟩:=qlz hm
  rw [e1,q4h,if_pos hm]
  refine Z4u ?_
  refine q5 rfl (fun hc=>?_) (fun hc=>?_)
  ·refine Z57 ?_
   refine ao1 (by decide) (q24 (r:=(names.idxOf (atR r i):Int)+first) rfl rfl (qb (by omega) (by omega))) ?_
   exact Zd
  ·simp at hc
 ·rw [qk3 hm,q4h,if_neg hm]
  refine Z4u ?_
  refine q5 rfl (fun hc=>?_) (fun hc=>?_)
  ·simp at hc
  ·refine Z6p ?_
   refine ao2 Yq (V2.callL (qdc E r i hi hr _) rfl ⟨rfl,rfl,rfl,rfl,trivial⟩) ?_
   refine Z4t ?_
   exact Z1v
theorem q3e (c:UInt8) (s:List UInt8):(q9 c s).length≤s.length+1:=by rw [q5z];have:=List.count_le_length (a:=c) (l:=s);omega
theorem q2k (c:UInt8):∀ s,∀ w∈q9 c s,w.length≤s.length
 | [],w,h=>by simp [q9] at h;simp [h]
 | x :: r,w,h=>by
  have ih:=q2k c r
  unfold q9 at h
  split at h
  ·rcases List.mem_cons.1 h with rfl | h
   ·simp
   ·have:=ih w h;simp;omega
  ·cases hs:q9 c r with
   | nil=>exact absurd hs (q3t c r)
   | cons w2 ws =>
    rw [hs] at h ih
    rcases List.mem_cons.1 h with rfl | h
    ·have:=ih w2 List.mem_cons_self;simp;omega
    ·have:=ih w (List.mem_cons_of_mem _ h);simp;omega
set_option maxHeartbeats 0 in
theorem qfe (E:Errs) (r:List (List UInt8)) (i:Nat) (hi:i≤1000) (hr:RR r) (hw:(atR r i).length≤10000) (H:q8):ACL Tryz.prog (KS E) 40 [.pl (r.map eS),.int .i64 (i:Int)] H (Ret (.pl ((qag (atR r i)).map eI)) H):=by
 have hn:=hr.n
 generalize hs:atR r i=s at hw
 have ct:=fun H=>qbu r i hi (by omega) H
 rw [hs] at ct
 have hmany:=q3e 44 s
 have hpart:=q2k 44 s
 refine ACL.body (N:=34) [.tmp 4] Tryz.func40 rfl rfl rfl (Nat.le_of_ble_eq_true rfl) fun B hB=>?_
 try dsimp only [KS,q8j]
 refine Z3f ?_
 refine Z6p ?_
 refine Z7r ?_
 refine ao1 (by decide) (q3w (q:=[45]) rfl rfl) ?_
 refine Z5o ?_
 refine q5 rfl (fun hc=>?_) (fun hc=>?_)
 ·have h:s=[45]:=of_decide_eq_true hc
  rw [qag,if_pos h]
  refine Z3g ?_
  refine qdy 4 rfl ?_
  refine q4m ?_
  exact Zc
 have h:¬ s=[45]:=of_decide_eq_false hc
 clear hc
 rw [qag,if_neg h]
 generalize hp:q9 44 s=p at hmany hpart
 have cs:=fun H=>q5u s 44 (by omega) H
 rw [hp] at cs
 refine Z3g ?_
 refine q2z (k:=0) 5 1 rfl (by decide) rfl ?_
 refine qi ?_
 refine Z6t ?_
 refine Z7r ?_
 refine Z7s ?_
 refine Z2o ?_
 refine Z72 ?_
 refine Z1a ?_
 refine qz (G:=Nat) (fun k=>k≤p.length) (fun k=>KE E++[(5,.sl (Lid H.length 0) k 0 k k),(17,.pl (p.map eS)),(18,.int .i64 (p.length:Int)),(19,.int .i64 (k:Int))]) (fun k=>H++[⟨k,1,((p.take k).map atV).map eI⟩]) (fun k=>p.length-k) 0 (Nat.zero_le _) Y3 (.inl rfl) ?_
 intro k hk
 refine Z2 ?_
 refine Zu ?_
 refine qc ?_
 refine Z4g ?_
 refine Z1 ?_
 refine q5 rfl (fun hc=>?_) (fun hc=>?_)
 ·have hlt:k<p.length:=by simpa using hc
  obtain ⟨x,hx,hxl⟩:=q1n hlt
  have hr:=qv eS hx
  have hxw:=hpart x hxl
  obtain ⟨v,hv,ca⟩:=qaj E x (by omega)
  have hlk:(((p.take k).map atV).map eI).length=k:=by rw [List.length_map,List.length_map,List.length_take];omega
  refine Z2r ?_
  refine Z73 ?_
  refine Z18 ?_
  rcases hv with rfl | ⟨t,rfl⟩
  ·refine Z5j ?_
   refine Z5l ?_
   refine Z5m ?_
   refine Z3k ?_
   refine Z7t ?_
   refine Z7u ?_
   refine Z3m ?_
   refine Z7v ?_
   refine Z4j ?_
   refine ⟨k+1,by omega,by omega,Y3,.inl ?_⟩
   rw [List.take_of_length_le (by rw [hlk];exact Nat.le_refl _),qe hx]
   simp
  ·refine Z5j ?_
   refine Z5y ?_
   refine Z5m ?_
   refine Z3k ?_
   refine Z7t ?_
   refine Z7u ?_
   refine Z3m ?_
   refine Z7v ?_
   refine Z4j ?_
   refine ⟨k+1,by omega,by omega,Y3,.inl ?_⟩
   rw [List.take_of_length_le (by rw [hlk];exact Nat.le_refl _),qe hx]
   simp
 ·have hkk:k=p.length:=by simp at hc;omega
  subst hkk
  rw [List.take_length]
  refine Z3j ?_
  refine Z3m ?_
  refine Z1a ?_
  refine qt (ys:=(p.map atV).map eI) 4 rfl rfl rfl rfl Y7 (by simp) (qlc 0 _) ?_
  refine q4m ?_
  exact Zc
set_option maxHeartbeats 0 in
theorem qfz (E:Errs) (r:List (List UInt8)) (hr:RR r) (hw:∀ w∈r,w.length≤3000) (H:q8):ACL Tryz.prog (KS E) 23 [.pl (r.map eS)] H (Ret (.tup [.agg (eOp (q1s r).1),.bool (q1s r).2]) H):=by
 have hn:=hr.n
 have cn:=fun i hi H=>qdc E r i hi hr H
 have ct:=fun i hi H=>qfs E r i hi hr H
 have cp:=fun i hi H=>qec r i hi hr H
 have ca:=fun i hi H=>qbu r i hi (by omega) H
 refine ACL.body (N:=65) [.cell 2 26,.tmp 3] Tryz.func23 rfl rfl rfl (Nat.le_of_ble_eq_true rfl) fun B hB=>?_
 try dsimp only [KS,q8j]
 refine Z2 ?_
 refine Z7w ?_
 refine Z1m ?_
 refine Z2j ?_
 refine Z2l ?_
 refine ao2 Yq (V2.call (ca 0 (by decide) _) rfl) ?_
 refine Z5m ?_
 refine Z2 ?_
 refine ao1 (by decide) (q3w (q:=kwSubmit) rfl rfl) ?_
 refine Zf ?_
 refine q5 rfl (fun hc=>?_) (fun hc=>?_)
 ·have h1:atR r 0=kwSubmit:=of_decide_eq_true hc
  rw [q1s,if_pos h1]
  have hwl:=q5l hw 8
  refine Z2l ?_
  refine Z7x ?_
  refine Z2k ?_
  refine ao2 Yq (V2.callL (cn 2 (by decide) _) rfl ⟨rfl,rfl,rfl,rfl,trivial⟩) ?_
  refine Z2k ?_
  refine ao2 Yq (V2.callL (cn 3 (by decide) _) rfl ⟨rfl,rfl,rfl,rfl,trivial⟩) ?_
  refine Z2k ?_
  refine ao2 Yq (V2.call (cp 4 (by decide) _) rfl) ?_
  refine Z2k ?_
  refine ao2 Yq (V2.call (ca 5 (by decide) _) rfl) ?_
  refine ao1 (by decide) (q3w (q:=q26) rfl rfl) ?_
  refine Z2k ?_
  refine ao2 Yq (V2.callL (ct 6 (by decide) _) rfl ⟨rfl,rfl,rfl,rfl,trivial⟩) ?_
  refine Z2k ?_
  refine ao2 Yq (V2.callL (cn 7 (by decide) _) rfl ⟨rfl,rfl,rfl,rfl,trivial⟩) ?_
  refine ao1 (by decide) (V1.up (qci (cs:=[.int _ _,.int _ _,.int _ _,.str _,.bool _,.int _ _,.int _ _]) rfl)) ?_
  refine Z7y ?_
  refine Z7z ?_
  refine qc ?_
  try dsimp only [put,List.length_cons,List.length_nil,Nat.reduceAdd,AV.up,List.cons_append,List.nil_append,List.set_cons_zero,List.set_cons_succ]
  refine Z1 ?_
  refine Z46 ?_
  refine aqr 0 rfl Ys (by decide) (fun G hG=>q5v rfl (lk rfl hG) rfl rfl rfl) ?_
  refine Z7k ?_
  refine q89 2 rfl Ys (by decide) (fun _=>V2.callL (qfe E r 8 (by decide) hr (by omega) _) rfl ⟨rfl,rfl,rfl,rfl,trivial⟩) ?_
  refine aq0 3 rfl Ys (by decide) (fun _=>V1.up (qci (cs:=[.int _ _,.int _ _,.int _ _,.int _ _,.str _,.bool _,.int _ _,.int _ _,_,.int _ _,.int _ _,.int _ _,_]) rfl)) ?_
  refine aqs 4 rfl Ys Yi Yw (q4a (sz:=13) rfl rfl rfl rfl rfl rfl rfl rfl (Nat.le_of_ble_eq_true rfl)) ?_
  refine aq0 5 rfl Ys (by decide) (fun _=>qn (v:=.bool _) rfl) ?_
  refine Z48 ?_
  exact Z81
 have h1:¬ atR r 0=kwSubmit:=of_decide_eq_false hc
 clear hc
 refine Z2 ?_
 refine ao1 (by decide) (q3w (q:=kwDo) rfl rfl) ?_
 refine Zf ?_
 refine q5 rfl (fun hc=>?_) (fun hc=>?_)
 ·have h2:atR r 0=kwDo:=of_decide_eq_true hc
  rw [q1s,if_neg h1,if_pos h2]
  refine Z2l ?_
  refine Z7x ?_
  refine Z2k ?_
  refine q10 (qab _) rfl (by decide) ?_
  refine ao2 Yq (V2.callL (q8k E r 2 1 jobsT (by decide) hr (by decide) (by decide) _) rfl ⟨rfl,rfl,rfl,rfl,trivial⟩) ?_
  refine Z84 ?_
  refine Z1m ?_
  exact Z81
 have h2:¬ atR r 0=kwDo:=of_decide_eq_false hc
 clear hc
 refine Z2 ?_
 refine ao1 (by decide) (q3w (q:=kwTick) rfl rfl) ?_
 refine Zf ?_
 refine q5 rfl (fun hc=>?_) (fun hc=>?_)
 ·have h3:atR r 0=kwTick:=of_decide_eq_true hc
  rw [q1s,if_neg h1,if_neg h2,if_pos h3]
  refine Z2l ?_
  refine Z85 ?_
  refine Z84 ?_
  refine Z1m ?_
  exact Z81
 have h3:¬ atR r 0=kwTick:=of_decide_eq_false hc
 clear hc
 refine Z2 ?_
 refine ao1 (by decide) (q3w (q:=kwLend) rfl rfl) ?_
 refine Zf ?_
 refine q5 rfl (fun hc=>?_) (fun hc=>?_)
 ·have h4:atR r 0=kwLend:=of_decide_eq_true hc
  rw [q1s,if_neg h1,if_neg h2,if_neg h3,if_pos h4]
  have hpl:(q34 (atR r 2)).length≤3000:=by
   have:=q5l hw 2
   unfold q34
   split
   ·rw [List.length_tail];omega
   ·exact this
  refine Z2l ?_
  refine ao2 Yq (V2.call (cp 2 (by decide) _) rfl) ?_
  refine ao2 Yq (V2.callL (qfb E (q34 (atR r 2)) (by omega) _) rfl ⟨rfl,rfl,rfl,rfl,trivial⟩) ?_
  refine Z74 ?_
  refine Z11 ?_
  refine Z43 ?_
  refine Z4t ?_
  refine Z2l ?_
  refine Z85 ?_
  refine Z2k ?_
  refine Z84 ?_
  refine Z1m ?_
  try dsimp only [put,AV.up,List.set_cons_zero]
  exact Z80
 have h4:¬ atR r 0=kwLend:=of_decide_eq_false hc
 clear hc
 refine Z2 ?_
 refine ao1 (by decide) (q3w (q:=kwMark) rfl rfl) ?_
 refine Zf ?_
 refine q5 rfl (fun hc=>?_) (fun hc=>?_)
 ·have h5:atR r 0=kwMark:=of_decide_eq_true hc
  rw [q1s,if_neg h1,if_neg h2,if_neg h3,if_neg h4,if_pos h5]
  refine Z2l ?_
  refine Z7x ?_
  refine Z2k ?_
  refine q10 (q7s _) rfl (by decide) ?_
  refine ao2 Yq (V2.callL (q8k E r 2 0 healthT (by decide) hr (by decide) (by decide) _) rfl ⟨rfl,rfl,rfl,rfl,trivial⟩) ?_
  refine Z84 ?_
  refine Z1m ?_
  exact Z81
 have h5:¬ atR r 0=kwMark:=of_decide_eq_false hc
 clear hc
 rw [q1s,if_neg h1,if_neg h2,if_neg h3,if_neg h4,if_neg h5]
 refine Z2 ?_
 refine Z84 ?_
 refine Z1m ?_
 exact Z81
set_option maxHeartbeats 0 in
theorem q54 (E:Errs) (o:OOp) (hn:o.needs.length≤100000) (hs:o.set.length≤100000) (H:q8):ACL Tryz.prog (KS E) 7 [.agg (eOp o)] H (Ret (.tup [.str (bs (q2o o).1),.int .i64 (q2o o).2]) H):=by
 refine ACL.body (N:=92) [.tmp 2,.tmp 3] Tryz.func7 rfl rfl rfl (Nat.le_of_ble_eq_true rfl) fun B hB=>?_
 try dsimp only [KS,q8j]
 refine Z7d ?_
 refine Z17 ?_
 refine Z4 ?_
 refine Z1z ?_
 refine Z2v ?_
 refine ao2 Yq (V2.call (qhj o (by omega) (by omega) _) rfl) ?_
 refine Z74 ?_
 refine Z11 ?_
 refine Z43 ?_
 refine Z4t ?_
 refine Zy ?_
 refine Z37 ?_
 refine Za ?_
 refine q5 rfl (fun hc=>?_) (fun hc=>?_)
 ·have hm:q14 o=false:=by
   cases hq:q14 o with
   | false=>rfl
   | true=>rw [qat,hq] at hc;simp at hc
  rw [show q2o o=([],1) by rw [q2o,hm];rfl]
  refine Z4q ?_
  refine Z4 ?_
  try dsimp only
  exact Z78
 have hm:q14 o=true:=by
  cases hq:q14 o with
  | true=>rfl
  | false=>rw [qat,hq] at hc;simp at hc
 clear hc
 rw [show q2o o=(qd o,0) by rw [q2o,hm];rfl]
 obtain ⟨hi2,hi3⟩:=qi8 hm
 refine Z2 ?_
 refine ao1 (by decide) (qn (v:=.fn _ _ _) rfl) ?_
 refine qc ?_
 try dsimp only
 refine Z3f ?_
 refine Z4f ?_
 refine qc ?_
 refine Z5d ?_
 refine Z7e ?_
 refine q5 rfl (fun hc=>?_) (fun hc=>?_)
 ·have hk:o.kind=1:=by simpa using hc
  obtain ⟨hsr,hnl,hnr⟩:=qae hm hk
  have hf:=q1l hsr
  obtain ⟨hp1,hp2,htag⟩:=q7c hsr
  have cd:=fun H=>q6v o.spec.tag.data.toList H
  simp only [qlh] at cd
  have hcl:=qf0 hnl hnr
  have hdl:(q1u o.spec.tag.data.toList).length≤16:=by
   unfold q1u
   split
   ·simp
   ·rw [q3z];exact htag
  have hlong:-9223372036854775808≤o.spec.long∧o.spec.long≤9223372036854775807:=by omega
  have hprio:-9223372036854775808≤o.spec.prio∧o.spec.prio≤9223372036854775807:=by omega
  have ln:=q1e (n:=o.spec.nodes) (by omega) (by omega)
  have lc:=q1e (n:=o.spec.cores) (by omega) (by omega)
  have lg:=q1e (n:=o.spec.gpus) (by omega) (by omega)
  have ll:=q1e hlong.1 hlong.2
  have lp:=q1e hprio.1 hprio.2
  refine Z7j ?_
  refine Z7f ?_
  refine Z7y ?_
  refine Z7z ?_
  refine qc ?_
  refine Z45 ?_
  refine Z63 ?_
  refine Z7j ?_
  refine Z29 ?_
  refine qc ?_
  refine Z5d ?_
  refine Z1 ?_
  refine q2r (KE E++[(1,.pt (Lid H.length 0) 0 0 0),(6,.fn (.func 14) [] []),(8,.pt (Lid H.length 1) 0 0 0),(9,.str (bs (if o.spec.whole then q26 else q53)))]) (H++[⟨0,13,[eOp o]⟩,⟨0,7,[qga o.spec]⟩]) ?_ ?_
  ·refine Z1 ?_
   refine q5 rfl (fun hc=>?_) (fun hc=>?_)
   ·refine Z63 ?_
    refine Z4g ?_
    refine ⟨?_,.inl rfl⟩
    rw [if_pos hc]
    exact Y3
   ·refine Z1 ?_
    refine ⟨?_,.inl rfl⟩
    rw [if_neg (by rw [hc];decide)]
    exact Y3
  have lw:(if o.spec.whole then q26 else q53).length≤5:=by split<;>decide
  have hline:qd o=Lib.join [kwSubmit,Lib.itoa o.spec.nodes,Lib.itoa o.spec.cores,Lib.itoa o.spec.gpus,q1u o.spec.tag.data.toList,if o.spec.whole then q26 else q53,Lib.itoa o.spec.long,Lib.itoa o.spec.prio,q1z o.needs] [32]:=by rw [qd,q15,if_pos hk]
  generalize hxs:[kwSubmit,Lib.itoa o.spec.nodes,Lib.itoa o.spec.cores,Lib.itoa o.spec.gpus,q1u o.spec.tag.data.toList,if o.spec.whole then q26 else q53,Lib.itoa o.spec.long,Lib.itoa o.spec.prio,q1z o.needs]=xs at hline
  have hxl:xs.length=9:=by rw [← hxs];rfl
  have hjl:=q23 32 400 xs (by
   rw [← hxs]
   intro x hx
   simp only [List.mem_cons,List.not_mem_nil,or_false] at hx
   rcases hx with rfl | rfl | rfl | rfl | rfl | rfl | rfl | rfl | rfl
   ·decide
   all_goals omega)
  rw [hxl] at hjl
  refine Z1d ?_
  try dsimp only [List.take_succ_cons,List.cons_append,List.nil_append]
  refine Z86 ?_
  refine Z87 ?_
  refine Z88 ?_
  refine q89 3 rfl Ys (by decide) (fun _=>V2.callvL (q2i E o.spec.nodes (by omega) (by omega) _) rfl rfl ⟨rfl,rfl,rfl,rfl,trivial⟩) ?_
  refine aq0 4 rfl Ys (by decide) (fun _=>qf (v:=.fn _ _ _) rfl) ?_
  refine aqp 5 rfl Ys (by decide) (fun G=>qg rfl (lk rfl rfl) rfl (by decide)) ?_
  refine aqp 6 rfl Ys (by decide) (fun G=>qp (v:=.int _ _) rfl (lk rfl rfl) rfl rfl rfl) ?_
  refine q89 7 rfl Ys (by decide) (fun _=>V2.callvL (q2i E o.spec.cores (by omega) (by omega) _) rfl rfl ⟨rfl,rfl,rfl,rfl,trivial⟩) ?_
  refine aq0 8 rfl Ys (by decide) (fun _=>qf (v:=.fn _ _ _) rfl) ?_
  refine aqp 9 rfl Ys (by decide) (fun G=>qg rfl (lk rfl rfl) rfl (by decide)) ?_
  refine aqp 10 rfl Ys (by decide) (fun G=>qp (v:=.int _ _) rfl (lk rfl rfl) rfl rfl rfl) ?_
  refine q89 11 rfl Ys (by decide) (fun _=>V2.callvL (q2i E o.spec.gpus (by omega) (by omega) _) rfl rfl ⟨rfl,rfl,rfl,rfl,trivial⟩) ?_
  refine aqp 12 rfl Ys (by decide) (fun G=>qg rfl (lk rfl rfl) rfl (by decide)) ?_
  refine aqp 13 rfl Ys (by decide) (fun G=>qp (v:=.str _) rfl (lk rfl rfl) rfl rfl rfl) ?_
  refine q89 14 rfl Ys (by decide) (fun _=>V2.call (cd _) rfl) ?_
  refine aq0 15 rfl Ys (by decide) (fun _=>qf (v:=.str _) rfl) ?_
  refine aqp 16 rfl Ys (by decide) (fun G=>qg rfl (lk rfl rfl) rfl (by decide)) ?_
  refine aqp 17 rfl Ys (by decide) (fun G=>qp (v:=.int _ _) rfl (lk rfl rfl) rfl rfl rfl) ?_
  refine q89 18 rfl Ys (by decide) (fun _=>V2.callL (q3b E o.spec.long hlong.1 hlong.2 _) rfl ⟨rfl,rfl,rfl,rfl,trivial⟩) ?_
  refine aq0 19 rfl Ys (by decide) (fun _=>qf (v:=.fn _ _ _) rfl) ?_
  refine aqp 20 rfl Ys (by decide) (fun G=>qg rfl (lk rfl rfl) rfl (by decide)) ?_
  refine aqp 21 rfl Ys (by decide) (fun G=>qp (v:=.int _ _) rfl (lk rfl rfl) rfl rfl rfl) ?_
  refine q89 22 rfl Ys (by decide) (fun _=>V2.callvL (q2i E o.spec.prio hprio.1 hprio.2 _) rfl rfl ⟨rfl,rfl,rfl,rfl,trivial⟩) ?_
  refine aqp 23 rfl Ys (by decide) (fun G=>qg rfl (lk rfl rfl) rfl (by decide)) ?_
  refine aqp 24 rfl Ys (by decide) (fun G=>qp (v:=.pl _) rfl (lk rfl rfl) rfl rfl rfl) ?_
  refine q89 25 rfl Ys (by decide) (fun _=>V2.callL (qcb E o.needs (by omega) (fun n hn=>by have:=hnr n hn;omega) _) rfl ⟨rfl,rfl,rfl,rfl,trivial⟩) ?_
  refine aqs 26 rfl Ys Ym Yq (q1b (rows:=[[_],[_],[_],[_],[_],[_],[_],[_],[_]]) rfl (by decide) (by decide) (by decide) rfl rfl (by simp) rfl) ?_
  refine aq0 27 rfl Ys (by decide) (fun _=>qn (v:=.sl _ _ _ _ _) rfl) ?_
  refine Z1i ?_
  refine Z89 ?_
  subst hxs
  refine Z3j ?_
  refine ao2 Yq (V2.call (q31 (xs:=[kwSubmit,Lib.itoa o.spec.nodes,Lib.itoa o.spec.cores,Lib.itoa o.spec.gpus,q1u o.spec.tag.data.toList,if o.spec.whole then q26 else q53,Lib.itoa o.spec.long,Lib.itoa o.spec.prio,q1z o.needs]) 32 (lk rfl rfl) (by show 9≤1000000;decide) (Nat.le_trans hjl (by show 9 * 401≤1000000;decide))) rfl) ?_
  refine Z8a ?_
  refine Z1 ?_
  rw [hline]
  exact Z40
 have hk1:¬ o.kind=1:=by simpa using hc
 clear hc
 have hkind:=qak hm
 refine Z7e ?_
 refine q5 rfl (fun hc=>?_) (fun hc=>?_)
 ·have hk:o.kind=2:=by simpa using hc
  obtain ⟨hid,hwh⟩:=hi2 (.inl hk)
  have hline:qd o=Lib.join [kwDo,Lib.itoa o.id,q27 o.what 1 jobsT] [32]:=by rw [qd,q15,if_neg hk1,if_pos hk]
  have l1:=q1e hid.1 hid.2
  have l2:=qaz (first:=1) (names:=jobsT) hwh.1 hwh.2 (by decide)
  have hjl:=q23 32 21 [kwDo,Lib.itoa o.id,q27 o.what 1 jobsT] (by
   intro x hx
   simp only [List.mem_cons,List.not_mem_nil,or_false] at hx
   rcases hx with rfl | rfl | rfl
   ·decide
   all_goals omega)
  rw [hline]
  refine Z1c ?_
  refine Z65 ?_
  refine Z86 ?_
  refine Z87 ?_
  refine Z88 ?_
  refine Z8b ?_
  refine Z8c ?_
  refine Z8d ?_
  refine q89 6 rfl Ys (by decide) (fun _=>V2.call (qab _) rfl) ?_
  refine q89 7 rfl Ys (by decide) (fun _=>V2.callL (qar E o.what 1 jobsT hwh.1 hwh.2 (by decide) (by decide) (by decide) _) rfl ⟨rfl,rfl,rfl,rfl,trivial⟩) ?_
  refine Z8e ?_
  refine Z7l ?_
  refine Z1i ?_
  refine Z89 ?_
  refine Z3j ?_
  refine ao2 Yq (V2.call (q31 (xs:=[kwDo,Lib.itoa o.id,q27 o.what 1 jobsT]) 32 (lk rfl rfl) (by show 3≤1000000;decide) (Nat.le_trans hjl (by show 3 * 22≤1000000;decide))) rfl) ?_
  refine Z8a ?_
  exact Z78
 have hk2:¬ o.kind=2:=by simpa using hc
 clear hc
 refine Z7e ?_
 refine q5 rfl (fun hc=>?_) (fun hc=>?_)
 ·have hk:o.kind=3:=by simpa using hc
  have ha:=hi3 (.inl hk)
  have hline:qd o=Lib.join [kwTick,Lib.itoa o.at_] [32]:=by rw [qd,q15,if_neg hk1,if_neg hk2,if_pos hk]
  have l1:=q1e ha.1 ha.2
  have hjl:=q23 32 21 [kwTick,Lib.itoa o.at_] (by
   intro x hx
   simp only [List.mem_cons,List.not_mem_nil,or_false] at hx
   rcases hx with rfl | rfl
   ·decide
   all_goals omega)
  rw [hline]
  refine qi ?_
  refine Z22 ?_
  refine ao2 Yq (V2.callL (q3b E o.at_ ha.1 ha.2 _) rfl ⟨rfl,rfl,rfl,rfl,trivial⟩) ?_
  refine ao2 Yq (q1b (rows:=[[_],[_]]) rfl (by decide) (by decide) (by decide) rfl rfl (by simp) rfl) ?_
  refine Z3m ?_
  refine Z89 ?_
  refine Z3j ?_
  refine ao2 Yq (V2.call (q31 (xs:=[kwTick,Lib.itoa o.at_]) 32 (lk rfl rfl) (by show 2≤1000000;decide) (Nat.le_trans hjl (by show 2 * 22≤1000000;decide))) rfl) ?_
  refine Z8a ?_
  exact Z78
 have hk3:¬ o.kind=3:=by simpa using hc
 clear hc
 refine Z7e ?_
 refine q5 rfl (fun hc=>?_) (fun hc=>?_)
 ·have hk:o.kind=4:=by simpa using hc
  have ha:=hi3 (.inr hk)
  have qf8:=qcs hm hk
  have hsl:=q7l qf8
  have hline:qd o=Lib.join [kwLend,Lib.itoa o.at_,q1u (q2m o.set)] [32]:=by rw [qd,q15,if_neg hk1,if_neg hk2,if_neg hk3,if_pos hk]
  have l1:=q1e ha.1 ha.2
  have l2:(q1u (q2m o.set)).length≤2048:=by
   unfold q1u
   split
   ·simp
   ·exact hsl
  have hjl:=q23 32 2048 [kwLend,Lib.itoa o.at_,q1u (q2m o.set)] (by
   intro x hx
   simp only [List.mem_cons,List.not_mem_nil,or_false] at hx
   rcases hx with rfl | rfl | rfl
   ·decide
   all_goals omega)
  rw [hline]
  refine Z1c ?_
  refine Z65 ?_
  refine aqp 0 rfl Ys (by decide) (fun G=>qg rfl (lk rfl rfl) rfl (by decide)) ?_
  refine aqp 1 rfl Ys (by decide) (fun G=>qp (v:=.int _ _) rfl (lk rfl rfl) rfl rfl rfl) ?_
  refine q89 2 rfl Ys (by decide) (fun _=>V2.callL (q3b E o.at_ ha.1 ha.2 _) rfl ⟨rfl,rfl,rfl,rfl,trivial⟩) ?_
  refine aqp 3 rfl Ys (by decide) (fun G=>qg rfl (lk rfl rfl) rfl (by decide)) ?_
  refine aqp 4 rfl Ys (by decide) (fun G=>qp (v:=.pl _) rfl (lk rfl rfl) rfl rfl rfl) ?_
  refine q89 5 rfl Ys (by decide) (fun _=>V2.callL (qdo E o.set (by omega) _) rfl ⟨rfl,rfl,rfl,rfl,trivial⟩) ?_
  refine q89 6 rfl Ys (by decide) (fun _=>V2.call (q6v _ _) rfl) ?_
  refine aqs 7 rfl Ys Ym Yq (q1b (rows:=[[_],[_],[_]]) rfl (by decide) (by decide) (by decide) rfl rfl (by simp) rfl) ?_
  refine Z4p ?_
  refine Z1i ?_
  refine Z89 ?_
  refine Z3j ?_
  refine ao2 Yq (V2.call (q31 (xs:=[kwLend,Lib.itoa o.at_,q1u (q2m o.set)]) 32 (lk rfl rfl) (by show 3≤1000000;decide) (Nat.le_trans hjl (by show 3 * 2049≤1000000;decide))) rfl) ?_
  refine Z8a ?_
  exact Z78
 have hk4:¬ o.kind=4:=by simpa using hc
 clear hc
 have hk:o.kind=5:=by omega
 refine Z7e ?_
 refine q5 rfl (fun hc=>?_) (fun hc=>?_)
 ·obtain ⟨hid,hwh⟩:=hi2 (.inr hk)
  have hline:qd o=Lib.join [kwMark,Lib.itoa o.id,q27 o.what 0 healthT] [32]:=by rw [qd,q15,if_neg hk1,if_neg hk2,if_neg hk3,if_neg hk4,if_pos hk]
  have l1:=q1e hid.1 hid.2
  have l2:=qaz (first:=0) (names:=healthT) hwh.1 hwh.2 (by decide)
  have hjl:=q23 32 21 [kwMark,Lib.itoa o.id,q27 o.what 0 healthT] (by
   intro x hx
   simp only [List.mem_cons,List.not_mem_nil,or_false] at hx
   rcases hx with rfl | rfl | rfl
   ·decide
   all_goals omega)
  rw [hline]
  refine Z1c ?_
  refine Z65 ?_
  refine Z86 ?_
  refine Z87 ?_
  refine Z88 ?_
  refine Z8b ?_
  refine Z8c ?_
  refine Z8d ?_
  refine q89 6 rfl Ys (by decide) (fun _=>V2.call (q7s _) rfl) ?_
  refine q89 7 rfl Ys (by decide) (fun _=>V2.callL (qar E o.what 0 healthT hwh.1 hwh.2 (by decide) (by decide) (by decide) _) rfl ⟨rfl,rfl,rfl,rfl,trivial⟩) ?_
  refine Z8e ?_
  refine Z7l ?_
  refine Z1i ?_
  refine Z89 ?_
  refine Z3j ?_
  refine ao2 Yq (V2.call (q31 (xs:=[kwMark,Lib.itoa o.id,q27 o.what 0 healthT]) 32 (lk rfl rfl) (by show 3≤1000000;decide) (Nat.le_trans hjl (by show 3 * 22≤1000000;decide))) rfl) ?_
  refine Z8a ?_
  exact Z78
 ·simp [hk] at hc
theorem qgf (s:List UInt8):(qag s).length≤s.length+1:=by
 unfold qag
 split
 ·exact Nat.zero_le _
 ·rw [List.length_map];exact q3e 44 s
theorem q7p:∀ (xs:List (List UInt8)) (out o:List Int),out.length≤256→q1j out xs=some o→o.length≤256
 | [],out,o,h,e=>by simp [q1j] at e;subst e;exact h
 | s :: r,out,o,h,e=>by
  unfold q1j at e
  split at e
  ·cases e
  ·rename_i l hl
   split at e
   ·cases e
   ·rename_i hn
    exact q7p r (out++l) o (by rw [List.length_append];omega) e
theorem qe8 (s:List UInt8):(q3q s).1.length≤256:=by
 unfold q3q
 split
 ·exact Nat.zero_le _
 ·split
  ·exact Nat.zero_le _
  ·split
   ·exact Nat.zero_le _
   ·rename_i out h
    split
    ·exact q7p _ [] out (Nat.zero_le _) h
    ·exact Nat.zero_le _
theorem qap {r:List (List UInt8)} (hw:∀ w∈r,w.length≤3000):(q1s r).1.needs.length≤100000∧(q1s r).1.set.length≤100000:=by
 have h8:=q5l hw 8
 have hl:=qgf (atR r 8)
 have hp:=qe8 (q34 (atR r 2))
 unfold q1s
 split
 ·exact ⟨by simp only;omega,Nat.zero_le _⟩
 ·split
  ·exact ⟨Nat.zero_le _,Nat.zero_le _⟩
  ·split
   ·exact ⟨Nat.zero_le _,Nat.zero_le _⟩
   ·split
    ·exact ⟨Nat.zero_le _,by simp only;omega⟩
    ·split
     ·exact ⟨Nat.zero_le _,Nat.zero_le _⟩
     ·exact ⟨Nat.zero_le _,Nat.zero_le _⟩
set_option maxHeartbeats 0 in
theorem q1k (E:Errs) (s:List UInt8) (hs0:s.length≤1000000) (H:q8):ACL Tryz.prog (KS E) 8 [.str (bs s)] H (Ret (.tup [.agg (eOp (ql s).1),.int .i64 (ql s).2]) H):=by
 refine ACL.body (N:=35) [.cell 2 26,.tmp 3] Tryz.func8 rfl rfl rfl (Nat.le_of_ble_eq_true rfl) fun B hB=>?_
 try dsimp only [KS,q8j]
 refine Z2 ?_
 refine Z7w ?_
 refine Z4 ?_
 refine Z2j ?_
 refine Z7 ?_
 refine Z51 ?_
 refine Z3o ?_
 refine Za ?_
 refine q5 rfl (fun hc=>?_) (fun hc=>?_)
 ·have hl:2048<s.length:=by simp at hc;omega
  rw [ql,if_pos hl]
  refine Z2 ?_
  refine Z84 ?_
  refine Z4 ?_
  exact Z81
 have hl:¬ 2048<s.length:=by simp at hc;omega
 clear hc
 have hmany:=q3e 32 s
 have hpart:=q2k 32 s
 have hw:∀ w∈q9 32 s,w.length≤3000:=fun w hw=>by have:=hpart w hw;omega
 have hRR:RR (q9 32 s):=⟨by omega,fun w hw=>by have:=hpart w hw;omega⟩
 have hlen:=qap hw
 have hP:ql s=if (q1s (q9 32 s)).2=false then (op0,10)
   else if q14 (q1s (q9 32 s)).1=true∧qd (q1s (q9 32 s)).1=s then ((q1s (q9 32 s)).1,0)
   else (op0,3):=by rw [ql,if_neg hl]
 have cr:=fun H=>qfz E (q9 32 s) hRR hw H
 have cs:=fun H=>q5u s 32 (by omega) H
 generalize q9 32 s=r at *
 generalize hq:q1s r=q at *
 obtain ⟨o,ok⟩:=q
 simp only at hlen hP cr
 refine Z7 ?_
 refine Z7s ?_
 refine ao2 Yq (V2.callL (cr _) rfl ⟨rfl,rfl,rfl,rfl,trivial⟩) ?_
 refine Z34 ?_
 refine Z35 ?_
 refine Z8f ?_
 refine Z1m ?_
 refine Z45 ?_
 refine Z2 ?_
 refine Zi ?_
 refine Z3y ?_
 refine q5 rfl (fun hc=>?_) (fun hc=>?_)
 ·have hk:ok=false:=by simpa using hc
  rw [hP,if_pos hk]
  refine Z2 ?_
  refine Z84 ?_
  refine Z4 ?_
  exact Z81
 have hk:¬ ok=false:=by simpa using hc
 clear hc
 rw [if_neg hk] at hP
 refine Z2v ?_
 refine ao2 Yq (V2.callL (q54 E o hlen.1 hlen.2 _) rfl ⟨rfl,rfl,rfl,rfl,trivial⟩) ?_
 refine Z5f ?_
 refine Z11 ?_
 refine Z8a ?_
 by_cases hm:q14 o=true
 ·rw [show q2o o=(qd o,0) by rw [q2o,hm];rfl]
  refine Z1 ?_
  refine qm 32 (.bool (!decide (qd o=s))) ?_ ?_
  ·refine Z8 ?_
   refine Z37 ?_
   refine Zi ?_
   refine q7 rfl rfl (fun hg2=>?_) (fun hg2=>?_)
   ·refine Z2b ?_
    refine Z2a ?_
    refine Zm ?_
    exact Z8g
   ·refine Z1q ?_
    refine Z1q ?_
    refine Z8h ?_
    refine Zr ?_
    exact Zx
  refine Z1 ?_
  refine q5 rfl (fun hc=>?_) (fun hc=>?_)
  ·have hne:¬ qd o=s:=by simpa using hc
   rw [hP,if_neg (fun h=>hne h.2)]
   refine Z2 ?_
   refine Z84 ?_
   refine Z4 ?_
   exact Z81
  ·have he:qd o=s:=by simpa using hc
   rw [hP,if_pos ⟨hm,he⟩]
   refine Z2v ?_
   refine Z83 ?_
   refine Z4 ?_
   refine Z2x ?_
   exact Z80
 ·rw [show q2o o=([],1) by rw [q2o,if_neg hm]]
  refine Z1 ?_
  refine qm 32 (.bool true) ?_ ?_
  ·refine Z8 ?_
   refine Z37 ?_
   refine Zi ?_
   refine q7 rfl rfl (fun hg2=>?_) (fun hg2=>?_)
   ·refine Z2b ?_
    refine Z2a ?_
    exact Z5z
   ·refine Z1q ?_
    refine Z1q ?_
    refine Z8h ?_
    refine Zr ?_
    exact Z8g
  refine Z1 ?_
  refine q5 rfl (fun hc=>?_) (fun hc=>?_)
  ·rw [hP,if_neg (fun h=>hm h.1)]
   refine Z2 ?_
   refine Z84 ?_
   refine Z4 ?_
   exact Z81
  ·simp at hc
theorem qc5 (o:OOp) (H:q8):AC Tryz.prog 6 [.agg (eOp o)] H (Ret (.bool (decide (o.needs.length≤20)&&decide (o.set.length≤60))) H):=by
 refine AC.body (N:=13) [.tmp 2] Tryz.func6 rfl rfl rfl (Nat.le_of_ble_eq_true rfl) fun B hB=>?_
 refine Z7d ?_
 refine Z1m ?_
 refine Z1z ?_
 refine Z1 ?_
 refine qm 2 (.bool (decide (o.needs.length≤20)&&decide (o.set.length≤60))) ?_ ?_
 ·refine Z20 ?_
  refine Z7m ?_
  refine Z2m ?_
  refine Zh ?_
  refine Zi ?_
  refine q7 rfl rfl (fun hg4=>?_) (fun hg4=>?_)
  ·refine Z7g ?_
   refine Z77 ?_
   refine Zw ?_
   exact Zo
  ·refine Zq ?_
   refine Zt ?_
   exact Zo
 exact Z1v
theorem qjp (a b:OOp):a=b↔a.kind=b.kind∧a.spec=b.spec∧a.needs=b.needs∧a.id=b.id∧a.what=b.what∧a.at_=b.at_∧a.set=b.set:=by
 cases a;cases b;simp
set_option maxHeartbeats 0 in
theorem q3h (a b:OOp) (ha:a.needs.length≤1000000) (ha2:a.set.length≤1000000) (hb:b.needs.length≤1000000) (hb2:b.set.length≤1000000) (H:q8):AC Tryz.prog 10 [.agg (eOp a),.agg (eOp b)] H (Ret (.bool (decide (a=b))) H):=by
 have heq:=qjp a b
 refine AC.body (N:=52) [.tmp 4] Tryz.func10 rfl rfl rfl (Nat.le_of_ble_eq_true rfl) fun B hB=>?_
 refine Z7d ?_
 refine Z7c ?_
 refine Z1m ?_
 try dsimp only [List.length_nil,put,AV.cells,List.nil_append,List.length_cons,Nat.reduceAdd,List.cons_append]
 refine Z1 ?_
 refine qm 4 (.bool (decide (a=b))) ?_ ?_
 ·refine Z22 ?_
  refine Z22 ?_
  refine Zz ?_
  refine Zi ?_
  refine q7 rfl rfl (fun hg5=>?_) (fun hg5=>?_)
  ·refine Z23 ?_
   refine Z8i ?_
   refine Z23 ?_
   refine Z8i ?_
   refine q12 rfl rfl (by decide) (qkz (us:=qh7 a.spec) (vs:=qh7 b.spec) rfl rfl rfl rfl Yz (qei _ _)) ?_
   refine Z26 ?_
   refine q7 rfl rfl (fun hg12=>?_) (fun hg12=>?_)
   ·refine Z7g ?_
    refine Z7g ?_
    refine qip rfl rfl (by decide) (V2.call (q8y a.needs b.needs (by omega) _) rfl) ?_
    refine Z26 ?_
    refine q7 rfl rfl (fun hg19=>?_) (fun hg19=>?_)
    ·refine Z24 ?_
     refine Z24 ?_
     refine Z8j ?_
     refine q7 rfl rfl (fun hg26=>?_) (fun hg26=>?_)
     ·refine Z24 ?_
      refine Z24 ?_
      refine Z8j ?_
      refine q7 rfl rfl (fun hg33=>?_) (fun hg33=>?_)
      ·refine Z24 ?_
       refine Z24 ?_
       refine Z8j ?_
       refine q7 rfl rfl (fun hg40=>?_) (fun hg40=>?_)
       ·refine Z7g ?_
        refine Z7g ?_
        refine qip rfl rfl (by decide) (V2.call (q8y a.set b.set (by omega) _) rfl) ?_
        refine Zn ?_
        exact Z7a
       ·refine Zq ?_
        exact Z8k
      ·refine Z8m ?_
       exact Z8k
     ·refine Z8m ?_
      refine Z8l ?_
      exact Z8k
    ·refine Z8m ?_
     refine Z8l ?_
     refine Z8l ?_
     exact Z8k
   ·refine Z8m ?_
    refine Z8l ?_
    refine Z8l ?_
    refine Z8l ?_
    exact Z8k
  ·refine Z8m ?_
   refine Z8l ?_
   refine Z8l ?_
   refine Z8l ?_
   refine Z8l ?_
   exact Z8k
 exact Z1v
set_option maxHeartbeats 0 in
theorem qbt (o:OOp) (H:q8):AC Tryz.prog 11 [.agg (eOp o)] H (Ret (.agg (eOp (q1c o))) H):=by
 refine AC.body (N:=34) [.cell 2 26] Tryz.func11 rfl rfl rfl (Nat.le_of_ble_eq_true rfl) fun B hB=>?_
 refine Z7d ?_
 refine Z7w ?_
 refine qc ?_
 try dsimp only [put,AV.cells,List.nil_append,List.length_cons,List.length_nil,Nat.reduceAdd,List.cons_append]
 refine Z4f ?_
 refine qc ?_
 refine Z5d ?_
 refine Z7e ?_
 refine q5 rfl (fun hc=>?_) (fun hc=>?_)
 ·have hk:o.kind=1:=by simpa using hc
  rw [q1c,if_pos hk]
  refine Z7j ?_
  refine Z7f ?_
  refine Z20 ?_
  refine Z7m ?_
  refine Z84 ?_
  refine qc ?_
  refine Z8n ?_
  refine Z1 ?_
  exact Z8o
 have hk1:¬ o.kind=1:=by simpa using hc
 clear hc
 refine Z7e ?_
 refine q2r ([(1,.pt (Lid H.length 0) 0 0 0),(2,.pt (Lid H.length 1) 0 0 0),(4,.int .i64 o.kind),(12,.bool (decide (o.kind=2∨o.kind=5)))]) (H++[⟨0,13,[eOp o]⟩,⟨0,13,[[.int .i64 0,.int .i64 0,.int .i64 0,.int .i64 0,.str ⟨#[]⟩,.bool false,.int .i64 0,.int .i64 0,.nsl,.int .i64 0,.int .i64 0,.int .i64 0,.nsl]]⟩]) ?_ ?_
 ·refine Z1 ?_
  refine q5 rfl (fun hc=>?_) (fun hc=>?_)
  ·have hk:o.kind=2:=by simpa using hc
   rw [hc]
   refine Z1 ?_
   refine ⟨?_,.inl rfl⟩
   rw [show decide (o.kind=2∨o.kind=5)=true from decide_eq_true (.inl hk)]
   exact Y3
  ·have hk:¬ o.kind=2:=by simpa using hc
   refine qi ?_
   refine Zz ?_
   refine Z1m ?_
   refine ⟨?_,.inl rfl⟩
   rw [show decide (o.kind=2∨o.kind=5)=(o.kind == 5) by rw [Bool.eq_iff_iff];simp [hk]]
   exact Y3
 refine Z1 ?_
 refine q5 rfl (fun hc=>?_) (fun hc=>?_)
 ·have hk:o.kind=2∨o.kind=5:=of_decide_eq_true hc
  rw [q1c,if_neg hk1,if_pos hk]
  refine Z4f ?_
  refine Z22 ?_
  refine Z22 ?_
  refine Z84 ?_
  refine qc ?_
  refine Z8p ?_
  refine Z1 ?_
  exact Z8o
 have hk2:¬ (o.kind=2∨o.kind=5):=of_decide_eq_false hc
 clear hc
 refine Z7e ?_
 refine q5 rfl (fun hc=>?_) (fun hc=>?_)
 ·have hk:o.kind=3:=by simpa using hc
  rw [q1c,if_neg hk1,if_neg hk2,if_pos hk]
  refine Z4f ?_
  refine Z84 ?_
  refine qc ?_
  refine Z8p ?_
  refine Z1 ?_
  exact Z8o
 have hk3:¬ o.kind=3:=by simpa using hc
 rw [q1c,if_neg hk1,if_neg hk2,if_neg hk3]
 refine Z4f ?_
 refine Z22 ?_
 refine Z20 ?_
 refine Z7m ?_
 refine Z84 ?_
 refine qc ?_
 refine Z8n ?_
 refine Z1 ?_
 exact Z8o
theorem qgc (l:List OOp):∀ r∈l.map eOp,r.length=13:=q46 (e:=eOp) (n:=13) (fun _=>rfl) l
theorem qbx (n:Nat) (l:List OOp):∀ r∈l.map eOp,AV.bels n r=true:=q2s (e:=eOp) (fun _=>rfl) l
theorem qej (s:List UInt8):(ql s).1.needs.length≤100000∧(ql s).1.set.length≤100000:=by
 by_cases hl:2048<s.length
 ·rw [ql,if_pos hl];exact ⟨Nat.zero_le _,Nat.zero_le _⟩
 ·have hpart:=q2k 32 s
  have hw:∀ w∈q9 32 s,w.length≤3000:=fun w hw=>by have:=hpart w hw;omega
  have hlen:=qap hw
  rw [ql,if_neg hl]
  split
  ·exact ⟨Nat.zero_le _,Nat.zero_le _⟩
  ·split
   ·exact hlen
   ·exact ⟨Nat.zero_le _,Nat.zero_le _⟩
structure GLn where
 k:Nat
 out:List OOp
set_option maxHeartbeats 0 in
theorem qer (E:Errs) (s:List UInt8) (hs0:s.length≤99000) (H:q8):ACL Tryz.prog (KS E) 9 [.str (bs s)] H (Ret (.tup [.pl ((q73 s).1.map eOp),.int .i64 (q73 s).2.1,.int .i64 (q73 s).2.2]) H):=by
 have cs:=fun H=>q5u s 10 (by omega) H
 have hmany:=q3e 10 s
 have hpart:=q2k 10 s
 have hP:q73 s=q2q (q9 10 s) 0 []:=rfl
 generalize q9 10 s=p at *
 generalize q73 s=res at *
 refine ACL.body (N:=45) [.tmp 2,.tmp 3,.tmp 4] Tryz.func9 rfl rfl rfl (Nat.le_of_ble_eq_true rfl) fun B hB=>?_
 try dsimp only [KS,q8j]
 refine Z3e ?_
 refine Z12 ?_
 refine Z3g ?_
 refine q2z (k:=0) 5 13 rfl (by decide) rfl ?_
 refine qi ?_
 refine Z6 ?_
 refine Z7s ?_
 refine Z2o ?_
 refine Z72 ?_
 refine Z1a ?_
 refine qz (G:=GLn) (fun g=>g.k≤p.length∧res=q2q (p.drop g.k) g.k g.out∧g.out.length≤g.k) (fun g=>KE E++[(5,.sl (Lid H.length 0) g.out.length 0 g.out.length g.out.length),(11,.pl (p.map eS)),(12,.int .i64 (p.length:Int)),(13,.int .i64 (g.k:Int))]) (fun g=>H++[⟨g.out.length,13,g.out.map eOp⟩]) (fun g=>p.length-g.k) ⟨0,[]⟩ ⟨Nat.zero_le _,hP,Nat.le_refl _⟩ Y3 (.inl rfl) ?_
 rintro ⟨k,out⟩ ⟨i1,i2,i3⟩
 simp only at i1 i2 i3 ⊢
 refine Z2 ?_
 refine Zu ?_
 refine qc ?_
 refine Z4g ?_
 refine Z1 ?_
 refine q5 rfl (fun hc=>?_) (fun hc=>?_)
 ·have hlt:k<p.length:=by simpa using hc
  obtain ⟨x,hx,hxl⟩:=q1n hlt
  have hr:=qv eS hx
  have hxw:=hpart x hxl
  rw [q3n hx] at i2
  clear hc
  refine Zy ?_
  refine Z2q ?_
  refine Z73 ?_
  refine Z3 ?_
  refine Z18 ?_
  refine Z4u ?_
  refine q5 rfl (fun hc=>?_) (fun hc=>?_)
  ·have h5:512≤k:=by simp at hc;omega
   rw [q2q,if_pos h5] at i2
   rw [i2]
   refine Zy ?_
   refine Z8q ?_
   refine Z3d ?_
   refine Z12 ?_
   try dsimp only
   refine Z3z ?_
   refine q4m ?_
   exact Z4w
  have h5:¬ 512≤k:=by simp at hc;omega
  clear hc
  rw [q2q,if_neg h5] at i2
  cases x with
  | nil =>
   rw [if_pos (.inl rfl)] at i2
   refine Z1 ?_
   refine qm 28 (.bool true) ?_ ?_
   ·refine Z6 ?_
    refine Z7p ?_
    refine Zi ?_
    refine q7 rfl rfl (fun hg2=>?_) (fun hg2=>?_)
    ·refine Z2b ?_
     refine Z2a ?_
     exact Z5z
    ·exfalso;simp at hg2
   refine Z1 ?_
   refine q5 rfl (fun hc=>?_) (fun hc=>?_)
   ·refine Z4j ?_
    exact ⟨⟨k+1,out⟩,by simp only;omega,⟨by simp only;omega,i2,by simp only;omega⟩,Y3,.inl rfl⟩
   ·simp at hc
  | cons c t =>
  refine Z1 ?_
  refine qm 28 (.bool (decide ((c :: t).head?=some 35))) ?_ ?_
  ·refine Z6 ?_
   refine Z7p ?_
   refine Zi ?_
   refine q7 rfl rfl (fun hg2=>?_) (fun hg2=>?_)
   ·refine Z2b ?_
    refine Z2a ?_
    refine Zm ?_
    exact Z8r
   ·refine Z1q ?_
    refine q12 rfl rfl (by decide) (q7g (n:=0) (c:=c) rfl rfl rfl) ?_
    refine Z3q ?_
    refine Zr ?_
    exact Z8r
  refine Z1 ?_
  refine q5 rfl (fun hc=>?_) (fun hc=>?_)
  ·have hh:(c :: t).head?=some 35:=of_decide_eq_true hc
   rw [if_pos (.inr hh)] at i2
   refine Z4j ?_
   exact ⟨⟨k+1,out⟩,by simp only;omega,⟨by simp only;omega,i2,by simp only;omega⟩,Y3,.inl rfl⟩
  have hh:¬ (c :: t).head?=some 35:=of_decide_eq_false hc
  clear hc
  rw [if_neg (fun h=>h.elim (fun e=>by cases e) hh)] at i2
  generalize c :: t=x at *
  have cp:=fun H=>q1k E x (by omega) H
  generalize ql x=q at *
  obtain ⟨o,e⟩:=q
  simp only at i2 cp
  refine Z7 ?_
  refine ao2 Yq (V2.callL (cp _) rfl ⟨rfl,rfl,rfl,rfl,trivial⟩) ?_
  refine Z8u ?_
  refine Z45 ?_
  refine Zy ?_
  refine Z37 ?_
  refine Za ?_
  refine q5 rfl (fun hc=>?_) (fun hc=>?_)
  ·have he:e≠0:=by simpa using hc
   rw [if_pos he] at i2
   rw [i2]
   refine Z57 ?_
   refine Z8q ?_
   refine Z3d ?_
   refine Z12 ?_
   try dsimp only
   refine Z3z ?_
   refine q4m ?_
   exact Z4w
  ·have he:¬ e≠0:=by simpa using hc
   rw [if_neg he] at i2
   refine Z3j ?_
   refine Z2u ?_
   refine ao2 Yq (q4k (sz:=13) (v:=.agg (eOp o)) (cs:=eOp o) rfl (by decide) (by decide) rfl rfl rfl rfl rfl) ?_
   refine ao2 Yq (q5c rfl rfl rfl rfl rfl (Src.pl (ys:=[eOp o]) rfl (qgc [o])) rfl (by simp) (by simp) Yx Yx) ?_
   refine Z3m ?_
   try dsimp only [List.length_cons,List.length_nil,Nat.reduceAdd,put,List.set_cons_zero]
   refine Z4j ?_
   refine ⟨⟨k+1,out++[o]⟩,by simp only;omega,⟨by simp only;omega,i2,by simp only [List.length_append,List.length_cons,List.length_nil];omega⟩,by simp only [List.length_append,List.length_cons,List.length_nil];exact Y3,Fit.loc hB (G:=[⟨0,13,[eOp o]⟩]) ?_ Y1 (fun a ha=>?_)⟩
   ·rw [List.take_of_length_le (by simp)]
    simp
   ·simp only [List.mem_singleton] at ha
    subst ha
    exact qbx _ (out++[o])
 ·have hk:k=p.length:=by simp at hc;omega
  subst hk
  rw [List.drop_length,q2q] at i2
  rw [i2]
  refine Z1a ?_
  refine qt (ys:=out.map eOp) 5 rfl rfl rfl rfl Y7 (by simp) (qbx 0 _) ?_
  refine qi ?_
  refine Z2k ?_
  refine Z43 ?_
  refine Z12 ?_
  try dsimp only [List.set_cons_zero]
  refine Z1 ?_
  exact Z4w
set_option maxHeartbeats 0 in
theorem qes (a b:List OOp) (hl:a.length≤1000000) (ha:∀ x∈a,x.needs.length≤100000∧x.set.length≤100000) (hb:∀ x∈b,x.needs.length≤100000∧x.set.length≤100000) (H:q8):AC Tryz.prog 12 [.pl (a.map eOp),.pl (b.map eOp)] H (Ret (.bool (decide (a=b))) H):=by
 refine AC.body (N:=27) [.tmp 4] Tryz.func12 rfl rfl rfl (Nat.le_of_ble_eq_true rfl) fun B hB=>?_
 refine Z1n ?_
 refine Z2l ?_
 refine Z2m ?_
 refine Z36 ?_
 refine Z37 ?_
 refine Za ?_
 refine q5 rfl (fun hc=>?_) (fun hc=>?_)
 ·have hne:¬ a.length=b.length:=by simp at hc;omega
  rw [show decide (a=b)=false from decide_eq_false fun e=>hne (by rw [e])]
  exact Z38
 have hlen:a.length=b.length:=by simp at hc;omega
 clear hc
 refine Z5 ?_
 refine Z1a ?_
 refine qz (G:=Nat) (fun k=>k≤a.length∧a.take k=b.take k) (fun k=>[(0,.pl (a.map eOp)),(1,.pl (b.map eOp)),(5,.int .i64 (k:Int))]) (fun _=>H++[]) (fun k=>a.length-k) 0 ⟨Nat.zero_le _,rfl⟩ Y3 (Fit.refl _ _) ?_
 rintro k ⟨hk,hpre⟩
 refine Zy ?_
 refine Z36 ?_
 refine Z1b ?_
 refine q5 rfl (fun hc=>?_) (fun hc=>?_)
 ·have hlt:k<a.length:=by simpa using hc
  obtain ⟨x,hx,hxl⟩:=q1n hlt
  obtain ⟨y,hy,hyl⟩:=q1n (l:=b) (k:=k) (by omega)
  have hr:=qv eOp hx
  have hr1:=qv eOp hy
  have hxa:=ha x hxl
  have hyb:=hb y hyl
  refine Z1d ?_
  refine Z39 ?_
  refine Z1f ?_
  refine Z3a ?_
  refine aqp 3 rfl Ys (by decide) (fun G=>q93 rfl hr rfl) ?_
  refine Z3b ?_
  refine Z1k ?_
  refine Z3c ?_
  refine aqp 7 rfl Ys (by decide) (fun G=>q93 rfl hr1 rfl) ?_
  refine q89 8 rfl Ys (by decide) (fun _=>V2.call (q3h x y (by omega) (by omega) (by omega) (by omega) _) rfl) ?_
  refine aq0 9 rfl Ys (by decide) (fun _=>qfx rfl) ?_
  refine Z1i ?_
  refine Z1 ?_
  refine q5 rfl (fun hc=>?_) (fun hc=>?_)
  ·have hne:¬ x=y:=by simpa using hc
   rw [show decide (a=b)=false from decide_eq_false fun e=>hne (by rw [e,hy] at hx;exact (Option.some.inj hx).symm)]
   exact Z38
  ·have he:x=y:=by simpa using hc
   refine Zy ?_
   refine Z31 ?_
   refine Zb ?_
   refine ⟨k+1,by omega,⟨by omega,?_⟩,Y3,.refl _ _⟩
   rw [qe hx,qe hy,hpre,he]
 ·have hk2:k=a.length:=by simp at hc;omega
  subst hk2
  rw [List.take_length,List.take_of_length_le (by omega)] at hpre
  rw [show decide (a=b)=true from decide_eq_true hpre]
  exact Z38
def awS:List UInt8:=[115,117,98,109,105,116,32,50,32,49,32,48,32,45,32,112,97,114,116,32,53,32,45,51,32,49,44,50]
def awO:OOp:=⟨1,⟨2,1,0,⟨#[]⟩,false,5,-3⟩,[1,2],0,0,0,[]⟩
def awM:OOp:=⟨5,q4q,[],4,1,0,[]⟩
theorem dd1 {u:Nat} (h:u<10):Lib.decDigits u=[UInt8.ofNat (48+u)]:=by rw [q4r,if_pos h]
theorem it1 {n:Int} (h0:0≤n) (h:n<10):Lib.itoa n=[UInt8.ofNat (48+n.toNat)]:=by
 rw [Lib.itoa,if_neg (by omega),dd1 (by omega)]
theorem qk2:qd awO=awS:=by
 have e1:Lib.itoa 2=[50]:=it1 (by decide) (by decide)
 have e2:Lib.itoa 1=[49]:=it1 (by decide) (by decide)
 have e3:Lib.itoa 0=[48]:=it1 (by decide) (by decide)
 have e4:Lib.itoa 5=[53]:=it1 (by decide) (by decide)
 have e5:Lib.itoa (-3)=[45,51]:=by rw [Lib.itoa,if_pos (by decide),show (-3:Int).natAbs=3 from rfl,dd1 (by decide)];rfl
 have e6:q1z [1,2]=[49,44,50]:=by
  rw [q1z,List.map_cons,List.map_cons,List.map_nil,e1,e2];rfl
 rw [qd,q15,if_pos (show awO.kind=1 from rfl)]
 simp only [awO,e1,e2,e3,e4,e5,e6]
 rfl
theorem qk1:qd awM=[109,97,114,107,32,52,32,100,114,97,105,110]:=by
 have e1:Lib.itoa 4=[52]:=it1 (by decide) (by decide)
 rw [qd,q15,if_neg (show ¬ awM.kind=1 by decide),if_neg (show ¬ awM.kind=2 by decide),if_neg (show ¬ awM.kind=3 by decide),if_neg (show ¬ awM.kind=4 by decide),if_pos (show awM.kind=5 from rfl)]
 simp only [awM,e1]
 rfl
theorem qio:ql awS=(awO,0):=by
 rw [← qk2]
 exact q5x Ys (by decide)
set_option maxHeartbeats 0 in
theorem qch (E:Errs) (H:q8):ACL Tryz.prog (KS E) 5 [] H (Ret (.bool true) H):=by
 have c1:=fun H=>q1k E awS (by decide) H
 rw [qio] at c1
 have c2:=fun H=>q54 E awM (by decide) (by decide) H
 rw [show q2o awM=([109,97,114,107,32,52,32,100,114,97,105,110],0) by rw [q2o,if_pos Ys,qk1]] at c2
 refine ACL.body (N:=42) [.tmp 0] Tryz.func5 rfl rfl rfl (Nat.le_of_ble_eq_true rfl) fun B hB=>?_
 try dsimp only [KS,q8j]
 refine Z1n ?_
 refine Z2 ?_
 refine Z8v ?_
 refine Z8u ?_
 refine Z8w ?_
 refine Z2 ?_
 refine Z82 ?_
 refine Z8x ?_
 refine Z5f ?_
 refine Z11 ?_
 refine Z17 ?_
 refine Z4 ?_
 try dsimp only [AV.up,put]
 refine Z1 ?_
 refine qm 0 (.bool true) ?_ ?_
 ·refine Z8 ?_
  refine Zz ?_
  refine Zi ?_
  refine q7 rfl rfl (fun hg2=>?_) (fun hg2=>?_)
  ·refine Z23 ?_
   refine Z24 ?_
   refine Z8j ?_
   refine q7 rfl rfl (fun hg8=>?_) (fun hg8=>?_)
   ·refine Z23 ?_
    refine Z24 ?_
    refine Z8j ?_
    refine q7 rfl rfl (fun hg14=>?_) (fun hg14=>?_)
    ·refine Z7g ?_
     refine Z77 ?_
     refine Z8j ?_
     refine q7 rfl rfl (fun hg20=>?_) (fun hg20=>?_)
     ·refine Zj ?_
      refine Z8j ?_
      refine q7 rfl rfl (fun hg24=>?_) (fun hg24=>?_)
      ·refine Z1q ?_
       refine q12 rfl rfl (by decide) (q3w (q:=[109,97,114,107,32,52,32,100,114,97,105,110]) rfl rfl) ?_
       refine Zn ?_
       exact Zx
      ·refine Zt ?_
       exact Z8y
     ·refine Z7i ?_
      refine Zs ?_
      exact Z8z
    ·refine Zq ?_
     refine Z7i ?_
     refine Z7h ?_
     refine Zs ?_
     exact Z8z
   ·refine Zq ?_
    refine Z7i ?_
    refine Z7i ?_
    refine Z7h ?_
    refine Zs ?_
    exact Z8z
  ·refine Zq ?_
   refine Z7i ?_
   refine Z7i ?_
   refine Z7i ?_
   refine Z7h ?_
   refine Zs ?_
   exact Z8y
 exact Z1v
theorem qj8 (a b:Nat):((a:Int)).tmod (b:Int)=((a % b:Nat):Int):=by
 rw [Int.tmod_eq_emod_of_nonneg (by omega)];exact (Int.natCast_emod a b).symm
theorem qk4 {s:List UInt8} {k:Nat} {c d:UInt8} (h1:0<k) (hc:s[k-1]?=some c) (hd:s[k]?=some d):s.take k=s.take (k-1)++[c]∧s.drop k=d :: s.drop (k+1):=by
 refine ⟨?_,q3n hd⟩
 have:=qe hc
 rwa [show k-1+1=k by omega] at this
set_option maxHeartbeats 0 in
theorem q9o (E:Errs) (o:OOp) (a sg:Nat) (ha:a<65536) (hsg:sg<256) (H:q8):ACL Tryz.prog (KS E) 3 [.agg (eOp o),.int .u16 (a:Int),.int .u8 (sg:Int)] H (Ret (.bool true) H):=by
 refine ACL.body (N:=119) [.tmp 6] Tryz.func3 rfl rfl rfl (Nat.le_of_ble_eq_true rfl) fun B hB=>?_
 try dsimp only [KS,q8j]
 refine Z7d ?_
 refine Z1m ?_
 refine Z1z ?_
 refine Z2 ?_
 refine Z90 ?_
 refine Z16 ?_
 refine Z5o ?_
 refine q5 rfl (fun hc=>?_) (fun hc=>?_)
 ·simp at hc
 clear hc
 refine Z2v ?_
 refine Z91 ?_
 refine Z3y ?_
 refine q5 rfl (fun hc=>?_) (fun hc=>?_)
 ·exact Z38
 have hsh:o.needs.length≤20∧o.set.length≤60:=by simpa using hc
 clear hc
 refine Z2v ?_
 refine Z92 ?_
 refine Z5f ?_
 refine Z11 ?_
 refine Z8a ?_
 refine Zy ?_
 refine Z37 ?_
 refine qc ?_
 by_cases hm:q14 o=true
 case neg =>
  rw [show q2o o=([],1) by rw [q2o,if_neg hm]]
  refine Z1 ?_
  refine q5 rfl (fun hc=>?_) (fun hc=>?_)
  ·refine Z7 ?_
   refine Z7p ?_
   refine Z1m ?_
   try dsimp only
   exact Z1v
  ·simp at hc
 rw [show q2o o=(qd o,0) by rw [q2o,hm];rfl]
 refine Z1 ?_
 refine q5 rfl (fun hc=>?_) (fun hc=>?_)
 ·simp at hc
 clear hc
 have hlen:=q6q hm hsh.2
 have hb1:=qb8 hm hsh.2
 have hb2:=qbl (s:=qd o) (by omega)
 have hb3:=fun k=>qa7 hm k
 have hno:=fun (a b:List UInt8) (d:UInt8)=>qlr (a:=a) (b:=b) (d:=d) hm
 generalize qd o=s at *
 have hk:a % (s.length+1)≤s.length:=by have:=Nat.mod_lt a (show 0<s.length+1 by omega);omega
 refine Zy ?_
 refine ao1 (by decide) (qh (r:=(a:Int)) rfl (qb (by omega) (by omega))) ?_
 refine Z52 ?_
 refine ao1 (by decide) (q24 (r:=((s.length+1:Nat):Int)) rfl rfl (by rw [show (s.length:Int)+1=((s.length+1:Nat):Int) by omega];exact qb (by omega) (by omega))) ?_
 refine ao1 (by decide) (qkd (r:=((a % (s.length+1):Nat):Int)) rfl rfl (by omega) (qj8 _ _)) ?_
 refine Z4 ?_
 try dsimp only
 generalize a % (s.length+1)=k at hk
 have c1:=fun H=>q1k E (s++[32]) (by rw [List.length_append];simp;omega) H
 have c2:=fun H=>q1k E (32 :: s) Yx H
 have c3:=fun H=>q1k E (s.take k++[32]++s.drop k) Yx H
 have hb3:=hb3 k
 rw [show s.take k++32 :: s.drop k=s.take k++[32]++s.drop k by simp] at hb3
 generalize ql (s++[32])=q1 at *
 generalize ql (32 :: s)=q2 at *
 generalize ql (s.take k++[32]++s.drop k)=q3 at *
 obtain ⟨p1,e1⟩:=q1
 obtain ⟨p2,e2⟩:=q2
 obtain ⟨p3,e3⟩:=q3
 simp only at hb1 hb2 hb3 c1 c2 c3
 subst hb1
 subst hb2
 refine Z7 ?_
 refine ao1 (by decide) (q2v (q:=[32]) rfl rfl Yx) ?_
 refine Z8v ?_
 refine Z8u ?_
 refine Z45 ?_
 refine Z7 ?_
 refine ao1 (by decide) (q2v (p:=[32]) rfl rfl Yx) ?_
 refine Z8x ?_
 refine Z8u ?_
 refine Z93 ?_
 refine Z1 ?_
 refine qm 55 (.bool false) ?_ ?_
 ·refine Z8 ?_
  refine Z37 ?_
  refine Zi ?_
  refine q7 rfl rfl (fun hg2=>?_) (fun hg2=>?_)
  ·refine Z2b ?_
   refine Zm ?_
   exact Zo
  ·refine Zj ?_
   refine q12 rfl rfl (by decide) (qjq rfl rfl) ?_
   refine Zr ?_
   exact Zx
 refine Z1 ?_
 refine q5 rfl (fun hc=>?_) (fun hc=>?_)
 ·simp at hc
 clear hc
 refine Z1 ?_
 refine q5f mixed none 3 ?_
 refine Z3t ?_
 refine Z1e ?_
 refine Z1f ?_
 refine Z94 ?_
 refine aq0 3 rfl Ys (by decide) (fun _=>q2v (q:=[32]) rfl rfl Yx) ?_
 refine Z1j ?_
 refine Z1k ?_
 refine Z95 ?_
 refine Z96 ?_
 refine q89 8 rfl Ys (by decide) (fun _=>V2.callL (c3 _) rfl ⟨rfl,rfl,rfl,rfl,trivial⟩) ?_
 refine Z97 ?_
 refine Z98 ?_
 refine Z99 ?_
 refine Z9a ?_
 refine Z9b ?_
 refine Z9c ?_
 refine Z1i ?_
 refine Z9d ?_
 refine Z14 ?_
 refine q5 rfl (fun hc=>?_) (fun hc=>?_)
 ·exact absurd Yt hb3
 clear hc
 by_cases hkk:k<s.length∧0<k
 case neg =>
  refine Z1 ?_
  refine qm 101 (.bool false) ?_ ?_
  ·refine Z8 ?_
   refine Z52 ?_
   refine Zu ?_
   refine Zi ?_
   refine q7 rfl rfl (fun hg4=>?_) (fun hg4=>?_)
   ·refine Zj ?_
    refine Z2f ?_
    refine Z26 ?_
    refine q7 rfl rfl (fun hg8=>?_) (fun hg8=>?_)
    ·refine Z1q ?_
     refine Zj ?_
     exfalso;simp at *;omega
    ·refine Z8m ?_
     refine Z7i ?_
     refine Zq ?_
     refine Z9e ?_
     exact Zx
   ·refine Z7i ?_
    refine Z8l ?_
    refine Z7i ?_
    refine Zq ?_
    refine Z9e ?_
    exact Zx
  refine Z1 ?_
  refine q5 rfl (fun hc=>?_) (fun hc=>?_)
  ·simp at hc
  ·exact Z38
 obtain ⟨c,hcc,_⟩:=q1n (l:=s) (k:=k-1) (by omega)
 obtain ⟨d,hd,_⟩:=q1n (l:=s) (k:=k) (by omega)
 obtain ⟨t1,t2⟩:=qk4 hkk.2 hcc hd
 have u1:(c.toNat:Int)=32↔c=32:=⟨fun h=>UInt8.toNat_inj.1 (by show c.toNat=32;omega),fun h=>by rw [h];rfl⟩
 refine Z1 ?_
 refine qm 101 (.bool (decide (c=32∧48≤d.toNat∧d.toNat≤57∧sg % 2=0))) ?_ ?_
 ·refine Z8 ?_
  refine Z52 ?_
  refine Zu ?_
  refine Zi ?_
  refine q7 rfl rfl (fun hg4=>?_) (fun hg4=>?_)
  ·refine Zj ?_
   refine Z2f ?_
   refine Z26 ?_
   refine q7 rfl rfl (fun hg8=>?_) (fun hg8=>?_)
   ·refine Z1q ?_
    refine Zj ?_
    refine q12 rfl rfl (by decide) (q81 (r:=((k-1:Nat):Int)) rfl rfl (by rw [show (k:Int)-1=((k-1:Nat):Int) by omega];exact qb (by omega) (by omega))) ?_
    refine q12 rfl rfl (by decide) (q7g (n:=k-1) (c:=c) rfl rfl hcc) ?_
    refine Z8j ?_
    refine q7 rfl rfl (fun hg15=>?_) (fun hg15=>?_)
    ·refine Z1q ?_
     refine Zj ?_
     refine Z9f ?_
     refine Z2t ?_
     refine Z26 ?_
     refine q7 rfl rfl (fun hg21=>?_) (fun hg21=>?_)
     ·refine Z1q ?_
      refine Zj ?_
      refine Z9f ?_
      refine Zv ?_
      refine Z26 ?_
      refine q7 rfl rfl (fun hg27=>?_) (fun hg27=>?_)
      ·refine Zj ?_
       refine q12 rfl rfl (by decide) (qkd (r:=((sg % 2:Nat):Int)) rfl rfl (by decide) (qj8 sg 2)) ?_
       refine Z3q ?_
       refine Zm ?_
       exact qc (Out.mk (by (refine congrArg AV.bool ?_;(clear hB c1 c2 c3 hno hb3 hcc hd t1 t2;(grind)))) Y5)
      ·refine Z1t ?_
       refine Zr ?_
       exact Z9g
     ·refine Z3s ?_
      refine Z9e ?_
      exact Z9g
    ·refine Zq ?_
     refine Z7i ?_
     refine Zq ?_
     refine Z9e ?_
     exact Z9h
   ·refine Z8m ?_
    refine Z7i ?_
    refine Zq ?_
    refine Z9e ?_
    exact Z9h
  ·refine Z7i ?_
   refine Z8l ?_
   refine Z7i ?_
   refine Zq ?_
   refine Z9e ?_
   exact Z9h
 refine Z1 ?_
 refine q5 rfl (fun hc=>?_) (fun hc=>?_)
 ·obtain ⟨h1,h2,h3,_⟩:c=32∧48≤d.toNat∧d.toNat≤57∧sg % 2=0:=of_decide_eq_true hc
  clear hc
  subst h1
  have c4:=fun H=>q1k E (s.take k++[48]++s.drop k) Yx H
  have hn:=hno (s.take (k-1)) (s.drop (k+1)) d ⟨h2,h3⟩ (by
   have:=List.take_append_drop k s
   rw [t1,t2] at this
   simpa using this.symm)
  rw [show s.take (k-1)++32 :: 48 :: d :: s.drop (k+1)=s.take k++[48]++s.drop k by rw [t1,t2];simp] at hn
  generalize ql (s.take k++[48]++s.drop k)=q4 at *
  obtain ⟨p4,e4⟩:=q4
  simp only at hn c4
  refine Z1 ?_
  refine q5f mixed none 4 ?_
  refine Z3t ?_
  refine Z1e ?_
  refine Z1f ?_
  refine Z94 ?_
  refine aq0 3 rfl Ys (by decide) (fun _=>q2v (q:=[48]) rfl rfl Yx) ?_
  refine Z1j ?_
  refine Z1k ?_
  refine Z95 ?_
  refine Z96 ?_
  refine q89 8 rfl Ys (by decide) (fun _=>V2.callL (c4 _) rfl ⟨rfl,rfl,rfl,rfl,trivial⟩) ?_
  refine Z97 ?_
  refine Z98 ?_
  refine Z99 ?_
  refine Z9a ?_
  refine Z9b ?_
  refine Z9c ?_
  refine Z1i ?_
  refine Z9d ?_
  refine Z14 ?_
  refine q5 rfl (fun hc=>?_) (fun hc=>?_)
  ·have he:e4=0:=by simpa using hc
   refine Z4f ?_
   refine Zz ?_
   refine Z1m ?_
   refine Z5d ?_
   refine Z1 ?_
   rw [show (o.kind == 1)=true by simpa using hn he]
   exact Zc
  ·exact Z38
 ·exact Z38
set_option maxHeartbeats 0 in
theorem q80 (E:Errs) (o:OOp) (line:List UInt8) (hl:line.length≤9223372036854775807) (H:q8):ACL Tryz.prog (KS E) 4 [.agg (eOp o),.str (bs line)] H (Ret (.bool true) H):=by
 refine ACL.body (N:=98) [.tmp 4] Tryz.func4 rfl rfl rfl (Nat.le_of_ble_eq_true rfl) fun B hB=>?_
 try dsimp only [KS,q8j]
 refine Z7d ?_
 refine Z1m ?_
 refine Z1z ?_
 refine Z2 ?_
 refine Z90 ?_
 refine Z16 ?_
 refine Z5o ?_
 refine q5 rfl (fun hc=>?_) (fun hc=>?_)
 ·simp at hc
 clear hc
 refine Z2v ?_
 refine Z91 ?_
 refine Z3y ?_
 refine q5 rfl (fun hc=>?_) (fun hc=>?_)
 ·exact Z38
 have hsh:o.needs.length≤20∧o.set.length≤60:=by simpa using hc
 clear hc
 refine Z2v ?_
 refine Z92 ?_
 refine Z5f ?_
 refine Z11 ?_
 refine Z8a ?_
 refine Z14 ?_
 refine q2r (KE E++[(1,.str (bs line))]) (H++[]) ?_ ?_
 ·by_cases hm:q14 o=true
  case neg =>
   rw [show q2o o=([],1) by rw [q2o,if_neg hm]]
   refine q5 rfl (fun hc=>?_) (fun hc=>?_)
   ·simp at hc
   ·refine Z1 ?_
    exact ⟨Y3,Fit.loc hB (G:=[⟨0,13,[eOp o]⟩]) rfl Y1 (fun o ho=>by cases ho)⟩
  rw [show q2o o=(qd o,0) by rw [q2o,hm];rfl]
  have hlen:=q6q hm hsh.2
  have hp:=q5x hm hsh.2
  have hr:=qez hm hsh.2
  have c1:=fun H=>q1k E (qd o) (by omega) H
  have c2:=fun H=>qer E ([35,32,120,10,10]++qd o++[10,35]++qd o++[10]++qd o) Yx H
  rw [hp] at c1
  rw [hr] at c2
  have hpl:(q1c o).needs.length≤1000∧(q1c o).set.length≤1000:=by
   unfold q1c
   repeat' split
   all_goals exact ⟨by simp only [List.length_nil];omega,by simp only [List.length_nil];omega⟩
  generalize qd o=s at *
  generalize hq:q1c o=q at *
  refine q5 rfl (fun hc=>?_) (fun hc=>?_)
  ·refine Z7 ?_
   refine Z8v ?_
   refine Z8u ?_
   refine Z93 ?_
   refine Z7 ?_
   refine ao1 (by decide) (q2v (p:=[35,32,120,10,10]) rfl rfl Yx) ?_
   refine ao1 (by decide) (q2v (q:=[10,35]) rfl rfl Yx) ?_
   refine Z6 ?_
   refine Z6y ?_
   refine ao1 (by decide) (q2v (q:=[10]) rfl rfl Yx) ?_
   refine Z6 ?_
   refine Z6y ?_
   refine Z8x ?_
   refine Z74 ?_
   refine Z11 ?_
   refine Z11 ?_
   refine Z43 ?_
   refine Z12 ?_
   refine Z6z ?_
   have cpl:=fun H=>qbt o H
   rw [hq] at cpl
   have csm:=fun H=>q3h q q (by omega) (by omega) (by omega) (by omega) H
   rw [decide_eq_true rfl] at csm
   have csl:=fun H=>qes [q,q] [q,q] (by show 2≤1000000;decide) (by intro x hx;simp at hx;subst hx;omega) (by intro x hx;simp at hx;subst hx;omega) H
   rw [decide_eq_true rfl] at csl
   refine Z1 ?_
   refine q72 70 (.bool false) ?_ ?_
   ·refine q5f mixed none 2 ?_
    refine Z3t ?_
    refine Z2z ?_
    refine aq0 1 rfl Ys (by decide) (fun _=>qjq rfl rfl) ?_
    refine aq0 2 rfl Ys (by decide) (fun _=>qf (v:=.bool _) rfl) ?_
    refine q41 (g:=48) rfl (fun hg2=>?_) (fun hg2=>?_)
    ·refine q66 (g:=48) 3 rfl Ys (by decide) rfl rfl rfl ?_
     refine q66 (g:=48) 4 rfl Ys (by decide) rfl rfl rfl ?_
     refine q66 (g:=48) 5 rfl Ys (by decide) rfl rfl rfl ?_
     refine q66 (g:=48) 6 rfl Ys (by decide) rfl rfl rfl ?_
     refine q66 (g:=48) 7 rfl Ys (by decide) rfl rfl rfl ?_
     refine aq0 8 rfl Ys (by decide) (fun _=>q43 (v:=.bool _) rfl rfl) ?_
     refine Z9i ?_
     refine Z9j ?_
     refine Z9k ?_
     refine Z9l ?_
     refine Z9m ?_
     refine Z9n ?_
     refine Z9o ?_
     refine Z9p ?_
     refine Z9q ?_
     refine Z9r ?_
     refine Z9s ?_
     refine Z9t ?_
     refine Z9u ?_
     refine Z9v ?_
     refine Z9w ?_
     refine Z9x ?_
     exact Z9y
    ·refine qj9 (g:=48) 3 rfl Ys (by decide) rfl rfl (fun G=>q5v rfl (lk rfl rfl) rfl rfl rfl) ?_
     refine qj9 (g:=48) 4 rfl Ys (by decide) rfl rfl (fun G=>q5v rfl (lk rfl rfl) rfl rfl rfl) ?_
     refine qiv (g:=48) 5 rfl Ys (by decide) rfl rfl (fun _=>V2.call (cpl _) rfl) ?_
     refine qiv (g:=48) 6 rfl Ys (by decide) rfl rfl (fun _=>V2.call (csm _) rfl) ?_
     refine qdj (g:=48) 7 rfl Ys (by decide) rfl rfl (fun _=>qfx rfl) ?_
     refine aq0 8 rfl Ys (by decide) (fun _=>q40 (v:=.bool _) rfl rfl) ?_
     refine Z9i ?_
     refine q41 (g:=55) rfl (fun hg9=>?_) (fun hg9=>?_)
     ·refine Z9j ?_
      refine Z9k ?_
      refine Z9l ?_
      refine Z9m ?_
      refine Z9n ?_
      refine Z9o ?_
      refine Z9p ?_
      refine Z9q ?_
      refine Z9r ?_
      refine Z9s ?_
      refine Z9t ?_
      refine Z9u ?_
      refine Z9v ?_
      refine Z9w ?_
      refine Z9x ?_
      exact Z9y
     ·refine qdj (g:=55) 10 rfl Ys (by decide) rfl rfl (fun _=>qf (v:=.int _ _) rfl) ?_
      refine qdj (g:=55) 11 rfl Ys (by decide) rfl rfl (fun _=>qjq rfl rfl) ?_
      refine aq0 12 rfl Ys (by decide) (fun _=>q40 (v:=.bool _) rfl rfl) ?_
      refine Z9m ?_
      refine q41 (g:=59) rfl (fun hg13=>?_) (fun hg13=>?_)
      ·refine Z9n ?_
       refine Z9o ?_
       refine Z9p ?_
       refine Z9q ?_
       refine Z9r ?_
       refine Z9s ?_
       refine Z9t ?_
       refine Z9u ?_
       refine Z9v ?_
       refine Z9w ?_
       refine Z9x ?_
       exact Z9y
      ·refine qdj (g:=59) 14 rfl Ys (by decide) rfl rfl (fun _=>qf (v:=.int _ _) rfl) ?_
       refine qdj (g:=59) 15 rfl Ys (by decide) rfl rfl (fun _=>qjq rfl rfl) ?_
       refine aq0 16 rfl Ys (by decide) (fun _=>q40 (v:=.bool _) rfl rfl) ?_
       refine Z9q ?_
       refine q41 (g:=63) rfl (fun hg17=>?_) (fun hg17=>?_)
       ·refine Z9r ?_
        refine Z9s ?_
        refine Z9t ?_
        refine Z9u ?_
        refine Z9v ?_
        refine Z9w ?_
        refine Z9x ?_
        exact Z9y
       ·refine qdj (g:=63) 18 rfl Ys (by decide) rfl rfl (fun _=>qf (v:=.pl _) rfl) ?_
        refine qj9 (g:=63) 19 rfl Ys (by decide) rfl rfl (fun G=>q5v rfl (lk rfl rfl) rfl rfl rfl) ?_
        refine qj9 (g:=63) 20 rfl Ys (by decide) rfl rfl (fun G=>q5v rfl (lk rfl rfl) rfl rfl rfl) ?_
        refine qiv (g:=63) 21 rfl Ys (by decide) rfl rfl (fun _=>qe0 (sz:=13) [eOp q,eOp q] rfl (by decide) (by decide) (by decide) rfl rfl (qgc [q,q]) rfl (qbx 0 [q,q])) ?_
        refine qiv (g:=63) 22 rfl Ys (by decide) rfl rfl (fun _=>V2.call (csl _) rfl) ?_
        refine qdj (g:=63) 23 rfl Ys (by decide) rfl rfl (fun _=>qfx rfl) ?_
        refine aq0 24 rfl Ys (by decide) (fun _=>q40 (v:=.bool _) rfl rfl) ?_
        exact Z6b
   refine Z1 ?_
   refine q5 rfl (fun hc=>?_) (fun hc=>?_)
   ·simp at hc
   ·refine Z1 ?_
    exact ⟨Y3,Fit.loc hB (G:=[⟨0,13,[eOp o]⟩,⟨0,13,[eOp q]⟩]) rfl Y1 (fun o ho=>by cases ho)⟩
  ·simp at hc
 refine Z4r ?_
 refine Z51 ?_
 refine ao1 (by decide) (ql6 (r:=((min line.length 2000:Nat):Int)) rfl rfl (by omega)) ?_
 refine ao1 (by decide) (q1p (q:=line.take (min line.length 2000)) rfl Bd.none (Bd.some rfl rfl) (Nat.zero_le _) (Nat.min_le_left _ _) (by rw [List.drop_zero])) ?_
 refine Z18 ?_
 refine Z4g ?_
 have hsl:(line.take (min line.length 2000)).length≤2000:=by rw [List.length_take];omega
 generalize line.take (min line.length 2000)=s at *
 have c1:=fun H=>q1k E s (by omega) H
 have hz:=q5h (line:=s)
 have hnn:=qee (line:=s)
 have hpl:=qej s
 generalize ql s=q at *
 obtain ⟨p,e⟩:=q
 simp only at hz hnn hpl c1
 refine Z7 ?_
 refine Z8v ?_
 refine Z8u ?_
 refine Z8w ?_
 refine Zy ?_
 refine Z37 ?_
 refine Za ?_
 refine q5 rfl (fun hc=>?_) (fun hc=>?_)
 ·have he:e≠0:=by simpa using hc
  have hp0:=hnn he
  have csm:=fun H=>q3h p op0 (by omega) (by omega) (by decide) (by decide) H
  rw [decide_eq_true hp0] at csm
  refine Z2v ?_
  refine Z82 ?_
  refine q10 (csm _) rfl (by decide) ?_
  refine Z1m ?_
  try dsimp only [AV.up]
  exact Z1v
 ·have he:e=0:=by simpa using hc
  obtain ⟨hm,hls⟩:=hz he
  have c2:=fun H=>q54 E p (by omega) (by omega) H
  rw [show q2o p=(s,0) by rw [q2o,hm,hls];rfl] at c2
  refine Z2v ?_
  refine Z8x ?_
  refine Z5f ?_
  refine Z11 ?_
  refine Z8a ?_
  refine Z1 ?_
  refine qm 4 (.bool true) ?_ ?_
  ·refine Z8 ?_
   refine Zz ?_
   refine Zi ?_
   refine q7 rfl rfl (fun hg2=>?_) (fun hg2=>?_)
   ·refine Z1q ?_
    refine Z1q ?_
    refine Z79 ?_
    refine Zn ?_
    exact Z8y
   ·refine Z1u ?_
    exact Z8y
  exact Z1v
end Go.Av
namespace Go.Av
open Go.Proofs Go.Proofs.YtaaeifggppgieaaGreatDoor
open Go.RowKit
theorem q69 {P:Program} {W:World} {name n:String} {d:DataW Unit} {rest:List (String×DataW Unit)} {g:Nat} {t:TypeId} (hg:P.globalNamed name=some g) (hty:(P.globals[g]?).map (·.type)=some t) (ht:q77 P t=true)
  (h:laidMet P ((name,.iface n d) :: rest) W):∃ u v,W.var? P name=some #[.iface u v]:=by
 obtain ⟨ms,hu⟩:=q63 ht
 obtain ⟨ps,⟨g',t',cs,fuel,p,q,hg',ht',hvar,hd,_,_⟩,_⟩:=h
 obtain rfl:=Option.some.inj (hg.symm.trans hg')
 obtain rfl:=Option.some.inj (hty.symm.trans ht')
 rw [hvar]
 cases fuel with
 | zero=>simp [DataW.trod] at hd
 | succ fuel =>
  unfold DataW.trod at hd
  rw [hu] at hd
  have hcs:cs=cs.toList.toArray:=by simp
  generalize cs.toList=l at hd hcs
  subst hcs
  match l,hd with
  | [],hd=>simp at hd
  | [x],hd=>cases x<;>simp at hd<;>exact ⟨_,_,rfl⟩
  | _ :: _ :: _,hd=>simp at hd
theorem qa8 {P:Program} {W:World} {name:String} {g:Nat} {v:Value} (hg:P.globalNamed name=some g) (h:W.var? P name=some #[v]):Kn ⟨g,[v]⟩ [] W:=by
 have hx:∃ ty fz,W.heap[g]?=some (Obj.cells [v].toArray ty fz):=by
  unfold World.var? at h
  rw [hg] at h
  simp only [Option.bind_some] at h
  split at h
  ·rename_i cs ty fz e
   obtain rfl:=Option.some.inj h
   exact ⟨ty,fz,e⟩
  ·cases h
 refine ⟨by rintro ⟨i,s,hs,_⟩;simp at hs,?_,fun j u hj=>?_,hx⟩
 ·obtain ⟨ty,fz,e⟩:=hx
  exact (Array.getElem?_eq_some_iff.1 e).1
 ·have:=World.var?_cell hg h j
  show W.cell? ⟨g,j,none⟩=some u
  rw [this]
  simpa using hj
theorem qe1 {a:AV} (h:q1t Tryz.prog 4 24 a):∃ l:List Int,a = .pl (l.map q3d)∧l.length≤9223372036854775807:=by
 obtain ⟨rows,rfl,hn,h3⟩:=qjm (SlI.ud (P:=Tryz.prog) (t:=24)) (by kernel_rfl:q2w Tryz.prog 4 3=some [3]) h
 obtain ⟨l,rfl⟩:=qdi (e:=q3d) fun r hr=>by
  have h:=h3 r hr
  obtain ⟨a1,r,rfl,h1,h⟩:=q17 h
  obtain rfl:=qh2 h
  obtain ⟨i1,rfl,_⟩:=q1f (UdI.ud (P:=Tryz.prog) (t:=3)) h1
  exact ⟨i1,rfl⟩
 exact ⟨l,rfl,by rw [List.length_map] at hn;exact hn⟩
abbrev laidD : List (String × DataW Unit) := [("math/bits.deBruijn32tab", Rows.laid_math_bits_deBruijn32tab), ("math/bits.deBruijn64tab", Rows.laid_math_bits_deBruijn64tab), ("internal/strconv.uint64pow10", Rows.laid_internal_strconv_uint64pow10), ("unicode/utf8.acceptRanges", Rows.laid_unicode_utf8_acceptRanges), ("strconv.ErrRange", Rows.laid_strconv_ErrRange), ("strconv.ErrSyntax", Rows.laid_strconv_ErrSyntax), ("unicode/utf8.first", Rows.laid_unicode_utf8_first)]
theorem q6m {W:World} (n:String) (d:DataW Unit) (h:laidMetH Tryz.prog laidD W) (hf:laidD.filter (fun x=>x.1 == n)=[(n,d)]) (hp:d.handleName?.isNone=true):laidMet Tryz.prog [(n,d)] W:=by
 have:=laidMetH.filter (fun x=>x.1 == n) h
 rw [hf,MakeChecks.laidMetH_plain _ _ _ (by simp [hp])] at this
 exact this
theorem qcv {W:World} (h:laidMetH Tryz.prog laidD W):∃ E,KnS (KS E) [] W:=by
 have hb:Kn KD [] W:=by
  have hg : Tryz.prog.globalNamed "math/bits.deBruijn64tab" = some 3 := by kernel_rfl
  have h2 : Lib.TabIs Tryz.prog W "math/bits.deBruijn64tab" .u8 (Lib.deBruijn64tab.map fun n : Nat => (n : Int)) :=
   Lib.tabIs_of_head (rest:=[]) (t:=141) (e:=5) (n:=64) hg Yz Yz Yz Yz Yz (q6m _ _ h rfl rfl)
  exact qb5 hg (by decide) (by unfold KD;rw [List.map_map];rfl) h2
 have hp:Kn KP [] W:=by
  have hg : Tryz.prog.globalNamed "internal/strconv.uint64pow10" = some 0 := by kernel_rfl
  have h2 : Lib.TabIs Tryz.prog W "internal/strconv.uint64pow10" .u64 Lib.pow10Tab :=
   Lib.tabIs_of_head (rest:=[]) (t:=113) (e:=60) (n:=20) hg Yz Yz Yz Yz Yz (q6m _ _ h rfl rfl)
  exact qb5 hg (by decide) rfl h2
 have gs : Tryz.prog.globalNamed "strconv.ErrSyntax" = some 4 := by kernel_rfl
 have gr : Tryz.prog.globalNamed "strconv.ErrRange" = some 5 := by kernel_rfl
 obtain ⟨u, v, hs⟩ := q69 gs (t := 68) Yz Yz (q6m "strconv.ErrSyntax" Rows.laid_strconv_ErrSyntax h rfl rfl)
 obtain ⟨u2, v2, hr⟩ := q69 gr (t := 68) Yz Yz (q6m "strconv.ErrRange" Rows.laid_strconv_ErrRange h rfl rfl)
 refine ⟨⟨.iface u v,.iface u2 v2,⟨_,_,rfl⟩,⟨_,_,rfl⟩⟩,fun p hp2=>?_⟩
 simp only [KS,List.mem_cons,List.not_mem_nil,or_false] at hp2
 rcases hp2 with rfl | rfl | rfl | rfl
 ·exact hb
 ·exact hp
 ·exact qa8 gs hs
 ·exact qa8 gr hr
theorem qjf {r:List AV} (h:qca Tryz.prog 4 [3,3,3,3,9,4,2,3,24,3,3,2,24] r):∃ x:OOp,r=eOp x:=by
 obtain ⟨a0,r,rfl,h0,h⟩:=q17 h
 obtain ⟨a1,r,rfl,h1,h⟩:=q17 h
 obtain ⟨a2,r,rfl,h2,h⟩:=q17 h
 obtain ⟨a3,r,rfl,h3,h⟩:=q17 h
 obtain ⟨a4,r,rfl,h4,h⟩:=q17 h
 obtain ⟨a5,r,rfl,h5,h⟩:=q17 h
 obtain ⟨a6,r,rfl,h6,h⟩:=q17 h
 obtain ⟨a7,r,rfl,h7,h⟩:=q17 h
 obtain ⟨a8,r,rfl,h8,h⟩:=q17 h
 obtain ⟨a9,r,rfl,h9,h⟩:=q17 h
 obtain ⟨a10,r,rfl,h10,h⟩:=q17 h
 obtain ⟨a11,r,rfl,h11,h⟩:=q17 h
 obtain ⟨a12,r,rfl,h12,h⟩:=q17 h
 obtain rfl:=qh2 h
 obtain ⟨i0,rfl,_⟩:=q1f (UdI.ud (P:=Tryz.prog) (t:=3)) h0
 obtain ⟨i1,rfl,_⟩:=q1f (UdI.ud (P:=Tryz.prog) (t:=3)) h1
 obtain ⟨i2,rfl,_⟩:=q1f (UdI.ud (P:=Tryz.prog) (t:=3)) h2
 obtain ⟨i3,rfl,_⟩:=q1f (UdI.ud (P:=Tryz.prog) (t:=3)) h3
 obtain ⟨i4,rfl,_⟩:=qd4 (UdI.ud (P:=Tryz.prog) (t:=9)) h4
 obtain ⟨i5,rfl⟩:=qhf (UdI.ud (P:=Tryz.prog) (t:=4)) h5
 obtain ⟨i6,rfl,_⟩:=q1f (UdI.ud (P:=Tryz.prog) (t:=2)) h6
 obtain ⟨i7,rfl,_⟩:=q1f (UdI.ud (P:=Tryz.prog) (t:=3)) h7
 obtain ⟨i8,rfl,_⟩:=qe1 h8
 obtain ⟨i9,rfl,_⟩:=q1f (UdI.ud (P:=Tryz.prog) (t:=3)) h9
 obtain ⟨i10,rfl,_⟩:=q1f (UdI.ud (P:=Tryz.prog) (t:=3)) h10
 obtain ⟨i11,rfl,_⟩:=q1f (UdI.ud (P:=Tryz.prog) (t:=2)) h11
 obtain ⟨i12,rfl,_⟩:=qe1 h12
 exact ⟨⟨i0,⟨i1,i2,i3,i4,i5,i6,i7⟩,i8,i9,i10,i11,i12⟩,rfl⟩
theorem qfh (E:Errs) (o:OOp) (a sg:Int) (ha:0≤a∧a≤65535) (hs:0≤sg∧sg≤255) (H:q8):ACL Tryz.prog (KS E) 3 [.agg (eOp o),.int .u16 a,.int .u8 sg] H (Ret (.bool true) H):=by
 obtain ⟨n,rfl⟩:=Int.eq_ofNat_of_zero_le ha.1
 obtain ⟨m,rfl⟩:=Int.eq_ofNat_of_zero_le hs.1
 exact q9o E o n m (by omega) (by omega) H
theorem qf5 (E:Errs) (o:OOp) (s:ByteArray) (hs:s.size≤9223372036854775807) (H:q8):ACL Tryz.prog (KS E) 4 [.agg (eOp o),.str s] H (Ret (.bool true) H):=by
 have:=q80 E o s.data.toList (by rw [q3z];exact hs) H
 exact this
theorem qgg (os:Os) (args:Array Value):laidMetH Tryz.prog laidD ((World.laidAll Tryz.prog os laidD).forCall (fun _ _=>0) ⟨#[],args,[]⟩).memory:=by
 rw [MakeChecks.laidMetH_plain _ _ _ Yz]
 exact laidMet_laidAll _ Yz Yz
end Go.Av
