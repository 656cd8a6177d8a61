/- Parts of the proof: rules for an abstract memory, plain laws, and walks through the program. -/
import Derived.Test.YtpidemmdmmgalaaGreatDoorSeatBP0
import Derived.Test.YtpidemmdmmgalaaGreatDoorSeatBP4
import Derived.Test.YtpidemmdmmgalaaGreatDoorSeatBP2
import Derived.Test.YtpidemmdmmgalaaGreatDoorSeatBP3
import Derived.Test.YtpidemmdmmgalaaGreatDoorSeatBP1
import Derived.Lib.Join
import Derived.Lib.ItoaNum
import Derived.Lib.AtoiAll
import Derived.Lib.Bytealg
import Derived.Lib.LaidTab
import Derived.LaidMore
import Derived.Handed
import Derived.Test.YtpidemmdmmgalaaGreatDoorRows
set_option maxRecDepth 10000
set_option linter.unusedVariables false
set_option linter.unusedSimpArgs false
namespace Go.Av
open Go.Proofs
theorem qs8 (w:Bool):[wb w].map qz=[[.int .u8 (if w then 1 else 0)]]:=by cases w<;>rfl
theorem qso (bs:List UInt8) (w:Bool) (H:qf) (id g:Nat) (hbs:bs.length≤1000000) (hid:H[id]?=some ⟨g,1,bs.map qz⟩):AC Tryz.prog 76 [.sl id g 0 bs.length bs.length,.bool w] H
  (Ret (.sl id (g+1) 0 (bs.length+1) (bs.length+1)) (H.set id ⟨g+1,1,(bs++[wb w]).map qz⟩)):=by
 have hlt:id<H.length:=(List.getElem?_eq_some_iff.1 hid).1
 have htake:(bs.map qz).take bs.length=bs.map qz:=List.take_of_length_le (by simp)
 have hF:=hid
 refine AC.body (N:=12) [.tmp 4] Tryz.func76 rfl rfl rfl (Nat.le_of_ble_eq_true rfl) fun B hB=>?_
 refine Z43 ?_
 refine Z2n ?_
 refine Z9 ?_
 refine qa rfl (fun hc=>?_) (fun hc=>?_)
 ·have hw:w=true:=by simpa using hc
  subst hw
  refine Z8o ?_
  refine Zow ?_
  refine ao2 Y1k (q5f (bs.length+1) rfl hF rfl rfl (Src.pl (ys:=[[.int .u8 1]]) rfl (by intro r hr;simp at hr;subst hr;rfl)) rfl Y1v Y1u Y1u Y1v) ?_
  refine Z8s ?_
  refine Zok ?_
  rw [htake]
  refine Z1 ?_
  refine qc5 hB (q2o rfl .nil) rfl ⟨rfl,by rw [List.map_append,qs8];rfl⟩ (decide_eq_true hlt) (by simp) ?_
  exact HBel.set hB.heap _ _ (fun r hr=>q17 _ (bs++[1]) r (by rw [List.map_append];exact hr))
 ·have hw:w=false:=by simpa using hc
  subst hw
  refine Z8o ?_
  refine Zox ?_
  refine ao2 Y1k (q5f (bs.length+1) rfl hF rfl rfl (Src.pl (ys:=[[.int .u8 0]]) rfl (by intro r hr;simp at hr;subst hr;rfl)) rfl Y1v Y1u Y1u Y1v) ?_
  refine Z8s ?_
  refine Zok ?_
  rw [htake]
  refine Z1 ?_
  refine qc5 hB (q2o rfl .nil) rfl ⟨rfl,by rw [List.map_append,qs8];rfl⟩ (decide_eq_true hlt) (by simp) ?_
  exact HBel.set hB.heap _ _ (fun r hr=>q17 _ (bs++[0]) r (by rw [List.map_append];exact hr))
theorem qno (bs:List UInt8) (p:Int) (hp:-1000≤p∧p≤1000) (H:qf) (id g:Nat) (hbs:bs.length≤1000000) (hid:H[id]?=some ⟨g,1,bs.map qz⟩):AC Tryz.prog 77 [.sl id g 0 bs.length bs.length,.int .i64 p] H
  (Ret (.sl id (g+(q2m (zig p)).length) 0 (bs.length+(q2m (zig p)).length) (bs.length+(q2m (zig p)).length)) (H.set id ⟨g+(q2m (zig p)).length,1,(bs++q2m (zig p)).map qz⟩)):=by
 have hlt:id<H.length:=(List.getElem?_eq_some_iff.1 hid).1
 have hz:zig p<18446744073709551616:=by unfold zig;split<;>omega
 have c1:=q55 bs (zig p) hz (H++[]) id g hbs (by rw [List.append_nil];exact hid)
 rw [List.set_append_left _ _ hlt] at c1
 have hbel:HBel H.length H→HBel H.length (H.set id ⟨g+(q2m (zig p)).length,1,(bs++q2m (zig p)).map qz⟩):=fun h=>HBel.set h _ _ (fun r hr=>q17 _ _ r hr)
 refine AC.body (N:=19) [.tmp 4] Tryz.func77 rfl rfl rfl (Nat.le_of_ble_eq_true rfl) fun B hB=>?_
 refine Z43 ?_
 refine Z11 ?_
 refine Z1f ?_
 refine qa rfl (fun hc=>?_) (fun hc=>?_)
 ·have h0:p<0:=by simpa using hc
  have e:(zig p:Int)=0-2 * p-1:=by unfold zig;rw [if_pos h0];omega
  refine Z8p ?_
  refine ao1 (by decide) (q10s rfl (qc (by omega) (by omega))) ?_
  refine ao1 (by decide) (qn (r:=-p) rfl Y14) ?_
  refine ao1 (by decide) (qfu (r:=-(2 * p)) rfl rfl Y14) ?_
  refine ao1 (by decide) (q30 (r:=(zig p:Int)) rfl rfl Y14) ?_
  refine Zog ?_
  refine Z8r ?_
  refine Z9 ?_
  exact qc5 hB (q2o rfl .nil) rfl ⟨rfl,rfl⟩ (decide_eq_true hlt) (by simp) (hbel hB.heap)
 ·have h0:0≤p:=by simp at hc;omega
  have e:(zig p:Int)=2 * p:=by unfold zig;rw [if_neg (by omega)];omega
  refine Z8p ?_
  refine ao1 (by decide) (qn (r:=p) rfl Y14) ?_
  refine ao1 (by decide) (qfu (r:=(zig p:Int)) rfl rfl Y14) ?_
  refine Zog ?_
  refine Z8r ?_
  refine Z9 ?_
  exact qc5 hB (q2o rfl .nil) rfl ⟨rfl,rfl⟩ (decide_eq_true hlt) (by simp) (hbel hB.heap)
def qfn (ns:List Nat):List UInt8:=ns.flatMap q2m
theorem qw2 {ns:List Nat} {k n:Nat} (h:ns[k]?=some n):qfn (ns.take (k+1))=qfn (ns.take k)++q2m n:=by
 rw [ql h,qfn,List.flatMap_append]
 simp [qfn]
theorem qnz:∀ (ns:List Nat),(∀ n∈ns,n<18446744073709551616)→(qfn ns).length≤10 * ns.length
 | [],_=>Nat.le_refl _
 | n :: ns,h=>by
  have h1:=q2h (h n (by simp))
  have h2:=qnz ns fun m hm=>h m (by simp [hm])
  simp only [qfn,List.flatMap_cons,List.length_append,List.length_cons] at h2 ⊢
  omega
theorem qep {s:Spec} (h:q1c s=true):-1000≤s.prio∧s.prio≤1000∧s.tag.size≤16:=by
 simp only [q1c,q9g,Bool.and_eq_true,decide_eq_true_eq] at h
 omega
set_option maxHeartbeats 0 in
theorem qvh (s:Spec) (H:qf):AC Tryz.prog 29 [.agg (q1i s)] H (Ret (.tup [.pl ((q4a s).1.map qz),.int .i64 (q4a s).2]) H):=by
 refine AC.body (N:=46) [.tmp 2,.tmp 3] Tryz.func29 rfl rfl rfl (Nat.le_of_ble_eq_true rfl) fun B hB=>?_
 refine Z2u ?_
 refine Z41 ?_
 refine Z3t ?_
 refine Z3v ?_
 refine Z3w ?_
 refine Z3x ?_
 refine qa rfl (fun hc=>?_) (fun hc=>?_)
 ·have hs:q1c s=false:=by simpa using hc
  rw [show q4a s=([],1) by rw [q4a,if_pos hs]]
  refine Zhx ?_
  try dsimp only
  exact Zom
 have hs:q1c s=true:=by simpa using hc
 clear hc
 rw [show q4a s=(q2t s,0) by rw [q4a,if_neg (by rw [hs];simp)]]
 obtain ⟨hp1,hp2,htag⟩:=qep hs
 have hf:=q4s hs
 have hlen:=q6w hs
 refine Z2 ?_
 refine Z8q ?_
 refine Z8s ?_
 refine Zoy ?_
 generalize hns:[s.nodes.toNat,s.cores.toNat,s.gpus.toNat,s.tag.size]=ns
 have hn4:ns.length=4:=by rw [← hns];rfl
 have hsm:∀ n∈ns,n<1000:=by rw [← hns];intro n hn;simp at hn;omega
 have hrows:[[AV.int .i64 s.nodes],[.int .i64 s.cores],[.int .i64 s.gpus],[.int .i64 (s.tag.size:Int)]]=ns.map fun n:Nat=>[AV.int .i64 (n:Int)]:=by
  rw [← hns,List.map_cons,List.map_cons,List.map_cons,List.map_cons,List.map_nil,Int.toNat_of_nonneg (by omega),Int.toNat_of_nonneg (by omega),Int.toNat_of_nonneg (by omega)]
 refine Z58 ?_
 refine Zce ?_
 refine Z2y ?_
 refine Z3r ?_
 refine Z1b ?_
 refine ao2 Y1k (qpb (sz:=1) [[.int .i64 s.nodes],[.int .i64 s.cores],[.int .i64 s.gpus],[.int .i64 (s.tag.size:Int)]] rfl (by decide) (by decide) (by decide) rfl rfl (by simp) rfl (by intro r hr;simp at hr;rcases hr with rfl | rfl | rfl | rfl<;>rfl)) ?_
 refine Z4o ?_
 try dsimp only [List.length_cons,List.length_nil,Nat.reduceAdd,put]
 rw [hrows]
 refine Z1d ?_
 refine qm (G:=Nat) (fun k=>k≤4) (fun k=>[(1,.pt (Lid H.length 0) 0 0 0),(4,.sl (Lid H.length 1) (qfn (ns.take k)).length 0 (1+(qfn (ns.take k)).length) (1+(qfn (ns.take k)).length)),(20,.pl (ns.map fun n:Nat=>[AV.int .i64 (n:Int)])),(21,.int .i64 4),(22,.int .i64 (k:Int))]) (fun k=>H++[⟨0,7,[q1i s]⟩,⟨(qfn (ns.take k)).length,1,([1]++qfn (ns.take k)).map qz⟩]) (fun k=>4-k) 0 (by omega) Y8 (.inl rfl) ?_
 intro k hk
 have hpl:(qfn (ns.take k)).length≤40:=by
  have:=qnz (ns.take k) fun n hn=>by have:=hsm n (List.mem_of_mem_take hn);omega
  have h2:(ns.take k).length≤4:=by rw [List.length_take];omega
  omega
 refine Z2 ?_
 refine Zjr ?_
 refine Z1 ?_
 refine qa rfl (fun hc=>?_) (fun hc=>?_)
 ·have hk4:k<4:=by simp at hc;omega
  obtain ⟨n,hn,_⟩:=qr (l:=ns) (k:=k) (by omega)
  have hnm:=List.mem_of_getElem? hn
  have hn1:=hsm n hnm
  have hr:(ns.map fun n:Nat=>[AV.int .i64 (n:Int)])[k]?=some [.int .i64 (n:Int)]:=qk (fun n:Nat=>[AV.int .i64 (n:Int)]) hn
  have c1:=fun H' id hid=>q55 ([1]++qfn (ns.take k)) n (by omega) H' id (qfn (ns.take k)).length Y1x hid
  have hstep:=qw2 hn
  rw [show (([1]:List UInt8)++qfn (ns.take k)).length=1+(qfn (ns.take k)).length by simp;omega,List.append_assoc,← hstep,Nat.add_assoc] at c1
  have hl2:(qfn (ns.take k)).length+(q2m n).length=(qfn (ns.take (k+1))).length:=by rw [hstep,List.length_append]
  rw [hl2] at c1
  refine Zfo ?_
  refine Z8p ?_
  refine ao1 (by decide) (qn (r:=(n:Int)) rfl (q34 _ (by omega))) ?_
  refine Zoz ?_
  refine Z8s ?_
  try dsimp only [put,List.cons_append,List.nil_append,List.set_cons_succ,List.set_cons_zero]
  refine Zp1 ?_
  exact ⟨k+1,by omega,by omega,Y8,.inl rfl⟩
 ·have hk4:k=4:=by simp at hc;omega
  subst hk4
  have htk:ns.take 4=ns:=List.take_of_length_le (by omega)
  rw [htk] at hpl ⊢
  generalize hb0:[1]++qfn ns=b0
  have hb0l:b0.length=1+(qfn ns).length:=by rw [← hb0];simp;omega
  rw [← hb0l]
  generalize hg0:(qfn ns).length=g0 at hpl hb0l
  have hb1l:(b0++s.tag.data.toList).length=b0.length+s.tag.size:=by rw [List.length_append,q6p]
  generalize hb2:b0++s.tag.data.toList++[wb s.whole]=b2
  have hb2l:b2.length=(b0++s.tag.data.toList).length+1:=by rw [← hb2,List.length_append];rfl
  generalize hb3:b2++q2m s.long.toNat=b3
  have hb3l:b3.length=b2.length+(q2m s.long.toNat).length:=by rw [← hb3,List.length_append]
  have hlong:=q2h (n:=s.long.toNat) (by omega)
  generalize hb4:b3++q2m (zig s.prio)=b4
  have hb4l:b4.length=b3.length+(q2m (zig s.prio)).length:=by rw [← hb4,List.length_append]
  have hspec:b4=q2t s:=by
   rw [← hb4,← hb3,← hb2,← hb0,← hns,q2t]
   simp [qfn]
  have c2:=fun H' id hid=>qso (b0++s.tag.data.toList) s.whole H' id (g0+1) (by omega) hid
  rw [hb2,← hb2l] at c2
  have c3:=fun H' id hid=>q55 b2 s.long.toNat (by omega) H' id (g0+1+1) (by omega) hid
  rw [hb3,← hb3l] at c3
  have c4:=fun H' id hid=>qno b3 s.prio ⟨hp1,hp2⟩ H' id (g0+1+1+(q2m s.long.toNat).length) (by omega) hid
  rw [hb4,← hb4l] at c4
  have hsrc:∀ (P:Program) (N:Nat) (env:Env) (G:qf) (x:Operand),aev env x = .str s.tag→Src P N env G x 1 (s.tag.data.toList.map qz):=fun P N env G x hx=>Src.str hx
  refine Z1 ?_
  refine Zp2 ?_
  refine Zbv ?_
  refine Zp3 ?_
  refine aqr 2 rfl Y1q (by decide) (fun G hG=>qh (v:=.str _) rfl (lk rfl hG) rfl rfl rfl) ?_
  refine aqr 4 rfl Y1q (by decide) (fun G hG=>qd rfl (lk rfl hG) rfl (by decide)) ?_
  refine aqr 5 rfl Y1q (by decide) (fun G hG=>qh (v:=.bool _) rfl (lk rfl hG) rfl rfl rfl) ?_
  refine aqs 3 rfl Y1q Y15 Y1k (q3t (bs:=b0) (cs:=s.tag.data.toList) (en:=qz) rfl rfl (by rw [← hb0];rfl) (hsrc _ _ _ _ _ rfl) rfl (by rw [q6p];omega) (by rw [q6p];omega)) ?_
  refine aqs 6 rfl Y1q Y15 Y1k (V2.callo3 (k:=1) (c2 _ (Lid H.length 1) (lk rfl rfl)) rfl rfl) ?_
  refine Zi8 ?_
  refine Zie ?_
  refine Znz ?_
  refine Z1 ?_
  refine Zp2 ?_
  refine Zbv ?_
  refine Zp3 ?_
  refine Zoo ?_
  refine aq0 3 rfl Y1q (by decide) (fun _=>qn (r:=(s.long.toNat:Int)) rfl Y14) ?_
  refine Zp4 ?_
  refine Zp5 ?_
  refine aqs 4 rfl Y1q Y15 Y1k (V2.callo3 (k:=1) (c3 _ (Lid H.length 1) (lk rfl rfl)) rfl rfl) ?_
  refine aqs 7 rfl Y1q Y15 Y1k (V2.callo3 (k:=1) (c4 _ (Lid H.length 1) (lk rfl rfl)) rfl rfl) ?_
  refine aq0 8 rfl Y1q (by decide) (fun _=>q11 (v:=.sl _ _ _ _ _) rfl) ?_
  refine aq0 9 rfl Y1q (by decide) (fun _=>q11 (v:=.int _ _) rfl) ?_
  refine Zie ?_
  refine Znz ?_
  refine Z1d ?_
  rw [hspec]
  refine Zp6 ?_
  exact Zi1
set_option maxHeartbeats 0 in
theorem qqe (s:Spec) (H:qf) (ht:s.tag.size≤9223372036854775807):AC Tryz.prog 33 [.agg (q1i s)] H (Ret (.tup [.pl ((q4a s).1.map qz),.int .i64 (q4a s).2]) H):=by
 refine AC.body (N:=72) [.tmp 2,.tmp 3] Tryz.func33 rfl rfl rfl (Nat.le_of_ble_eq_true rfl) fun B hB=>?_
 refine Z2u ?_
 refine Z41 ?_
 refine Z3t ?_
 refine Z3v ?_
 refine Zp7 ?_
 refine Z3x ?_
 refine qa rfl (fun hc=>?_) (fun hc=>?_)
 ·have hs:q1c s=false:=by simpa using hc
  rw [show q4a s=([],1) by rw [q4a,if_pos hs]]
  refine Zhx ?_
  try dsimp only
  exact Zom
 have hs:q1c s=true:=by simpa using hc
 clear hc
 rw [show q4a s=(q2t s,0) by rw [q4a,if_neg (by rw [hs];simp)]]
 obtain ⟨hp1,hp2,htag⟩:=qep hs
 have hf:=q4s hs
 have hlen:=q6w hs
 have hz:zig s.prio<18446744073709551616:=by unfold zig;split<;>omega
 have k0:=q2h (n:=s.nodes.toNat) (by omega)
 have k1:=q2h (n:=s.cores.toNat) (by omega)
 have k2:=q2h (n:=s.gpus.toNat) (by omega)
 have k3:=q2h (n:=s.tag.size) (by omega)
 have k4:=q2h (n:=s.long.toNat) (by omega)
 have k5:=q2h hz
 have c0:=fun H=>q4z s.nodes.toNat (by omega) H
 have c1:=fun H=>q4z s.cores.toNat (by omega) H
 have c2:=fun H=>q4z s.gpus.toNat (by omega) H
 have c3:=fun H=>q4z s.tag.size (by omega) H
 have c4:=fun H=>q4z s.long.toNat (by omega) H
 have c5:=fun H=>q4z (zig s.prio) hz H
 refine Z2 ?_
 refine Z8q ?_
 refine Z8s ?_
 refine Zoy ?_
 obtain ⟨b0,hb0⟩:∃ b0:List UInt8,[1]=b0:=⟨_,rfl⟩
 have hl0:b0.length=1:=by rw [← hb0];rfl
 have he0:[[AV.int .u8 1]]=b0.map qz:=by rw [← hb0];rfl
 rw [he0]
 rw [show AV.sl (Lid H.length 1) 0 0 1 1=AV.sl (Lid H.length 1) 0 0 b0.length b0.length by rw [hl0]]
 refine Zjj ?_
 refine ao1 (by decide) (qn (r:=(s.nodes.toNat:Int)) rfl Y14) ?_
 refine qu (c0 _) rfl (by decide) ?_
 refine ao2 Y1k (q3t (bs:=b0) (cs:=q2m (s.nodes.toNat)) (en:=qz) rfl rfl rfl (Src.pl rfl (qo _)) rfl (by omega) (by omega)) ?_
 refine Zp8 ?_
 generalize hb1:b0++q2m (s.nodes.toNat)=b1
 have hl1:b1.length=b0.length+(q2m (s.nodes.toNat)).length:=by rw [← hb1,List.length_append]
 refine Zjj ?_
 refine ao1 (by decide) (qn (r:=(s.cores.toNat:Int)) rfl Y14) ?_
 refine Zos ?_
 refine ao2 Y1k (q3t (bs:=b1) (cs:=q2m (s.cores.toNat)) (en:=qz) rfl rfl rfl (Src.pl rfl (qo _)) rfl (by omega) (by omega)) ?_
 refine Zp8 ?_
 generalize hb2:b1++q2m (s.cores.toNat)=b2
 have hl2:b2.length=b1.length+(q2m (s.cores.toNat)).length:=by rw [← hb2,List.length_append]
 refine Zjj ?_
 refine ao1 (by decide) (qn (r:=(s.gpus.toNat:Int)) rfl Y14) ?_
 refine qu (c2 _) rfl (by decide) ?_
 refine ao2 Y1k (q3t (bs:=b2) (cs:=q2m (s.gpus.toNat)) (en:=qz) rfl rfl rfl (Src.pl rfl (qo _)) rfl (by omega) (by omega)) ?_
 refine Zp8 ?_
 generalize hb3:b2++q2m (s.gpus.toNat)=b3
 have hl3:b3.length=b2.length+(q2m (s.gpus.toNat)).length:=by rw [← hb3,List.length_append]
 refine Z8o ?_
 refine Z2y ?_
 refine Z3r ?_
 refine Z1b ?_
 refine ao1 (by decide) (qn (r:=(s.tag.size:Int)) rfl Y14) ?_
 refine qu (c3 _) rfl (by decide) ?_
 refine ao2 Y1k (q3t (bs:=b3) (cs:=q2m (s.tag.size)) (en:=qz) rfl rfl rfl (Src.pl rfl (qo _)) rfl (by omega) (by omega)) ?_
 refine Zp8 ?_
 generalize hb4:b3++q2m (s.tag.size)=b4
 have hl4:b4.length=b3.length+(q2m (s.tag.size)).length:=by rw [← hb4,List.length_append]
 refine Z8o ?_
 refine Z2y ?_
 refine Z3r ?_
 refine ao2 Y1k (qpw rfl) ?_
 refine ao2 Y1k (q3t (bs:=b4) (cs:=s.tag.data.toList) (en:=qz) rfl rfl rfl (Src.pl rfl (qo _)) rfl (by rw [q6p];omega) (by rw [q6p];omega)) ?_
 refine Zp8 ?_
 generalize hb5:b4++s.tag.data.toList=b5
 have hl5:b5.length=b4.length+s.tag.size:=by rw [← hb5,List.length_append,q6p]
 obtain ⟨b6,hb6⟩:∃ b6:List UInt8,b5++[wb s.whole]=b6:=⟨_,rfl⟩
 have hl6:b6.length=b5.length+1:=by rw [← hb6,List.length_append];rfl
 refine Z2 ?_
 refine Z2y ?_
 refine Z39 ?_
 refine Z4m ?_
 refine q2x ([(1,.pt (Lid H.length 0) 0 0 0),(4,.sl (Lid H.length 1) 6 0 b6.length b6.length)]) (H++[⟨0,7,[q1i s]⟩,⟨6,1,b6.map qz⟩]) ?_ ?_
 ·refine Z1 ?_
  refine qa rfl (fun hc=>?_) (fun hc=>?_)
  ·have hw:s.whole=true:=by simpa using hc
   rw [hw] at hb6
   subst hb6
   refine Zbi ?_
   refine Zow ?_
   refine ao2 Y1k (q3t (bs:=b5) (cs:=[1]) (en:=qz) rfl rfl rfl (Src.pl rfl (qo [_])) rfl Y1u Y1u) ?_
   refine Z8s ?_
   refine Zp9 ?_
   exact q1u Y8 (.inl rfl)
  ·have hw:s.whole=false:=by simpa using hc
   rw [hw] at hb6
   subst hb6
   refine Zbi ?_
   refine Zox ?_
   refine ao2 Y1k (q3t (bs:=b5) (cs:=[0]) (en:=qz) rfl rfl rfl (Src.pl rfl (qo [_])) rfl Y1u Y1u) ?_
   refine Z8s ?_
   refine Zp9 ?_
   exact q1u Y8 (.inl rfl)
 refine Zjj ?_
 refine ao1 (by decide) (qn (r:=(s.long.toNat:Int)) rfl Y14) ?_
 refine qu (c4 _) rfl (by decide) ?_
 refine ao2 Y1k (q3t (bs:=b6) (cs:=q2m (s.long.toNat)) (en:=qz) rfl rfl rfl (Src.pl rfl (qo _)) rfl (by omega) (by omega)) ?_
 refine Zp8 ?_
 generalize hb7:b6++q2m (s.long.toNat)=b7
 have hl7:b7.length=b6.length+(q2m (s.long.toNat)).length:=by rw [← hb7,List.length_append]
 have hspec:b7++q2m (zig s.prio)=q2t s:=by
  rw [← hb7,← hb6,← hb5,← hb4,← hb3,← hb2,← hb1,← hb0,q2t]
  simp
 refine Z58 ?_
 refine Zu ?_
 refine Z4m ?_
 refine qa rfl (fun hc=>?_) (fun hc=>?_)
 ·have h0:s.prio<0:=by simpa using hc
  have e:(zig s.prio:Int)=0-2 * s.prio-1:=by unfold zig;rw [if_pos h0];omega
  refine Zjj ?_
  refine ao1 (by decide) (qfu (r:=2 * s.prio) rfl rfl (qc (by omega) (by omega))) ?_
  refine ao1 (by decide) (q30 (r:=0-2 * s.prio) rfl rfl (qc (by omega) (by omega))) ?_
  refine ao1 (by decide) (q30 (r:=(zig s.prio:Int)) rfl rfl (by rw [e];exact qc (by omega) (by omega))) ?_
  refine Zpa ?_
  refine Zpb ?_
  refine Zpc ?_
  refine Z8r ?_
  refine Z4 ?_
  refine Znz ?_
  rw [hspec]
  refine Z1d ?_
  refine Zp6 ?_
  exact Zi1
 ·have h0:0≤s.prio:=by simp at hc;omega
  have e:(zig s.prio:Int)=2 * s.prio:=by unfold zig;rw [if_neg (by omega)];omega
  refine Zjj ?_
  refine ao1 (by decide) (qfu (r:=(zig s.prio:Int)) rfl rfl (by rw [e];exact qc (by omega) (by omega))) ?_
  refine Zpa ?_
  refine Zpb ?_
  refine Zpc ?_
  refine Z8r ?_
  refine Z4 ?_
  refine Znz ?_
  rw [hspec]
  refine Z1d ?_
  refine Zp6 ?_
  exact Zi1
theorem qva {P:Program} {N:Nat} {env:Env} {H:qf} {ty t e:TypeId} {x:Operand} {hi:Option Operand} {xs ys:List (List AV)} {h sz:Nat} {agg:Bool} [hu:SlI P t e] [TyI P e agg sz] (hx:aev env x = .pl xs) (hh:Bd env hi xs.length h) (h1:h≤xs.length) (hsz:∀ r∈xs,r.length=sz) (hy:xs.take h=ys):V1 P N (.slice t x none hi none) ty env H (.pl ys):=by
 have:=qb1 (P:=P) (N:=N) (env:=env) (H:=H) (ty:=ty) (t:=t) (e:=e) (agg:=agg) (l:=0) hx .none hh (Nat.zero_le _) h1 hsz
 rw [List.drop_zero,Nat.sub_zero,hy] at this
 exact this
def rdV {α:Type} (f:α→AV) (x:Except Int (α×List UInt8)):Except Int (AV×List UInt8):=match x with
 | .ok (v,r)=>.ok (f v,r)
 | .error e=>.error e
set_option maxHeartbeats 0 in
theorem qv4 (b0:List UInt8) (id g:Nat) (H:qf) (h:id<H.length):AC Tryz.prog 158 [.pt id g 0 0] (Hs H id g b0) (rdS H id g (rdV AV.str (q9j b0))):=by
 have cn:=q63 b0 id g
 refine AC.body (N:=35) [.tmp 2] Tryz.func158 rfl rfl rfl (Nat.le_of_ble_eq_true rfl) fun B hB=>?_
 refine Z2 ?_
 refine Z1a ?_
 refine qe ?_
 cases hg:qg1 b0 with
 | error e0 =>
  rw [show got 0 0 b0 = .error e0 from hg] at cn
  have hres:rdV AV.str (q9j b0) = .error e0:=by rw [q9j,q9s hg];rfl
  refine Zih ?_
  refine q3o rfl (by decide) h cn Y1g Yf
 | ok x =>
 obtain ⟨n,r⟩:=x
 rw [show got 0 0 b0 = .ok (n,r) from hg] at cn
 have hm:=(q5x (b:=b0) hg).2
 refine Zih ?_
 refine q3o rfl (by decide) h cn (fun v r' e=>?_) Y1d;cases e
 refine Z4 ?_
 by_cases h16:16<n
 ·have hres:rdV AV.str (q9j b0) = .error 3:=by rw [q9j,q5n hg,if_pos h16];rfl
  refine Zo3 ?_
  refine q1w (b:=false) Yh (by decide) q14 (fun hb=>Y20) (fun _=>Yo)
 refine Zo3 ?_
 refine q1w (b:=true) Yh (by decide) q14 (fun _=>?_) (fun hb=>Y20)
 refine qe ?_
 have hF:(Hs H id g r)[id]?=some ⟨g,1,[[.pl (r.map qz)]]⟩:=qzn h
 by_cases hr:r.length<n
 ·have hres:rdV AV.str (q9j b0) = .error 2:=by rw [q9j,q5n hg,if_neg h16,qm2,if_pos hr];rfl
  refine Z11 ?_
  refine Ziu ?_
  refine Zil ?_
  refine Z4k ?_
  refine Zg ?_
  refine q1w (b:=false) (by refine congrArg (fun x=>[AV.bool x,AV.int .i64 2]) ?_;simp;omega) (by decide) q14 (fun hb=>Y20) (fun _=>Yo)
 refine Z11 ?_
 refine Ziu ?_
 refine Zil ?_
 refine Z4k ?_
 refine Zg ?_
 refine q1w (b:=true) (by refine congrArg (fun x=>[AV.bool x,AV.int .i64 2]) ?_;simp;omega) (by decide) q14 (fun _=>?_) (fun hb=>Y20)
 refine Z4l ?_
 have hres:rdV AV.str (q9j b0) = .ok (.str ⟨(r.take n).toArray⟩,r.drop n):=by rw [q9j,q5n hg,if_neg h16,qm2,if_neg hr];rfl
 refine Zo0 ?_
 refine Z8 ?_
 refine ao1 (by decide) (qva (sz:=1) (h:=n) (ys:=(r.take n).map qz) rfl (.some rfl rfl) Y1x (qo _) (List.map_take).symm) ?_
 refine ao1 (by decide) (q9d (bs:=r.take n) rfl) ?_
 refine Z1a ?_
 refine Z4l ?_
 have q57:(Hs H id g r).set id ⟨g,1,[[.pl ((r.drop n).map qz)]]⟩=Hs H id g (r.drop n):=qhm H id g r (r.drop n)
 refine Zih ?_
 refine Ziu ?_
 refine Zil ?_
 refine Z8 ?_
 refine ao1 (by decide) (qbu (sz:=1) (l:=n) (ys:=(r.drop n).map qz) rfl (.some rfl rfl) Y1x (qo _) (List.map_drop).symm) ?_
 refine Zij ?_
 refine ao2 Y1w (q1b (sz:=1) (v:=.pl _) (r':=[.pl ((r.drop n).map qz)]) rfl hF rfl rfl rfl rfl rfl (Nat.le_refl 1) rfl) ?_
 refine Z61 ?_
 rw [q57]
 refine Z7 ?_
 refine Z1a ?_
 refine Z9 ?_
 exact e_rd hB (q2o rfl .nil) rfl hres rfl
def qhs:Rd Int:=pb qg1 fun n=>qn8 true (zag n)
set_option maxHeartbeats 0 in
theorem qja (b0:List UInt8) (id g:Nat) (H:qf) (h:id<H.length):AC Tryz.prog 160 [.pt id g 0 0] (Hs H id g b0) (rdS H id g (rdV (AV.int .i64) (qhs b0))):=by
 have cn:=q63 b0 id g
 refine AC.body (N:=15) [.tmp 2] Tryz.func160 rfl rfl rfl (Nat.le_of_ble_eq_true rfl) fun B hB=>?_
 refine Z5 ?_
 cases hg:qg1 b0 with
 | error e0 =>
  rw [show got 0 0 b0 = .error e0 from hg] at cn
  have hres:rdV (AV.int .i64) (qhs b0) = .error e0:=by rw [qhs,q9s hg];rfl
  refine Zih ?_
  refine q3o rfl (by decide) h cn Y1g Yf
 | ok x =>
 obtain ⟨n,r⟩:=x
 rw [show got 0 0 b0 = .ok (n,r) from hg] at cn
 have hm:=(q5x (b:=b0) hg).2
 have hres:rdV (AV.int .i64) (qhs b0) = .ok (.int .i64 (zag n),r):=by rw [qhs,q5n hg];rfl
 refine Zih ?_
 refine q3o rfl (by decide) h cn (fun v r' e=>?_) Y1d;cases e
 refine Z4 ?_
 have hmod:((n:Int)).tmod 2=((n % 2:Nat):Int):=by rw [Int.tmod_eq_emod_of_nonneg (by omega)];omega
 have hdiv:((n:Int)).tdiv 2=((n / 2:Nat):Int):=by rw [Int.tdiv_eq_ediv_of_nonneg (by omega)];omega
 refine Z11 ?_
 refine ao1 (by decide) (qr7 (r:=((n % 2:Nat):Int)) rfl rfl (by decide) hmod) ?_
 refine Z16 ?_
 refine qa rfl (fun hc=>?_) (fun hc=>?_)
 ·have ho:n % 2=1:=by simp at hc;omega
  have hz:zag n = -(((n / 2:Nat):Int)+1):=by unfold zag;rw [if_pos ho];omega
  refine Z11 ?_
  refine Zpd ?_
  refine ao1 (by decide) (q1x (r:=((n / 2:Nat):Int)+1) rfl rfl (qc (by omega) (by omega))) ?_
  refine ao1 (by decide) (q10s (r:=zag n) rfl (by rw [hz];exact qc (by omega) (by omega))) ?_
  refine Za ?_
  exact e_rd hB (q2o rfl .nil) rfl hres rfl
 ·have ho:¬ n % 2=1:=by simp at hc;omega
  have hz:zag n=((n / 2:Nat):Int):=by unfold zag;rw [if_neg ho]
  rw [hz] at hres
  refine Z11 ?_
  refine Zpd ?_
  refine Za ?_
  exact e_rd hB (q2o rfl .nil) rfl hres rfl
def qc7 (s:Spec):AV:=.agg (q1i s)
set_option maxHeartbeats 0 in
theorem qr1 (b : List UInt8) (id g : Nat) (H : qf) (h : id < H.length) : AC Tryz.prog 123 [.pt id g 0 0] (Hs H id g b) (rdS H id g (rdV qc7 (q3r b))) := by
  refine AC.body (N := 37) [.cell 2 23] Tryz.func123 rfl rfl rfl (Nat.le_of_ble_eq_true rfl) fun B hB => ?_
  refine Z2 ?_
  refine Zpe ?_
  refine qe ?_
  refine Znl ?_
  cases b with
  | nil =>
    refine Zih ?_
    refine q3o rfl (by decide) h (q7h [] 1 id g) Y1g (by rintro e r e1; cases e1; (repeat (refine q4u ?_)); exact qfy hB rfl)
  | cons c b0 =>
  by_cases hk : c ≠ 1
  · have hk' : ¬ (c.toNat : Int) = 1 := fun e => hk (UInt8.toNat_inj.1 (by show c.toNat = 1; omega))
    have ck := q7h (c :: b0) 1 id g
    rw [qmx, if_neg hk'] at ck
    have hres : rdV qc7 (q3r (c :: b0)) = .error 3 := by rw [q3r, q5n (v := c) (r := b0) rfl, if_pos hk]; rfl
    refine Zih ?_
    refine q3o rfl (by decide) h ck Y1g Yf
  have hk' : (c.toNat : Int) = 1 := by have : c = 1 := by simpa using hk
                                       subst this; rfl
  have ck := q7h (c :: b0) 1 id g
  rw [qmx, if_pos hk'] at ck
  have q0 : q3r (c :: b0) = rsp1 b0 := by rw [q3r, q5n (v := c) (r := b0) rfl, if_neg hk]
  refine Zih ?_
  refine q3o rfl (by decide) h ck (fun v r' e => ?_) Y1d; cases e
  refine qe ?_
  refine Z2 ?_
  refine Zpe ?_
  refine qe ?_
  refine Z74 ?_
  simp only [q3x]
  have cn := q63 b0 id g
  cases hg : qg1 b0 with
  | error e0 =>
    rw [show got 0 0 b0 = .error e0 from hg] at cn
    have hres : rdV qc7 (q3r (c :: b0)) = .error e0 := by rw [q0, rsp1, q9s hg]; rfl
    refine Zih ?_
    refine q3o rfl (by decide) h cn Y1g Yf
  | ok x =>
  obtain ⟨n, b1⟩ := x
  rw [show got 0 0 b0 = .ok (n, b1) from hg] at cn
  have q1 : q3r (c :: b0) = (pb qg1 fun k => pb qg1 fun u => pb q9j fun t => rsp5 n k u t) b1 := by rw [q0, rsp1, q5n hg]
  have hmn := (q5x (b := b0) hg).2
  clear hg
  refine Zih ?_
  refine q3o rfl (by decide) h cn (fun v r' e => ?_) Y1d; cases e
  refine Zpf ?_
  refine Zpg ?_
  refine Zj7 ?_
  clear cn
  have cn := q63 b1 id g
  cases hg : qg1 b1 with
  | error e0 =>
    rw [show got 0 0 b1 = .error e0 from hg] at cn
    have hres : rdV qc7 (q3r (c :: b0)) = .error e0 := by rw [q1, q9s hg]; rfl
    refine Zih ?_
    refine q3o rfl (by decide) h cn Y1g Yf
  | ok x =>
  obtain ⟨k, b2⟩ := x
  rw [show got 0 0 b1 = .ok (k, b2) from hg] at cn
  have q2 : q3r (c :: b0) = (pb qg1 fun u => pb q9j fun t => rsp5 n k u t) b2 := by rw [q1, q5n hg]
  have hmk := (q5x (b := b1) hg).2
  clear hg
  refine Zih ?_
  refine q3o rfl (by decide) h cn (fun v r' e => ?_) Y1d; cases e
  refine Zpf ?_
  refine Zpg ?_
  refine Zj7 ?_
  clear cn
  have cn := q63 b2 id g
  cases hg : qg1 b2 with
  | error e0 =>
    rw [show got 0 0 b2 = .error e0 from hg] at cn
    have hres : rdV qc7 (q3r (c :: b0)) = .error e0 := by rw [q2, q9s hg]; rfl
    refine Zih ?_
    refine q3o rfl (by decide) h cn Y1g Yf
  | ok x =>
  obtain ⟨u, b3⟩ := x
  rw [show got 0 0 b2 = .ok (u, b3) from hg] at cn
  have q3 : q3r (c :: b0) = (pb q9j fun t => rsp5 n k u t) b3 := by rw [q2, q5n hg]
  have hmu := (q5x (b := b2) hg).2
  clear hg
  refine Zih ?_
  refine q3o rfl (by decide) h cn (fun v r' e => ?_) Y1d; cases e
  refine Zpf ?_
  refine Zpg ?_
  refine Zj7 ?_
  clear cn
  have ct := qv4 b3 id g
  cases hg : q9j b3 with
  | error e0 =>
    rw [hg] at ct
    have hres : rdV qc7 (q3r (c :: b0)) = .error e0 := by rw [q3, q9s hg]; rfl
    refine Zih ?_
    refine q3o rfl (by decide) h ct Y1g Yf
  | ok x =>
  obtain ⟨t, b4⟩ := x
  rw [hg] at ct
  have q4 : q3r (c :: b0) = rsp5 n k u t b4 := by rw [q3, q5n hg]
  clear hg
  refine Zih ?_
  refine q3o rfl (by decide) h ct (fun v r' e => ?_) Y1d; cases e
  refine Zpf ?_
  refine ao2 Y1w (q1k (sz := 1) (v := .str _) (r' := [_, _, _, _, _, _, _]) rfl (q3x _ _ _ _) rfl rfl rfl rfl rfl rfl (Nat.le_of_ble_eq_true rfl) rfl) ?_
  refine Zj7 ?_
  clear ct
  cases b4 with
  | nil =>
    have hres : rdV qc7 (q3r (c :: b0)) = .error 2 := by rw [q4]; rfl
    refine Zih ?_
    refine q3o rfl (by decide) h (q67 [] id g) Y1g Yf
  | cons w b5 =>
  refine Zih ?_
  refine q3o rfl (by decide) h (q67 (w :: b5) id g) (fun v r' e => ?_) Y1d; cases e
  refine Z4 ?_
  by_cases hw : 1 < w.toNat
  · have hres : rdV qc7 (q3r (c :: b0)) = .error 3 := by rw [q4, rsp5, q5n (v := w) (r := b5) rfl, if_pos hw]; rfl
    refine Zo3 ?_
    refine q1w (b := false) Yh (by decide) q14 (fun hb => Y20) (fun _ => Yo)
  have q5 : q3r (c :: b0) = rsp6 n k u t (w.toNat == 1) b5 := by rw [q4, rsp5, q5n (v := w) (r := b5) rfl, if_neg hw]
  refine Zo3 ?_
  refine q1w (b := true) Yh (by decide) q14 (fun _ => ?_) (fun hb => Y20)
  refine qe ?_
  refine Z11 ?_
  refine Z12 ?_
  refine Zpf ?_
  refine ao2 Y1w (q1k (sz := 1) (v := .bool _) (r' := [_, _, _, _, _, _, _]) rfl (q3x _ _ _ _) rfl rfl rfl rfl rfl rfl (Nat.le_of_ble_eq_true rfl) rfl) ?_
  refine Zj7 ?_
  rw [show ((w.toNat : Int) == 1) = (w.toNat == 1) by rw [Bool.eq_iff_iff]; simp; omega]
  have cn := q63 b5 id g
  cases hg : qg1 b5 with
  | error e0 =>
    rw [show got 0 0 b5 = .error e0 from hg] at cn
    have hres : rdV qc7 (q3r (c :: b0)) = .error e0 := by rw [q5, rsp6, q9s hg]; rfl
    refine Zih ?_
    refine q3o rfl (by decide) h cn Y1g Yf
  | ok x =>
  obtain ⟨l, b6⟩ := x
  rw [show got 0 0 b5 = .ok (l, b6) from hg] at cn
  have q6 : q3r (c :: b0) = (pb qg1 fun p => qn8 (q1c ⟨n, k, u, t, w.toNat == 1, l, zag p⟩) ⟨n, k, u, t, w.toNat == 1, l, zag p⟩) b6 := by rw [q5, rsp6, q5n hg]
  have hml := (q5x (b := b5) hg).2
  clear hg
  refine Zih ?_
  refine q3o rfl (by decide) h cn (fun v r' e => ?_) Y1d; cases e
  refine Zpf ?_
  refine Zpg ?_
  refine Zj7 ?_
  clear cn
  have cs := qja b6 id g
  cases hg : qg1 b6 with
  | error e0 =>
    rw [show qhs b6 = .error e0 by rw [qhs, q9s hg]] at cs
    have hres : rdV qc7 (q3r (c :: b0)) = .error e0 := by rw [q6, q9s hg]; rfl
    refine Zih ?_
    refine q3o rfl (by decide) h cs Y1g Yf
  | ok x =>
  obtain ⟨p, b7⟩ := x
  rw [show qhs b6 = .ok (zag p, b7) by rw [qhs, q5n hg]; rfl] at cs
  have q7 : q3r (c :: b0) = qn8 (q1c ⟨n, k, u, t, w.toNat == 1, l, zag p⟩) ⟨n, k, u, t, w.toNat == 1, l, zag p⟩ b7 := by rw [q6, q5n hg]
  clear hg
  refine Zih ?_
  refine q3o rfl (by decide) h cs (fun v r' e => ?_) Y1d; cases e
  refine Zpf ?_
  refine Zpg ?_
  refine Zj7 ?_
  clear cs
  generalize hz : zag p = z at q7
  have cr := fun H => qbr ⟨n, k, u, t, w.toNat == 1, l, z⟩ H
  cases hs : q1c ⟨n, k, u, t, w.toNat == 1, l, z⟩ with
  | false =>
    rw [hs] at cr q7
    have hres : rdV qc7 (q3r (c :: b0)) = .error 3 := by rw [q7]; rfl
    refine Z2 ?_
    refine Zph ?_
    refine Zpi ?_
    refine q1w (b := false) rfl (by decide) q14 (fun hb => Y20) (fun _ => Yo)
  | true =>
    rw [hs] at cr q7
    have hres : rdV qc7 (q3r (c :: b0)) = .ok (qc7 ⟨n, k, u, t, w.toNat == 1, l, z⟩, b7) := by rw [q7]; rfl
    refine Z2 ?_
    refine Zph ?_
    refine Zpi ?_
    refine q1w (b := true) rfl (by decide) q14 (fun _ => ?_) (fun hb => Y20)
    refine qe ?_
    refine Z2 ?_
    refine Zph ?_
    refine ao2 Y1w (q2q (sz := 7) rfl (q3x _ _ _ _) rfl rfl rfl rfl rfl rfl (Nat.le_of_ble_eq_true rfl)) ?_
    refine Zbd ?_
    refine Z1 ?_
    exact e_rd hB (q6o rfl (lk (q3x _ _ _ _) rfl) rfl rfl rfl .nil) rfl hres rfl
def qyg {α:Type} (x:Except Int (α×List UInt8)):Except Int (List UInt8):=match x with
 | .ok (_,r)=>.ok r
 | .error e=>.error e
theorem qwy {H L:qf} (h:HBel H.length H) (hL:∀ o∈L,∀ r∈o.rows,AV.bels (H++L).length r=true):HBel (H++L).length (H++L):=by
 intro x hx r hr
 rcases List.mem_append.1 hx with h1 | h1
 ·exact AV.bels_mono Y12 r (h x h1 r hr)
 ·exact hL x h1 r hr
theorem qy4 (n:Nat) (s t:Spec):∀ o∈[AObj.mk 0 7 [q1i s],AObj.mk 0 7 [q1i t]],∀ r∈o.rows,AV.bels n r=true:=by
 intro o ho r hr
 simp only [List.mem_cons,List.not_mem_nil,or_false] at ho
 rcases ho with rfl | rfl<;>(simp only [List.mem_singleton] at hr;subst hr;rfl)
theorem qqc (b:List UInt8) (H:qf) (lid gl:Nat) (x s:Spec) (hlid:H[lid]?=some ⟨gl,7,[q1i x]⟩) (hl:∀ s' r,q3r b = .ok (s',r)→s'=s) :
  AC Tryz.prog 122 [.pt (H.length+1) 0 0 0,.pt lid gl 0 0] (H++[⟨0,1,[[.int .i64 0]]⟩,⟨0,1,[[.pl (b.map qz)]]⟩]) (rdC H (H.set lid ⟨gl,7,[q1i s]⟩) (qyg (q3r b))):=by
 have hlt:lid<H.length:=(List.getElem?_eq_some_iff.1 hlid).1
 have hid:H.length+1<(H++[AObj.mk 0 1 [[.int .i64 0]],AObj.mk 0 1 [[.pl (b.map qz)]]]).length:=by simp
 have cs:=qr1 b (H.length+1) 0
 suffices h:AC Tryz.prog 122 [.pt (H.length+1) 0 0 0,.pt lid gl 0 0] (Hs (H++[⟨0,1,[[.int .i64 0]]⟩,⟨0,1,[[.pl (b.map qz)]]⟩]) (H.length+1) 0 b) (rdC H (H.set lid ⟨gl,7,[q1i s]⟩) (qyg (q3r b))) by
  rwa [qcs] at h
 cases hr:q3r b with
 | error e =>
  rw [hr] at cs
  refine AC.body (N:=5) [] Tryz.func122 rfl rfl rfl (Nat.le_of_ble_eq_true rfl) fun B hB=>?_
  refine Zit ?_
  refine q3o rfl (by decide) hid cs Y1g (by rintro e r e1;cases e1;(repeat (fail));exact qv5 hB ⟨rfl,r,qcs _ _ _ _⟩ rfl (by rw [q3x,q3x]) (by have:=qgh hB.heap (H.length+1) 0 r;rwa [qhm] at this))
 | ok y =>
  obtain ⟨s',r⟩:=y
  rw [hr] at cs
  obtain rfl:=hl s' r hr
  refine AC.body (N:=5) [] Tryz.func122 rfl rfl rfl (Nat.le_of_ble_eq_true rfl) fun B hB=>?_
  have hF:(Hs (H++[⟨0,1,[[.int .i64 0]]⟩,⟨0,1,[[.pl (b.map qz)]]⟩]) (H.length+1) 0 r)[lid]?=some ⟨gl,7,[q1i x]⟩:=by
   rw [qcs,List.getElem?_append_left hlt];exact hlid
  refine Zit ?_
  refine q3o rfl (by decide) hid cs (fun v r' e=>?_) Y1d;cases e
  refine ao2 Y1w (q1b (sz:=7) (v:=.agg (q1i s')) (r':=q1i s') rfl hF rfl rfl rfl rfl rfl (Nat.le_refl 7) rfl) ?_
  refine Zbd ?_
  refine qc5 (vs:=[]) hB .nil rfl ⟨rfl,?_⟩ rfl (by rw [List.length_set,q3x,q3x]) ?_
  ·rw [qcs];exact List.set_append_left _ _ hlt
  ·have h1:=qgh hB.heap (H.length+1) 0 r
   rw [qhm] at h1
   exact HBel.set h1 _ _ (by intro r hr;simp only [List.map_cons,List.map_nil,List.set_cons_zero,List.mem_singleton] at hr;subst hr;rfl)
set_option maxHeartbeats 0 in
theorem qiu (b:List UInt8) (H:qf):AC Tryz.prog 83 [.pl (b.map qz)] H (Ret (.tup [.agg (q1i (q25 b).1),.int .i64 (q25 b).2]) H):=by
 refine AC.body (N:=14) [.cell 2 23,.tmp 3] Tryz.func83 rfl rfl rfl (Nat.le_of_ble_eq_true rfl) fun B hB=>?_
 refine Z2 ?_
 refine Zpe ?_
 refine Z4 ?_
 refine Z73 ?_
 refine Z2 ?_
 refine Zpe ?_
 refine qe ?_
 refine Z74 ?_
 by_cases hb:65536<b.length
 ·rw [show q25 b=(q2e,4) by rw [q25,if_pos hb]]
  refine Zod ?_
  refine Zoe ?_
  refine Z4 ?_
  try dsimp only
  refine Z8m ?_
  refine qa rfl (fun hc=>?_) (fun hc=>?_)
  ·refine Z2 ?_
   refine Zpj ?_
   refine Z8 ?_
   refine Zpk ?_
   refine Z4 ?_
   exact Zed
  ·simp at hc
 have hbl:=fun s t=>qwy hB.heap (qy4 (H++[AObj.mk 0 7 [q1i s],AObj.mk 0 7 [q1i t]]).length s t)
 have cw:∀ s:Spec,(∀ s' r,q3r b = .ok (s',r)→s'=s)→AC Tryz.prog 84 [.pl (b.map qz),.fn (.func 122) [] [.pt (Lid H.length 1) 0 0 0]] (H++[AObj.mk 0 7 [q1i q2e],AObj.mk 0 7 [q1i q2e]]) (Ret (.int .i64 (q9r (qyg (q3r b)))) (q88 (H++[AObj.mk 0 7 [q1i q2e],AObj.mk 0 7 [q1i q2e]]) (H++[AObj.mk 0 7 [q1i q2e],AObj.mk 0 7 [q1i s]]) (qyg (q3r b)))):=fun s hs=>by
  have h1:=qqc b (H++[AObj.mk 0 7 [q1i q2e],AObj.mk 0 7 [q1i q2e]]) (Lid H.length 1) 0 q2e s (lk rfl rfl) hs
  rw [st rfl] at h1
  exact qg4 _ b _ _ _ _ (by omega) (by simp) (by have:=hbl q2e s;rwa [show (H++[AObj.mk 0 7 [q1i q2e],AObj.mk 0 7 [q1i s]]).length=(H++[AObj.mk 0 7 [q1i q2e],AObj.mk 0 7 [q1i q2e]]).length by simp] at this) rfl (hbl q2e q2e) Y1l h1
 cases hr:q3r b with
 | error e =>
  have he:=qe5 _ _ hr
  rw [show q25 b=(q2e,e) by rw [q25,if_neg hb,hr]]
  have c1:=cw q2e (by rw [hr];intro l' r h;cases h)
  rw [hr] at c1
  change AC _ _ _ _ (Ret (.int .i64 e) (H++[AObj.mk 0 7 [q1i q2e],AObj.mk 0 7 [q1i q2e]])) at c1
  refine Zoi ?_
  try dsimp only
  refine Z8m ?_
  refine qa rfl (fun hc=>?_) (fun hc=>?_)
  ·refine Z2 ?_
   refine Zpj ?_
   refine Z8 ?_
   refine Zpk ?_
   refine Z4 ?_
   exact Zed
  ·simp at hc;omega
 | ok y =>
  obtain ⟨s,r⟩:=y
  have c1:=cw s (by rw [hr];rintro l' r' ⟨⟩;rfl)
  rw [hr] at c1
  cases r with
  | nil =>
   rw [show q25 b=(s,0) by rw [q25,if_neg hb,hr];rfl]
   change AC _ _ _ _ (Ret (.int .i64 0) (H++[AObj.mk 0 7 [q1i q2e],AObj.mk 0 7 [q1i s]])) at c1
   refine Zoi ?_
   try dsimp only
   refine Z8m ?_
   refine qa rfl (fun hc=>?_) (fun hc=>?_)
   ·simp at hc
   ·refine Z3v ?_
    refine Zpk ?_
    refine Z4 ?_
    refine Z7a ?_
    exact Z6p
  | cons c r =>
   rw [show q25 b=(q2e,3) by rw [q25,if_neg hb,hr];rfl]
   change AC _ _ _ _ (Ret (.int .i64 3) (H++[AObj.mk 0 7 [q1i q2e],AObj.mk 0 7 [q1i s]])) at c1
   refine Zoi ?_
   try dsimp only
   refine Z8m ?_
   refine qa rfl (fun hc=>?_) (fun hc=>?_)
   ·refine Z2 ?_
    refine Zpj ?_
    refine Z8 ?_
    refine Zpk ?_
    refine Z4 ?_
    exact Zed
   ·simp at hc
abbrev eOp (o:OOp):List AV:=[.int .i64 o.kind]++q1i o.spec++[.pl (o.needs.map eI),.int .i64 o.id,.int .i64 o.what,.int .i64 o.at_,.pl (o.set.map eI)]
theorem qoj (n:Int) (H:qf):AC Tryz.prog 73 [.int .i64 n] H (Ret (.bool (q44 n)) H):=by
 refine AC.body (N:=9) [.tmp 2] Tryz.func73 rfl rfl rfl (Nat.le_of_ble_eq_true rfl) fun B hB=>?_
 refine Zf ?_
 refine qq 2 (.bool (q44 n)) ?_ ?_
 ·refine Z8 ?_
  refine Z21 ?_
  refine qb rfl rfl (fun hg2=>?_) (fun hg2=>?_)
  ·refine Zj ?_
   refine Zy ?_
   exact Zpl
  ·refine Zt ?_
   exact Zpm
 exact Z20
theorem qs0 (n:Int) (H:qf):AC Tryz.prog 72 [.int .i64 n] H (Ret (.bool (!q44 n)) H):=by
 refine AC.body (N:=6) [.tmp 2] Tryz.func72 rfl rfl rfl (Nat.le_of_ble_eq_true rfl) fun B hB=>?_
 refine Z1o ?_
 refine Z11 ?_
 refine Zpn ?_
 refine Z19 ?_
 exact Z1q
theorem q116 (l:List Int) (p:Int→Bool):(!l.any fun n=>!p n)=l.all p:=by
 induction l with
 | nil=>rfl
 | cons x l ih=>simp only [List.any_cons,List.all_cons,Bool.not_or,Bool.not_not,ih]
set_option maxHeartbeats 0 in
theorem qo3 (o:OOp) (hn:o.needs.length≤1000000) (hs:o.set.length≤1000000) (H:qf):AC Tryz.prog 28 [.agg (eOp o)] H (Ret (.bool (q3q o)) H):=by
 have hs2:o.set.length≤9223372036854775807:=by omega
 refine AC.body (N:=53) [.tmp 2] Tryz.func28 rfl rfl rfl (Nat.le_of_ble_eq_true rfl) fun B hB=>?_
 refine Z4g ?_
 refine Z2x ?_
 refine qq 3 (.bool (tm o.at_)) ?_ ?_
 ·refine Z30 ?_
  refine Z21 ?_
  refine qb rfl rfl (fun hg3=>?_) (fun hg3=>?_)
  ·refine Z32 ?_
   refine Zy ?_
   exact Zpo
  ·refine Z1z ?_
   exact Zpp
 refine Z5b ?_
 refine qa rfl (fun hc=>?_) (fun hc=>?_)
 ·have hk:o.kind=1:=by simpa using hc
  rw [show q3q o=(q1c o.spec&&decide (o.needs.length≤16)&&o.needs.all q44) by rw [q3q,if_pos hk],← q116]
  refine Z1 ?_
  refine qq 2 (.bool (q1c o.spec&&decide (o.needs.length≤16)&&!o.needs.any fun n=>!q44 n)) ?_ ?_
  ·refine Zn3 ?_
   refine Z3w ?_
   refine Zh ?_
   refine qb rfl rfl (fun hg3=>?_) (fun hg3=>?_)
   ·refine Zc7 ?_
    refine Z9q ?_
    refine Zx ?_
    refine Z34 ?_
    refine qb rfl rfl (fun hg9=>?_) (fun hg9=>?_)
    ·refine Zc7 ?_
     refine q6d rfl rfl (by decide) (V2.call (q5s 72 _ qs0 o.needs _ hn) rfl) ?_
     refine Z1v ?_
     refine Zn ?_
     exact Zpq
    ·refine Zq ?_
     refine Zt ?_
     exact qe (Out.mk (by (refine congrArg AV.bool ?_;(clear hB;((refine Bool.eq_iff_iff.mpr ?_;simp only [Bool.and_eq_true,Bool.or_eq_true,Bool.not_eq_true',decide_eq_true_eq,decide_eq_false_iff_not,beq_iff_eq,bne_iff_ne,beq_eq_false_iff_ne,Bool.false_eq_true,Bool.true_eq_false,Bool.and_eq_false_iff,Bool.or_eq_false_iff,List.length_map,false_iff,true_iff,iff_true,iff_false] at *;omega))))) Yb)
   ·refine Zq ?_
    refine Z5n ?_
    refine Zq ?_
    refine Zt ?_
    exact Zhi
  exact Z20
 have hk1:¬ o.kind=1:=by simpa using hc
 refine Z5a ?_
 refine q2x ([(1,.pt (Lid H.length 0) 0 0 0),(3,.bool (tm o.at_)),(13,.int .i64 o.kind),(31,.bool (decide (o.kind=2∨o.kind=5)))]) (H++[⟨0,13,[eOp o]⟩]) ?_ ?_
 ·refine Z1 ?_
  refine qa rfl (fun hc=>?_) (fun hc=>?_)
  ·have hk:o.kind=2:=by simpa using hc
   rw [hc]
   refine Z1 ?_
   refine ⟨?_,.inl rfl⟩
   rw [show decide (o.kind=2∨o.kind=5)=true from decide_eq_true (.inl hk)]
   exact Y8
  ·have hk:¬ o.kind=2:=by simpa using hc
   refine Z9n ?_
   refine ⟨?_,.inl rfl⟩
   rw [show decide (o.kind=2∨o.kind=5)=(o.kind == 5) by rw [Bool.eq_iff_iff];simp [hk]]
   exact Y8
 refine Z1 ?_
 refine qa rfl (fun hc=>?_) (fun hc=>?_)
 ·have hk:o.kind=2∨o.kind=5:=of_decide_eq_true hc
  rw [show q3q o=(q44 o.id&&q44 o.what) by rw [q3q,if_neg hk1,if_pos hk]]
  refine Z1 ?_
  refine qq 2 (.bool (q44 o.id&&q44 o.what)) ?_ ?_
  ·refine Z30 ?_
   refine Zpn ?_
   refine Zh ?_
   refine qb rfl rfl (fun hg3=>?_) (fun hg3=>?_)
   ·refine Z32 ?_
    refine q6d rfl rfl (by decide) (V2.call (qoj _ _) rfl) ?_
    refine Zn ?_
    exact Z1w
   ·refine Z1z ?_
    exact Z1w
  exact Z20
 have hk2:¬ (o.kind=2∨o.kind=5):=of_decide_eq_false hc
 refine Z5a ?_
 refine qa rfl (fun hc=>?_) (fun hc=>?_)
 ·have hk:o.kind=3:=by simpa using hc
  rw [show q3q o=tm o.at_ by rw [q3q,if_neg hk1,if_neg hk2,if_pos hk]]
  refine Z2n ?_
  exact Z1q
 have hk3:¬ o.kind=3:=by simpa using hc
 refine Z5a ?_
 refine qa rfl (fun hc=>?_) (fun hc=>?_)
 ·have hk:o.kind=4:=by simpa using hc
  rw [show q3q o=(tm o.at_&&sok o.set) by rw [q3q,if_neg hk1,if_neg hk2,if_neg hk3,if_pos hk]]
  refine Z1 ?_
  refine qq 2 (.bool (tm o.at_&&sok o.set)) ?_ ?_
  ·refine Z3j ?_
   refine qb rfl rfl (fun hg1=>?_) (fun hg1=>?_)
   ·refine Zc7 ?_
    refine q6d rfl rfl (by decide) (V2.call (qbd o.set Y1y _) rfl) ?_
    refine Zn ?_
    exact Z1w
   ·refine Z1z ?_
    exact Z1w
  exact Z20
 have hk4:¬ o.kind=4:=by simpa using hc
 rw [show q3q o=false by rw [q3q,if_neg hk1,if_neg hk2,if_neg hk3,if_neg hk4]]
 exact Z53
theorem qs3:∀ (k n i:Nat),i<k→(big k n)[i]?=some (UInt8.ofNat (n / 256 ^ (k-1-i) % 256))
 | 0,_,_,h=>absurd h (Nat.not_lt_zero _)
 | k+1,n,i,h=>by
  rw [big]
  by_cases hi:i<k
  ·rw [List.getElem?_append_left (by rw [q27];exact hi),qs3 k (n / 256) i hi]
   congr 3
   rw [Nat.div_div_eq_div_mul,← Nat.pow_succ',show (k-1-i).succ=k+1-1-i by omega]
  ·have:i=k:=by omega
   subst this
   rw [List.getElem?_append_right Yy,q27,Nat.sub_self]
   simp
   apply UInt8.toNat_inj.1
   simp [UInt8.toNat_ofNat']
theorem q11x (n j:Nat) (hj:j≤7):((n:Int)).fdiv (2 ^ min (8 * (j:Int)).toNat IntKind.u64.bits)=((n / 256 ^ j:Nat):Int):=by
 have h64:IntKind.u64.bits=64:=rfl
 rw [show min (8 * (j:Int)).toNat IntKind.u64.bits=8 * j by rw [h64];omega]
 have hp:(256:Nat) ^ j=2 ^ (8 * j):=by rw [Nat.pow_mul]
 rw [hp,Int.fdiv_eq_ediv_of_nonneg _ (Int.pow_nonneg (by decide))]
 rw [Int.natCast_ediv]
 simp
set_option maxHeartbeats 0 in
theorem q6c (bs:List UInt8) (n k:Nat) (hn:n<18446744073709551616) (h1:1≤k) (hk:k≤8) (H:qf) (id g:Nat) (hbs:bs.length≤1000000) (hid:H[id]?=some ⟨g,1,bs.map qz⟩):AC Tryz.prog 30 [.sl id g 0 bs.length bs.length,.int .u64 (n:Int),.int .i64 (k:Int)] H
  (Ret (.sl id (g+k) 0 (bs.length+k) (bs.length+k)) (H.set id ⟨g+k,1,(bs++big k n).map qz⟩)):=by
 have hlt:id<H.length:=(List.getElem?_eq_some_iff.1 hid).1
 have hbl:=q27 k n
 refine AC.body (N:=23) [.tmp 6] Tryz.func30 rfl rfl rfl (Nat.le_of_ble_eq_true rfl) fun B hB=>?_
 refine Z43 ?_
 refine Z11 ?_
 refine ao1 (by decide) (q30 (r:=(k:Int)-1) rfl rfl (qc (by omega) (by omega))) ?_
 refine ao1 (by decide) (qfu (r:=8 * ((k:Int)-1-((0:Nat):Int))) rfl rfl (by rw [show (8:Int) * ((k:Int)-1)=8 * ((k:Int)-1-((0:Nat):Int)) by omega];exact qc (by omega) (by omega))) ?_
 refine Z8l ?_
 refine qm (G:=Nat) (fun i=>i≤k) (fun i=>[(0,.sl id (g+i) 0 (bs.length+i) (bs.length+i)),(1,.int .u64 (n:Int)),(7,.int .i64 (8 * ((k:Int)-1-(i:Int))))]) (fun i=>H.set id ⟨g+i,1,(bs++(big k n).take i).map qz⟩++[]) (fun i=>k-i) 0 (Nat.zero_le _) Y8 (.inl (by rw [List.take_zero,List.append_nil bs,Nat.add_zero,q3k hid])) ?_
 intro i hi
 have hF:(H.set id ⟨g+i,1,(bs++(big k n).take i).map qz⟩)[id]?=some ⟨g+i,1,(bs++(big k n).take i).map qz⟩:=List.getElem?_set_self hlt
 refine Z11 ?_
 refine Z1p ?_
 refine Z9 ?_
 refine qa rfl (fun hc=>?_) (fun hc=>?_)
 ·have hik:i<k:=by simp at hc;omega
  have hget:=qs3 k n i hik
  have htake:((bs++(big k n).take i).map qz).take (bs.length+i)=(bs++(big k n).take i).map qz:=List.take_of_length_le Y1x
  have hj:8 * ((k:Int)-1-(i:Int))=8 * ((k-1-i:Nat):Int):=by omega
  refine Zi6 ?_
  refine ao1 (by decide) (qmv (r:=((n / 256 ^ (k-1-i):Nat):Int)) rfl rfl (by omega) (by rw [hj];exact q11x n _ (by omega))) ?_
  refine ao1 (by decide) (qn (r:=((n / 256 ^ (k-1-i) % 256:Nat):Int)) rfl Y18) ?_
  refine ao2 Y1k (q5e (sz:=1) (v:=.int .u8 ((n / 256 ^ (k-1-i) % 256:Nat):Int)) rfl (by decide) (by decide) rfl rfl rfl rfl rfl) ?_
  refine ao2 Y1k (q5f (bs.length+i+1) rfl hF rfl rfl (Src.pl (ys:=[qz (UInt8.ofNat (n / 256 ^ (k-1-i) % 256))]) Y11 (qo [_])) rfl Y1u Y1u Y1u Y1v) ?_
  refine Z8s ?_
  refine Zok ?_
  rw [List.set_set,htake]
  refine Z11 ?_
  refine ao1 (by decide) (q30 (r:=8 * ((k:Int)-1-((i+1:Nat):Int))) rfl rfl (by rw [show (8 * ((k:Int)-1-(i:Int)))-8=8 * ((k:Int)-1-((i+1:Nat):Int)) by omega];exact qc (by omega) (by omega))) ?_
  refine Za ?_
  refine ⟨i+1,by omega,by omega,Y8,.inl ?_⟩
  rw [List.take_add_one,hget]
  simp [Nat.add_assoc]
 ·have hik:i=k:=by simp at hc;omega
  subst hik
  rw [List.take_of_length_le (by omega)]
  refine Zhu ?_
  refine Z9 ?_
  refine qc5 hB (q2o rfl .nil) rfl ⟨rfl,rfl⟩ (decide_eq_true hlt) (by simp) ?_
  exact HBel.set hB.heap _ _ (fun r hr=>q17 _ _ r hr)
theorem qom {o:OOp} (h:q3q o=true) (hk:o.kind=2∨o.kind=5):(0≤o.id∧o.id≤1073741824)∧0≤o.what∧o.what≤1073741824:=by
 unfold q3q at h
 rw [if_neg (by omega),if_pos hk] at h
 simp only [q44,Bool.and_eq_true,decide_eq_true_eq] at h
 exact h
theorem qkb {o:OOp} (h:q3q o=true):o.kind=1∨(o.kind=2∨o.kind=5)∨o.kind=3∨o.kind=4:=by
 unfold q3q at h
 by_cases h1:o.kind=1
 ·exact .inl h1
 ·rw [if_neg h1] at h
  by_cases h2:o.kind=2∨o.kind=5
  ·exact .inr (.inl h2)
  ·rw [if_neg h2] at h
   by_cases h3:o.kind=3
   ·exact .inr (.inr (.inl h3))
   ·rw [if_neg h3] at h
    by_cases h4:o.kind=4
    ·exact .inr (.inr (.inr h4))
    ·rw [if_neg h4] at h;cases h
theorem qhw {o:OOp} (h:q3q o=true) (hk:o.kind=3∨o.kind=4):0≤o.at_∧o.at_≤4611686018427387904:=by
 unfold q3q at h
 rcases hk with hk | hk
 ·rw [if_neg (by omega),if_neg (by omega),if_pos hk] at h
  exact tm_iff2.1 h
 ·rw [if_neg (by omega),if_neg (by omega),if_neg (by omega),if_pos hk,Bool.and_eq_true] at h
  exact tm_iff2.1 h.1
theorem qp6 {o:OOp} (h:q3q o=true) (hk:o.kind=4):sok o.set=true:=by
 unfold q3q at h
 rw [if_neg (by omega),if_neg (by omega),if_neg (by omega),if_pos hk,Bool.and_eq_true] at h
 exact h.2
theorem qjy {o:OOp} (h:q3q o=true) (hk:o.kind=1):q1c o.spec=true∧o.needs.length≤16∧∀ n∈o.needs,0≤n∧n≤1073741824:=by
 unfold q3q at h
 rw [if_pos hk,Bool.and_eq_true,Bool.and_eq_true,List.all_eq_true] at h
 refine ⟨h.1.1,of_decide_eq_true h.1.2,fun n hn=>?_⟩
 have:=h.2 n hn
 simp only [q44,Bool.and_eq_true,decide_eq_true_eq] at this
 exact this
theorem qgv {l:List Int} {k:Nat} {n:Int} (h:l[k]?=some n):q3b (l.take (k+1))=q3b (l.take k)++big 4 n.toNat:=by
 unfold q3b
 rw [ql h,List.flatMap_append]
 simp
set_option maxHeartbeats 0 in
theorem qj2 (o:OOp) (hn:o.needs.length≤1000000) (hs:o.set.length≤1000000) (H:qf):AC Tryz.prog 10 [.agg (eOp o)] H (Ret (.tup [.pl ((q6f o).1.map qz),.int .i64 (q6f o).2]) H):=by
 refine AC.body (N:=84) [.tmp 2,.tmp 3] Tryz.func10 rfl rfl rfl (Nat.le_of_ble_eq_true rfl) fun B hB=>?_
 refine Z4g ?_
 refine Z41 ?_
 refine Z3t ?_
 refine Z3v ?_
 refine qu (qo3 _ Y1y Y1y _) rfl (by decide) ?_
 refine Z3x ?_
 refine qa rfl (fun hc=>?_) (fun hc=>?_)
 ·have hm:q3q o=false:=by simpa using hc
  rw [show q6f o=([],1) by rw [q6f,hm];rfl]
  refine Zhx ?_
  try dsimp only
  exact Zom
 have hm:q3q o=true:=by simpa using hc
 clear hc
 rw [show q6f o=(q38 o,0) by rw [q6f,hm];rfl]
 have hkind:=qkb hm
 have hkb:qz (UInt8.ofNat o.kind.toNat)=[.int .u8 o.kind]:=by
  rw [q4p (by omega),Int.toNat_of_nonneg (by omega)]
 have hob:q38 o=UInt8.ofNat o.kind.toNat :: (if o.kind=1 then q2t o.spec++(UInt8.ofNat o.needs.length :: q3b o.needs)
  else if o.kind=2∨o.kind=5 then big 4 o.id.toNat++big 4 o.what.toNat
  else if o.kind=3 then big 8 o.at_.toNat else big 8 o.at_.toNat++q9k o.set):=rfl
 generalize UInt8.ofNat o.kind.toNat=kb at hkb hob
 refine Z58 ?_
 refine Zpr ?_
 refine Zps ?_
 refine Z8s ?_
 refine Zoy ?_
 rw [← hkb,show [qz kb]=[kb].map qz from rfl]
 refine Z5b ?_
 refine qa rfl (fun hc=>?_) (fun hc=>?_)
 ·have hk:o.kind=1:=by simpa using hc
  obtain ⟨hsr,hnl,hnr⟩:=qjy hm hk
  have hsl:=q6w hsr
  rw [if_pos hk] at hob
  rw [hob]
  clear hob hc
  refine Z2 ?_
  refine Zn3 ?_
  refine qu (qvh _ _) rfl (by decide) ?_
  refine Zir ?_
  refine Z3z ?_
  rw [show q4a o.spec=(q2t o.spec,0) by rw [q4a,if_neg (by rw [hsr];simp)]]
  refine Z1 ?_
  refine Zp2 ?_
  try dsimp only
  refine Zbv ?_
  refine Zjk ?_
  refine Zpt ?_
  refine Zpu ?_
  refine Zpv ?_
  refine Zpw ?_
  refine Zpx ?_
  refine Zpy ?_
  refine Zpz ?_
  refine Zq0 ?_
  refine Zie ?_
  generalize hb0:[kb]++q2t o.spec++[UInt8.ofNat o.needs.length]=b0
  have hb0l:b0.length=(q2t o.spec).length+2:=by rw [← hb0];simp
  have hfin:kb :: (q2t o.spec++(UInt8.ofNat o.needs.length :: q3b o.needs))=b0++q3b o.needs:=by rw [← hb0];simp
  rw [hfin]
  refine Z4j ?_
  refine Z4o ?_
  refine Zq1 ?_
  refine Z1d ?_
  refine qm (G:=Nat) (fun k=>k≤o.needs.length) (fun k=>[(1,.pt (Lid H.length 0) 0 0 0),(4,.sl (Lid H.length 1) (2+4 * k) 0 (b0.length+4 * k) (b0.length+4 * k)),(38,.pl (o.needs.map eI)),(39,.int .i64 (o.needs.length:Int)),(40,.int .i64 (k:Int))]) (fun k=>H++[⟨0,13,[eOp o]⟩,⟨2+4 * k,1,(b0++q3b (o.needs.take k)).map qz⟩]) (fun k=>o.needs.length-k) 0 (Nat.zero_le _) Y8 (.inl (by rw [List.take_zero];simp [q3b])) ?_
  intro k hkn
  have hl2:(b0++q3b (o.needs.take k)).length=b0.length+4 * k:=by
   rw [List.length_append,q8t,List.length_take,Nat.min_eq_left hkn]
  refine Z4r ?_
  refine qa rfl (fun hc=>?_) (fun hc=>?_)
  ·have hlt:k<o.needs.length:=by simpa using hc
   obtain ⟨n,hx,hxl⟩:=qr hlt
   have hr:=qk eI hx
   have hnn:=hnr n hxl
   have c1:=fun H' id hid=>q6c (b0++q3b (o.needs.take k)) n.toNat 4 (by omega) (by decide) (by decide) H' id (2+4 * k) (by rw [hl2];omega) hid
   rw [hl2,List.append_assoc,← qgv hx] at c1
   refine Zfo ?_
   refine Z8p ?_
   refine ao1 (by decide) (qn (r:=((n.toNat:Nat):Int)) rfl Y14) ?_
   refine Zoz ?_
   refine Z8s ?_
   refine Zif ?_
   refine Zp1 ?_
   exact ⟨k+1,by omega,by omega,Y8,.inl rfl⟩
  ·have hkk:k=o.needs.length:=by simp at hc;omega
   subst hkk
   rw [List.take_length] at hl2 ⊢
   rw [← hl2]
   refine Zji ?_
   refine Zq2 ?_
   exact Zi1
 have hk1:¬ o.kind=1:=by simpa using hc
 rw [if_neg hk1] at hob
 refine Z5a ?_
 refine q2x ([(1,.pt (Lid H.length 0) 0 0 0),(4,.sl (Lid H.length 1) 0 0 1 1),(19,.int .i64 o.kind),(49,.bool (decide (o.kind=2∨o.kind=5)))]) (H++[⟨0,13,[eOp o]⟩,⟨0,1,[kb].map qz⟩]) ?_ ?_
 ·refine Z1 ?_
  refine qa rfl (fun hc=>?_) (fun hc=>?_)
  ·have hk:o.kind=2:=by simpa using hc
   rw [hc]
   refine Z1 ?_
   refine ⟨?_,.inl rfl⟩
   rw [show decide (o.kind=2∨o.kind=5)=true from decide_eq_true (.inl hk)]
   exact Y8
  ·have hk:¬ o.kind=2:=by simpa using hc
   refine Z9n ?_
   refine ⟨?_,.inl rfl⟩
   rw [show decide (o.kind=2∨o.kind=5)=(o.kind == 5) by rw [Bool.eq_iff_iff];simp [hk]]
   exact Y8
 refine Z1 ?_
 refine qa rfl (fun hc=>?_) (fun hc=>?_)
 ·have hk:o.kind=2∨o.kind=5:=of_decide_eq_true hc
  obtain ⟨hi,hw⟩:=qom hm hk
  rw [if_pos hk] at hob
  rw [hob]
  have c1:=fun H' id hid=>q6c [kb] o.id.toNat 4 (by omega) (by decide) (by decide) H' id 0 (by simp) hid
  have c2:=fun H' id hid=>q6c ([kb]++big 4 o.id.toNat) o.what.toNat 4 (by omega) (by decide) (by decide) H' id 4 (by simp [q27]) hid
  have e5:([kb]++big 4 o.id.toNat).length=5:=by simp [q27]
  rw [e5] at c2
  have e9:([kb]++big 4 o.id.toNat++big 4 o.what.toNat).length=9:=by simp [q27]
  refine Zp2 ?_
  refine Zbv ?_
  refine Zp3 ?_
  refine Zoo ?_
  refine aq0 3 rfl Y1q (by decide) (fun _=>qn (r:=((o.id.toNat:Nat):Int)) rfl Y14) ?_
  refine Zp4 ?_
  refine Zp5 ?_
  refine aq0 7 rfl Y1q (by decide) (fun _=>qn (r:=((o.what.toNat:Nat):Int)) rfl Y14) ?_
  refine aqs 4 rfl Y1q Y15 Y1k (V2.callo3 (k:=1) (c1 _ (Lid H.length 1) (lk rfl rfl)) rfl rfl) ?_
  refine aqs 8 rfl Y1q Y15 Y1k (V2.callo3 (k:=1) (c2 _ (Lid H.length 1) (lk rfl rfl)) rfl rfl) ?_
  refine Zq0 ?_
  refine Zie ?_
  refine Zq3 ?_
  refine Zji ?_
  rw [show kb :: (big 4 o.id.toNat++big 4 o.what.toNat)=[kb]++big 4 o.id.toNat++big 4 o.what.toNat by simp]
  refine qp (ys:=([kb]++big 4 o.id.toNat++big 4 o.what.toNat).map qz) 2 rfl rfl rfl rfl (by rw [List.drop_zero,List.take_of_length_le (by rw [List.length_map,e9];exact Nat.le_refl _)]) (by rw [List.length_map,e9]) (q17 0 _) ?_
  exact Zi1
 have hk2:¬ (o.kind=2∨o.kind=5):=of_decide_eq_false hc
 rw [if_neg hk2] at hob
 refine Z5a ?_
 refine qa rfl (fun hc=>?_) (fun hc=>?_)
 ·have hk:o.kind=3:=by simpa using hc
  have ha:=qhw hm (.inl hk)
  rw [if_pos hk] at hob
  rw [hob]
  have c1:=fun H' id hid=>q6c [kb] o.at_.toNat 8 (by omega) (by decide) (by decide) H' id 0 (by simp) hid
  have e9:([kb]++big 8 o.at_.toNat).length=9:=by simp [q27]
  refine Zbi ?_
  refine Z30 ?_
  refine Zq4 ?_
  refine Zoz ?_
  refine Z8s ?_
  refine Zq3 ?_
  refine Zji ?_
  rw [show kb :: big 8 o.at_.toNat=[kb]++big 8 o.at_.toNat from rfl]
  refine qp (ys:=([kb]++big 8 o.at_.toNat).map qz) 2 rfl rfl rfl rfl (by rw [List.drop_zero,List.take_of_length_le (by rw [List.length_map,e9];exact Nat.le_refl _)]) (by rw [List.length_map,e9]) (q17 0 _) ?_
  exact Zi1
 have hk3:¬ o.kind=3:=by simpa using hc
 rw [if_neg hk3] at hob
 refine Z2 ?_
 refine Z9l ?_
 have hk:o.kind=4:=by omega
 refine Z1 ?_
 refine qa rfl (fun hc=>?_) (fun hc=>?_)
 ·have ha:=qhw hm (.inr hk)
  have q57:=qp6 hm hk
  have hsl:=qaz o.set
  rw [hob]
  have c1:=fun H' id hid=>q6c [kb] o.at_.toNat 8 (by omega) (by decide) (by decide) H' id 0 (by simp) hid
  have e9:([kb]++big 8 o.at_.toNat).length=9:=by simp [q27]
  refine Z4j ?_
  refine qu (qys _ Y1y _) rfl (by decide) ?_
  refine Zir ?_
  refine Z3z ?_
  rw [show q5r o.set=(q9k o.set,0) by rw [q5r,if_neg (by rw [q57];simp)]]
  refine Zjj ?_
  refine Zq4 ?_
  refine Zoz ?_
  refine Z44 ?_
  refine ao2 Y1k (q3t (bs:=[kb]++big 8 o.at_.toNat) (cs:=q9k o.set) (en:=qz) (by rw [e9];rfl) rfl rfl (Src.pl rfl (qo _)) rfl (by rw [e9];omega) (by rw [e9];omega)) ?_
  refine Z8s ?_
  try dsimp only [Nat.reduceAdd,List.cons_append,List.nil_append,List.length_cons,List.length_nil,put,List.set_cons_succ,List.set_cons_zero]
  refine Zji ?_
  rw [show kb :: (big 8 o.at_.toNat++q9k o.set)=[kb]++big 8 o.at_.toNat++q9k o.set by simp]
  refine qp (ys:=([kb]++big 8 o.at_.toNat++q9k o.set).map qz) 2 rfl rfl rfl rfl Ym (by simp) (q17 0 _) ?_
  exact Zi1
 ·simp at hc;omega
end Go.Av
namespace Go.Av
variable {P : Program} {N : Nat} {env : Env} {H H0 L : qf} {ty : TypeId}
theorem qyf {t:TypeId} {x y:Operand} {id i j sz:Nat} {agg:Bool} {o:AObj} {r:List AV} {v:AV} [TyI P t agg sz] (hx:aev env x = .pt id o.gen i j) (hid:H[id]?=some o) (hr:o.rows[i]?=some r)
  (hy:(aev env y).up1=v) (hc:v.cellish=true) (hn:v.cells.length=sz) (hj:j+sz≤o.sz) :
  V2 P N (.store t x y) ty env H .junk (H.set id { o with rows:=o.rows.set i (r.take j++v.cells++r.drop (j+sz)) }):=by
 intro dst pos after guard S a w hcr next Q hnext _
 obtain ⟨s,b,arr,et,hs,hp,he,hb,hrow⟩:=hcr.ptr hx hid
 have hvr:=(hcr.ev y).up1
 rw [hy] at hvr
 obtain ⟨hl,h1,hcv⟩:=hvr.cells hc
 have hrl:=(hrow.2 i r hr).1
 have hi:i<o.rows.length:=(List.getElem?_eq_some_iff.1 hr).1
 have hfit:i * o.sz+j+sz≤arr.size:=by
  have h2:i * o.sz+o.sz≤o.rows.length * o.sz:=by
   rw [← Nat.succ_mul]
   exact Nat.mul_le_mul_right _ hi
  have:=hrow.1
  omega
 have hsz:(arr.toList.take (i * o.sz+j)++(a.eval y).cells.toList++arr.toList.drop (i * o.sz+j+sz)).toArray.size=arr.size:=by
  simp [← hl,hn]
  omega
 have hget:∀ k,(arr.toList.take (i * o.sz+j)++(a.eval y).cells.toList++arr.toList.drop (i * o.sz+j+sz)).toArray[k]? =
   if k<i * o.sz+j then arr[k]? else if k<i * o.sz+j+sz then (a.eval y).cells[k-(i * o.sz+j)]? else arr[k]?:=by
  intro k
  have hlen1:(arr.toList.take (i * o.sz+j)).length=i * o.sz+j:=by simp;omega
  have hlen2:(a.eval y).cells.toList.length=sz:=by simp [← hl,hn]
  rw [List.getElem?_toArray,List.append_assoc]
  by_cases h1:k<i * o.sz+j
  ·rw [if_pos h1,List.getElem?_append_left (by omega),List.getElem?_take,if_pos h1];simp
  ·rw [if_neg h1,List.getElem?_append_right (by omega),hlen1]
   by_cases h2:k<i * o.sz+j+sz
   ·rw [if_pos h2,List.getElem?_append_left (by omega)];simp
   ·rw [if_neg h2,List.getElem?_append_right (by omega),hlen2,List.getElem?_drop]
    simp only [Array.getElem?_toList]
    congr 1
    omega
 have hrow':RowOK (own S) S w o.sz (arr.toList.take (i * o.sz+j)++(a.eval y).cells.toList++arr.toList.drop (i * o.sz+j+sz)).toArray (o.rows.set i (r.take j++v.cells++r.drop (j+sz))):=by
  refine ⟨by rw [hsz];simpa using hrow.1,fun i' r' hr'=>?_⟩
  by_cases e:i=i'
  ·subst e
   rw [List.getElem?_set_self hi] at hr'
   obtain rfl:=Option.some.inj hr'
   refine ⟨by simp [hn,hrl];omega,fun k x hk=>?_⟩
   have hlen1:(r.take j).length=j:=by simp;omega
   rw [List.append_assoc] at hk
   rw [hget]
   by_cases h1:k<j
   ·rw [List.getElem?_append_left (by omega),List.getElem?_take,if_pos h1] at hk
    rw [if_pos (by omega)]
    exact (hrow.2 i r hr).2 k x hk
   ·rw [List.getElem?_append_right (by omega),hlen1] at hk
    rw [if_neg (by omega)]
    by_cases h2:k<j+sz
    ·rw [List.getElem?_append_left (by omega)] at hk
     rw [if_pos (by omega),show i * o.sz+k-(i * o.sz+j)=k-j by omega]
     exact hcv (k-j) x hk
    ·rw [List.getElem?_append_right (by omega),hn,List.getElem?_drop] at hk
     rw [if_neg (by omega)]
     rw [show j+sz+(k-j-sz)=k by omega] at hk
     exact (hrow.2 i r hr).2 k x hk
  ·rw [List.getElem?_set_ne e] at hr'
   refine ⟨(hrow.2 i' r' hr').1,fun k x hk=>?_⟩
   have hkl:k<o.sz:=by rw [← (hrow.2 i' r' hr').1];exact (List.getElem?_eq_some_iff.1 hk).1
   rw [hget]
   rcases Nat.lt_or_gt_of_ne e with h | h
   ·have:i * o.sz+o.sz≤i' * o.sz:=by rw [← Nat.succ_mul];exact Nat.mul_le_mul_right _ h
    rw [if_neg (by omega),if_neg (by omega)]
    exact (hrow.2 i' r' hr').2 k x hk
   ·have:i' * o.sz+o.sz≤i * o.sz:=by rw [← Nat.succ_mul];exact Nat.mul_le_mul_right _ h
    rw [if_pos (by omega)]
    exact (hrow.2 i' r' hr').2 k x hk
 obtain ⟨hh,hx'⟩:=hcr.heap.write hid hs hp hb hsz hrow'
 have hrun:(execOp a.eval ⟨dst,.store t x y,ty,pos,after,guard⟩).run P w = .ok .skip (w.setRow b (arr.toList.take (i * o.sz+j)++(a.eval y).cells.toList++arr.toList.drop (i * o.sz+j+sz)).toArray):=by
  simp only [execOp,he,Instr.storeAt,Instr.sureAddr,Sem.run_bind,Sem.run_pure,Result.andThen_ok,qd1 (P:=P) (t:=t) hb (by rw [← hl];exact hn) hfit h1]
 unfold Oper.wp
 rw [hrun]
 exact hnext .junk undef _ S _ ⟨rfl,rfl⟩ hh hx' .junk
theorem qbv {t:TypeId} {x y:Operand} {id g i j sz:Nat} {agg:Bool} {o:AObj} {r r':List AV} {v:AV} [TyI P t agg sz] (hx:aev env x = .pt id g i j) (hid:H0[id]?=some o) (hg:o.gen=g) (hr:o.rows[i]?=some r)
  (hy:(aev env y).up1=v) (hc:v.cellish=true) (hl:v.cells.length=sz) (hj:j+sz≤o.sz) (hr':r.take j++v.cells++r.drop (j+sz)=r') :
  V2 P N (.store t x y) ty env (H0++L) .junk (H0.set id { o with rows:=o.rows.set i r' }++L):=by
 subst hr';subst hg
 have:=qyf (P:=P) (N:=N) (env:=env) (H:=H0++L) (ty:=ty) (t:=t) hx (lkF hid) hr hy hc hl hj
 rwa [stF hid] at this
theorem V2.callm {f id':Nat} {xs:Array Operand} {ts:Array TypeId} {v:AV} {vs:List AV} {o:AObj} {k:Nat} [FnI P f] (hac:AC P f vs (H0++L) (Ret v ((H0++L).set id' o))) (hvs:xs.toList.map (aev env)=vs) (hk:id'=Lid H0.length k) :
  V2 P N (.call { callee:=.value (.func f),args:=xs,argTypes:=ts }) ty env (H0++L) v (H0++L.set k o):=by
 subst hk
 have:=V2.call (N:=N) (ty:=ty) (ts:=ts) hac hvs
 rwa [st rfl] at this
end Go.Av
namespace Go.Av
open Go.Proofs
def rnV (bs:List UInt8) (n:Nat):Nat:=if bs.length<n then 0 else q4x (bs.take n)
def rnL (bs:List UInt8) (n:Nat):List UInt8:=if bs.length<n then [] else bs.drop n
def rnB (bs:List UInt8) (n:Nat) (bad:Bool):Bool:=if bs.length<n then true else bad
theorem q11h (a b:Nat) (ha:a * 256<18446744073709551616) (hb:b<256):IntKind.u64.wrap (BitVec.ofInt IntKind.u64.bits ((a * 256:Nat):Int) ||| BitVec.ofInt IntKind.u64.bits (b:Int)).toNat=((a * 256+b:Nat):Int):=by
 rw [qor _ _ ha (by omega)]
 congr 1
 have h:=Nat.two_pow_add_eq_or_of_lt (i:=8) hb a
 rw [show (2:Nat) ^ 8 * a=a * 256 by omega] at h
 exact h.symm
theorem qsz {k:Nat} (h:k≤7):256 ^ k≤256 ^ 7:=Nat.pow_le_pow_right (by decide) h
set_option maxHeartbeats 0 in
theorem qaq (bs:List UInt8) (bad:Bool) (n:Nat) (hn:n≤8) (H:qf) (id g:Nat) (hF:H[id]?=some ⟨g,2,[[.pl (bs.map qz),.bool bad]]⟩) :
  AC Tryz.prog 37 [.pt id g 0 0,.int .i64 (n:Int)] H (Ret (.int .u64 (rnV bs n:Int)) (H.set id ⟨g,2,[[.pl ((rnL bs n).map qz),.bool (rnB bs n bad)]]⟩)):=by
 have hlen:id<H.length:=(List.getElem?_eq_some_iff.1 hF).1
 refine AC.body (N:=48) [.tmp 4] Tryz.func37 rfl rfl rfl (Nat.le_of_ble_eq_true rfl) fun B hB=>?_
 refine Z5 ?_
 refine Zo0 ?_
 refine Z4k ?_
 refine Z8 ?_
 refine Zu ?_
 refine Z4m ?_
 refine qa rfl (fun hc=>?_) (fun hc=>?_)
 ·have hlt:bs.length<n:=by simp at hc;omega
  have hF2:(H.set id ⟨g,2,[[.pl [],.bool bad]]⟩)[id]?=some ⟨g,2,[[.pl [],.bool bad]]⟩:=List.getElem?_set_self hlen
  rw [rnV,rnL,rnB,if_pos hlt,if_pos hlt,if_pos hlt]
  refine Zih ?_
  refine Ziu ?_
  refine ao2 Y1w (qbv (sz:=1) (v:=.pl []) (r':=[.pl [],.bool bad]) rfl hF rfl rfl rfl rfl rfl (Nat.le_of_ble_eq_true rfl) rfl) ?_
  refine ao1 (by decide) (qy rfl (lkF hF2) rfl) ?_
  refine Zq5 ?_
  refine ao2 Y1w (q1b (sz:=1) (v:=.bool true) (r':=[.pl [],.bool true]) rfl hF2 rfl rfl rfl rfl rfl (Nat.le_of_ble_eq_true rfl) rfl) ?_
  refine Z61 ?_
  rw [List.set_set]
  refine Zz ?_
  exact qc5 hB (q2o rfl .nil) rfl ⟨rfl,rfl⟩ rfl (by simp) (HBel.set hB.heap _ _ Y1e)
 have hge:¬ bs.length<n:=by simp at hc;omega
 rw [rnV,rnL,rnB,if_neg hge,if_neg hge,if_neg hge]
 clear hc
 refine Z5 ?_
 refine Zo0 ?_
 refine Z8 ?_
 refine ao1 (by decide) (qbk (ys:=(bs.take n).map qz) rfl (Bd.some rfl rfl) Y1x (qo _) (by rw [List.map_take])) ?_
 refine Z4p ?_
 generalize hx:bs.take n=xs
 have hxl:xs.length=n:=by rw [← hx,List.length_take];omega
 refine Z1d ?_
 refine qm (G:=Nat) (fun k=>k≤n) (fun k=>[(0,.pt id g 0 0),(1,.int .i64 (n:Int)),(5,.int .u64 (q4x (xs.take k):Int)),(26,.pl (xs.map qz)),(27,.int .i64 (xs.length:Int)),(28,.int .i64 (k:Int))]) (fun _=>H++[]) (fun k=>n-k) 0 (Nat.zero_le _) Y8 (Fit.refl _ _) ?_
 intro k hk
 refine Z4r ?_
 refine qa rfl (fun hc=>?_) (fun hc=>?_)
 ·have hlt:k<xs.length:=by simpa using hc
  obtain ⟨c,hx2,hxm⟩:=qr hlt
  have hr:=qk qz hx2
  have h1:q4x (xs.take (k+1))=q4x (xs.take k) * 256+c.toNat:=by rw [ql hx2,qan]
  have h2:=q96 k (xs.take k) Y17
  have h3:=qsz (k:=k) (by omega)
  have hcc:=c.toNat_lt
  generalize q4x (xs.take k)=p at *
  refine Zfo ?_
  refine Z11 ?_
  refine ao1 (by decide) (qsl (r:=((p * 256:Nat):Int)) rfl rfl (by decide) (by rw [show min (8:Int).toNat IntKind.u64.bits=8 from rfl];exact q34 (p * 256) (by omega))) ?_
  refine Z8 ?_
  refine ao1 (by decide) (qn (r:=(c.toNat:Int)) rfl (q34 _ (by omega))) ?_
  refine ao1 (by decide) (o_or (r:=((p * 256+c.toNat:Nat):Int)) rfl rfl (q11h _ _ (by omega) (by omega))) ?_
  refine Z4 ?_
  refine Zp1 ?_
  exact ⟨k+1,by omega,by omega,by simp only [h1];exact Y8,.refl _ _⟩
 ·have hkk:k=xs.length:=by simp at hc;omega
  subst hkk
  rw [List.take_length]
  refine Zih ?_
  refine Ziu ?_
  refine Zil ?_
  refine Z8 ?_
  refine ao1 (by decide) (qbu (ys:=(bs.drop n).map qz) rfl (Bd.some rfl rfl) Y1x (qo _) (by rw [List.map_drop])) ?_
  refine Zij ?_
  refine ao2 Y1w (q1b (sz:=1) (v:=.pl _) (r':=[.pl ((bs.drop n).map qz),.bool bad]) rfl hF rfl rfl rfl rfl rfl (Nat.le_of_ble_eq_true rfl) rfl) ?_
  refine Z61 ?_
  refine Z1t ?_
  exact qc5 hB (q2o rfl .nil) rfl ⟨rfl,rfl⟩ rfl (by simp) (HBel.set hB.heap _ _ Y1e)
theorem qed:∀ (j:Nat) (r:List UInt8),q5j (j+1) r=q5j j r++[(q4x ((r.drop (4 * j)).take 4):Int)]
 | 0,r=>by simp [q5j]
 | j+1,r=>by
  rw [q5j,qed j (r.drop 4),q5j,List.drop_drop,List.cons_append,show 4+4 * j=4 * (j+1) by omega]
def subT (b:List UInt8):AV:=match qwk b with
 | some (s,l)=>.tup [.agg (q1i s),.pl (l.map eI),.bool true]
 | none=>.tup [.agg (q1i q2e),.pl [],.bool false]
set_option maxHeartbeats 0 in
theorem qmi (b:List UInt8) (hl:b.length≤9000000000000000000) (H:qf):AC Tryz.prog 36 [.pl (b.map qz)] H (Ret (subT b) H):=by
 refine AC.body (N:=60) [.cell 2 23,.tmp 3,.tmp 4] Tryz.func36 rfl rfl rfl (Nat.le_of_ble_eq_true rfl) fun B hB=>?_
 refine Z2 ?_
 refine Zpe ?_
 refine Z41 ?_
 refine Z1n ?_
 refine Z73 ?_
 refine Z1e ?_
 refine qm (G:=Nat) (fun m=>m≤17∧qwk b=qxw b (17-m) m) (fun m=>[(0,.pl (b.map qz)),(2,.pt (Lid H.length 0) 0 0 0),(5,.int .i64 (m:Int))]) (fun _=>H++[⟨0,7,[q1i q2e]⟩]) (fun m=>17-m) 0 ⟨by decide,rfl⟩ Y8 (.inl rfl) ?_
 rintro m ⟨hm,i2⟩
 refine Zo3 ?_
 refine Z9 ?_
 refine qa rfl (fun hc=>?_) (fun hc=>?_)
 ·have hm16:m≤16:=by simp at hc;omega
  clear hc
  rw [show 17-m=(16-m)+1 by omega,qxw] at i2
  by_cases h4:4 * m+1≤b.length
  ·obtain ⟨p,hp⟩:∃ p,b.length-4 * m-1=p:=⟨_,rfl⟩
   have hpl:p<b.length:=by omega
   have hr:(b.map qz)[p]?=some (qz (b.getD p 0)):=by
    rw [List.getElem?_map,List.getElem?_eq_getElem hpl,List.getD_eq_getElem?_getD,List.getElem?_eq_getElem hpl];rfl
   have hsub:qcf b m=(decide ((b.getD p 0).toNat=m)&&decide ((q25 (b.take p)).2=0)):=by
    rw [qcf,hp,decide_eq_true h4,Bool.true_and]
   have hcc:=(b.getD p 0).toNat_lt
   generalize b.getD p 0=c at *
   refine Z6r ?_
   refine Z8 ?_
   refine Zq6 ?_
   refine ao1 (by decide) (q30 (r:=((b.length-4 * m:Nat):Int)) rfl rfl (by rw [List.length_map,show (b.length:Int)-((4 * m:Nat):Int)=((b.length-4 * m:Nat):Int) by omega];exact qc (by omega) (by omega))) ?_
   refine ao1 (by decide) (q30 (r:=(p:Int)) rfl rfl (by rw [show ((b.length-4 * m:Nat):Int)-1=(p:Int) by omega];exact qc (by omega) (by omega))) ?_
   refine Za ?_
   refine qq 31 (.bool (!decide (c.toNat=m))) ?_ ?_
   ·refine Zw ?_
    refine qb rfl rfl (fun hg2=>?_) (fun hg2=>?_)
    ·refine Z63 ?_
     exact qe (Out.mk (by (refine congrArg AV.bool ?_;(clear hB i2 hsub hr;(simp_all;omega)))) Yb)
    ·refine Ze3 ?_
     refine Ze4 ?_
     refine Zfu ?_
     refine q1j rfl rfl (by decide) (qn (r:=(c.toNat:Int)) rfl (qc (by omega) (by omega))) ?_
     refine Zj ?_
     refine Zll ?_
     refine Zr ?_
     exact qe (Out.mk (by (refine congrArg AV.bool ?_;(clear hB i2 hsub hr;grind))) Yb)
   refine Z1 ?_
   refine qa rfl (fun hc=>?_) (fun hc=>?_)
   ·have hne:¬ c.toNat=m:=by simpa using hc
    rw [hsub,decide_eq_false hne,Bool.false_and,if_neg (by decide)] at i2
    refine Z11 ?_
    refine Zq7 ?_
    refine Za ?_
    exact ⟨m+1,by omega,⟨by omega,by rw [show 17-(m+1)=16-m by omega];exact i2⟩,Y8,.inl rfl⟩
   have hcm:c.toNat=m:=by simpa using hc
   clear hc
   rw [hsub,decide_eq_true hcm,Bool.true_and] at i2
   have cs:=fun H=>qiu (b.take p) H
   have hv:qxn b m=((q25 (b.take p)).1,q5j m (b.drop (b.length-4 * m))):=by rw [qxn,hp]
   rw [hv] at i2
   generalize q25 (b.take p)=q at *
   obtain ⟨s,e⟩:=q
   simp only at i2 cs
   refine Z90 ?_
   refine ao1 (by decide) (qbk (ys:=(b.take p).map qz) rfl (Bd.some rfl rfl) Y1x (qo _) (by rw [List.map_take])) ?_
   refine Zq8 ?_
   refine Zi3 ?_
   refine Zpe ?_
   refine Zpk ?_
   refine Z4 ?_
   refine Zbg ?_
   refine Z8m ?_
   refine qa rfl (fun hc=>?_) (fun hc=>?_)
   ·have he:e≠0:=by simpa using hc
    rw [decide_eq_false he,if_neg (by decide)] at i2
    refine Z11 ?_
    refine Zq7 ?_
    refine Za ?_
    exact ⟨m+1,by omega,⟨by omega,by rw [show 17-(m+1)=16-m by omega];exact i2⟩,Y8,Fit.loc hB (G:=[⟨0,7,[q1i s]⟩]) rfl Y1 (fun a ha=>by simp only [List.mem_singleton] at ha;subst ha;intro r hr;simp only [List.mem_singleton] at hr;subst hr;rfl)⟩
   have he:e=0:=by simpa using hc
   clear hc
   subst he
   rw [if_pos (decide_eq_true rfl)] at i2
   rw [subT,i2]
   obtain ⟨rest,hrest⟩:∃ r,b.drop (b.length-4 * m)=r:=⟨_,rfl⟩
   have hrl:rest.length=4 * m:=by rw [← hrest,List.length_drop];omega
   rw [hrest]
   refine Z90 ?_
   refine ao1 (by decide) (q1x (r:=((b.length-4 * m:Nat):Int)) rfl rfl (by rw [show (p:Int)+1=((b.length-4 * m:Nat):Int) by omega];exact qc (by omega) (by omega))) ?_
   refine ao1 (by decide) (qbu (ys:=rest.map qz) rfl (Bd.some rfl rfl) (by simp) (qo _) (by rw [← hrest,List.map_drop])) ?_
   refine ao1 (by decide) (V1.up (q3w (cs:=[_,.bool _]) rfl)) ?_
   refine ao2 Y1k (q8z (sz:=2) (v:=.agg _) rfl rfl rfl rfl (by decide) rfl) ?_
   refine Znp ?_
   refine Z49 ?_
   refine q1s (k:=3) 10 1 rfl (by decide) rfl ?_
   refine Z6n ?_
   refine Z4n ?_
   refine Z8k ?_
   refine Z1d ?_
   refine qm (G:=Nat) (fun j=>j≤m) (fun j=>[(0,.pl (b.map qz)),(2,.pt (Lid H.length 0) 0 0 0),(7,.pt (Lid H.length 1) 0 0 0),(9,.pt (Lid H.length 2) 0 0 0),(10,.sl (Lid H.length 3) j 0 j j),(47,.int .i64 (m:Int)),(48,.int .i64 (j:Int))]) (fun j=>H++[⟨0,7,[q1i q2e]⟩,⟨0,7,[q1i s]⟩,⟨0,2,[[.pl ((rest.drop (4 * j)).map qz),.bool false]]⟩,⟨j,1,(q5j j rest).map eI⟩]) (fun j=>m-j) 0 (Nat.zero_le _) Y8 (.inl rfl) ?_
   intro j hj
   have hjl:=q71 j rest
   refine Z4r ?_
   refine qa rfl (fun hc=>?_) (fun hc=>?_)
   ·have hjm:j<m:=by simpa using hc
    have cn:=fun H id hid=>qaq (rest.drop (4 * j)) false 4 (by decide) H id 0 hid
    have hge:¬ (rest.drop (4 * j)).length<4:=by rw [List.length_drop];omega
    rw [rnV,rnL,rnB,if_neg hge,if_neg hge,if_neg hge,List.drop_drop] at cn
    have hsn:=qed j rest
    have hx:=q96 4 ((rest.drop (4 * j)).take 4) Yq
    generalize q4x ((rest.drop (4 * j)).take 4)=x at *
    refine Z8o ?_
    refine Zig ?_
    refine ao2 Y1k (V2.callm (k:=2) (cn _ (Lid H.length 2) (lk rfl rfl)) rfl rfl) ?_
    refine ao1 (by decide) (qn (r:=(x:Int)) rfl (qc (by omega) (by omega))) ?_
    refine ao2 Y1k (q5e (sz:=1) (v:=.int .i64 (x:Int)) (cs:=[.int .i64 (x:Int)]) rfl (by decide) (by decide) rfl rfl rfl rfl rfl) ?_
    refine ao2 Y1k (q47 rfl rfl rfl rfl rfl (Src.pl (ys:=[[.int .i64 (x:Int)]]) rfl Yi) rfl Y1x (by simp) Y1x Y1x) ?_
    refine Z8s ?_
    refine Zms ?_
    refine Z2 ?_
    refine ao1 (by decide) (q1x (r:=((j+1:Nat):Int)) rfl rfl (qc (by omega) (by omega))) ?_
    refine Z51 ?_
    refine ⟨j+1,by omega,by omega,Y8,.inl ?_⟩
    rw [hsn,List.take_of_length_le Y1x,show 4 * (j+1)=4 * j+4 by omega]
    simp
   ·have hjm:j=m:=by simp at hc;omega
    subst hjm
    refine Z3v ?_
    refine Z8n ?_
    refine Zpk ?_
    refine Z8r ?_
    refine Z1n ?_
    refine Z7a ?_
    refine Z1d ?_
    refine qp (ys:=(q5j j rest).map eI) 3 rfl rfl rfl rfl Yk (by simp [hjl]) (qd3 0 _) ?_
    refine q2z ?_
    exact Zns
  ·have hsub:qcf b m=false:=by rw [qcf,decide_eq_false h4];rfl
   rw [hsub,if_neg (by decide)] at i2
   refine Z6r ?_
   refine Z8 ?_
   refine Zq6 ?_
   refine ao1 (by decide) (q30 (r:=(b.length:Int)-((4 * m:Nat):Int)) rfl rfl (by rw [List.length_map];exact qc (by omega) (by omega))) ?_
   refine ao1 (by decide) (q30 (r:=(b.length:Int)-((4 * m:Nat):Int)-1) rfl rfl (qc (by omega) (by omega))) ?_
   refine Za ?_
   refine qq 31 (.bool true) ?_ ?_
   ·refine Zw ?_
    refine qb rfl rfl (fun hg2=>?_) (fun hg2=>?_)
    ·refine Z63 ?_
     exact Z10
    ·exfalso;simp at hg2;omega
   refine Z1 ?_
   refine qa rfl (fun hc=>?_) (fun hc=>?_)
   ·refine Z11 ?_
    refine Zq7 ?_
    refine Za ?_
    exact ⟨m+1,by omega,⟨by omega,by rw [show 17-(m+1)=16-m by omega];exact i2⟩,Y8,.inl rfl⟩
   ·simp at hc
 ·have hm17:m=17:=by simp at hc;omega
  subst hm17
  rw [show 17-17=0 from rfl,qxw] at i2
  rw [subT,i2]
  refine Z2 ?_
  refine Zpj ?_
  refine Zpk ?_
  refine Z41 ?_
  refine Z1n ?_
  refine Zec ?_
  refine Z1d ?_
  refine q23 3 rfl ?_
  refine q2z ?_
  exact Zns
def fin (o:OOp) (left:List UInt8) (bad:Bool):OOp×Int:=if (bad||decide (0<left.length)||!q3q o)=true then (op0,3) else (o,0)
theorem qf5 (o:OOp) (l:List UInt8):fin o l true=(op0,3):=rfl
theorem qp0 {o:OOp} {l:List UInt8} {bad:Bool} (h:0<l.length):fin o l bad=(op0,3):=by
 rw [fin,decide_eq_true h,if_pos (by simp)]
theorem qsk (o:OOp):fin o [] false=qov o:=by
 rw [fin,qov]
 cases q3q o<;>rfl
theorem qv7 {o:OOp} {l:List UInt8} (h:l=[]):fin o l false=qov o:=by subst h;exact qsk o
theorem q129 {o:OOp} {l:List UInt8} {bad:Bool} (h:q3q o=false):fin o l bad=(op0,3):=by
 rw [fin,h,if_pos (by simp)]
theorem q130 {c:UInt8} {r:List UInt8} (hc:c.toNat=1):q22 (c :: r)=match qwk r with
  | none=>fin ⟨1,q2e,[],0,0,0,[]⟩ [] true
  | some x=>fin ⟨1,x.1,x.2,0,0,0,[]⟩ [] false:=by
 rw [q22,if_neg (by simp),List.getD_cons_zero,if_pos hc,List.drop_succ_cons,List.drop_zero]
 cases qwk r with
 | none=>rfl
 | some x=>simp only [qsk]
theorem q12a {c:UInt8} {r:List UInt8} (hc:c.toNat=2∨c.toNat=5):q22 (c :: r)=fin ⟨c.toNat,q2e,[],(rnV r 4:Int),(rnV (rnL r 4) 4:Int),0,[]⟩ (rnL (rnL r 4) 4) (rnB (rnL r 4) 4 (rnB r 4 false)):=by
 rw [q22,if_neg (by simp),List.getD_cons_zero,if_neg (by omega),if_pos hc]
 by_cases h8:r.length=8
 ·rw [if_neg (by simp [h8])]
  have e1:¬ r.length<4:=by omega
  have e2:¬ (r.drop 4).length<4:=by rw [List.length_drop];omega
  rw [rnV,rnV,rnL,rnL,rnB,rnB,if_neg e1,if_neg e1,if_neg e1,if_neg e2,if_neg e2,if_neg e2]
  rw [qv7 (List.drop_of_length_le Y16)]
  rw [List.drop_succ_cons,List.drop_zero,show List.drop 5 (c :: r)=r.drop 4 from rfl,List.take_of_length_le (l:=r.drop 4) Y16]
 ·rw [if_pos Y1x]
  by_cases e1:r.length<4
  ·have:rnB (rnL r 4) 4 (rnB r 4 false)=true:=by rw [rnL,if_pos e1,rnB,if_pos (by decide)]
   rw [this,qf5]
  ·have hL:rnL r 4=r.drop 4:=if_neg e1
   rw [hL]
   by_cases e2:(r.drop 4).length<4
   ·rw [show rnB (r.drop 4) 4 (rnB r 4 false)=true from if_pos e2,qf5]
   ·rw [qp0 (by rw [rnL,if_neg e2,List.length_drop];rw [List.length_drop] at e2 ⊢;omega)]
theorem q12v {c:UInt8} {r:List UInt8} (hc:c.toNat=3):q22 (c :: r)=fin ⟨3,q2e,[],0,0,IntKind.i64.wrap (rnV r 8:Int),[]⟩ (rnL r 8) (rnB r 8 false):=by
 rw [q22,if_neg (by simp),List.getD_cons_zero,if_neg (by omega),if_neg (by omega),if_pos hc]
 by_cases h8:r.length=8
 ·rw [if_neg (by simp [h8])]
  have e1:¬ r.length<8:=by omega
  rw [rnV,rnL,rnB,if_neg e1,if_neg e1,if_neg e1,qv7 (List.drop_of_length_le (by omega)),List.drop_succ_cons,List.drop_zero,List.take_of_length_le (by omega)]
 ·rw [if_pos Y1x]
  by_cases e1:r.length<8
  ·rw [show rnB r 8 false=true from if_pos e1,qf5]
  ·rw [qp0 (by rw [rnL,if_neg e1,List.length_drop];omega)]
theorem q12j {c:UInt8} {r:List UInt8} (hc:c.toNat=4):q22 (c :: r)=fin ⟨4,q2e,[],0,0,IntKind.i64.wrap (rnV r 8:Int),(q26 (rnL r 8)).1⟩ [] (rnB r 8 false||decide ((q26 (rnL r 8)).2≠0)):=by
 rw [q22,if_neg (by simp),List.getD_cons_zero,if_neg (by omega),if_neg (by omega),if_neg (by omega),if_pos hc,show List.drop 9 (c :: r)=r.drop 8 from rfl,List.drop_succ_cons,List.drop_zero]
 by_cases e1:r.length<8
 ·rw [if_pos (.inl Y1x),show rnB r 8 false=true from if_pos e1,Bool.true_or,qf5]
 ·rw [rnV,rnL,rnB,if_neg e1,if_neg e1,if_neg e1,Bool.false_or]
  by_cases e2:(q26 (r.drop 8)).2=0
  ·rw [if_neg (by simp [e2];omega),decide_eq_false (by simp [e2]),qsk]
  ·rw [if_pos (.inr e2),decide_eq_true e2,qf5]
theorem q10u {c:UInt8} {r:List UInt8} (h:c.toNat≠1∧c.toNat≠2∧c.toNat≠5∧c.toNat≠3∧c.toNat≠4):q22 (c :: r)=fin ⟨c.toNat,q2e,[],0,0,0,[]⟩ r false:=by
 rw [q22,if_neg (by simp),List.getD_cons_zero,if_neg h.1,if_neg (by omega),if_neg (by omega),if_neg (by omega),q129]
 unfold q3q
 simp only
 rw [if_neg (by omega),if_neg (by omega),if_neg (by omega),if_neg (by omega)]
def zOp:List AV:=[.int .i64 0,.int .i64 0,.int .i64 0,.int .i64 0,.str ⟨#[]⟩,.bool false,.int .i64 0,.int .i64 0,.nsl,.int .i64 0,.int .i64 0,.int .i64 0,.nsl]
structure ROp (H M : qf) (p q : Nat) (o : OOp) (left : List UInt8) (bad : Bool) : Prop where
 pre:∃ s,M=H++s
 out:M[Lid H.length 0]?=some ⟨0,13,[zOp]⟩
 op:M[p]?=some ⟨0,13,[eOp o]⟩
 rd:M[q]?=some ⟨0,2,[[.pl (left.map qz),.bool bad]]⟩
 hp:Lid H.length 0<p
 hq:Lid H.length 0<q
 ne:p≠q
theorem ROp.setP {H M:qf} {p q:Nat} {o o':OOp} {left:List UInt8} {bad:Bool} (h:ROp H M p q o left bad):ROp H (M.set p ⟨0,13,[eOp o']⟩) p q o' left bad:=by
 obtain ⟨s,hs⟩:=h.pre
 have h0:Lid H.length 0=H.length:=rfl
 have h1:=h.hp
 refine ⟨⟨s.set (p-H.length) _,by rw [hs,List.set_append_right _ _ (by omega)]⟩,?_,List.getElem?_set_self (List.getElem?_eq_some_iff.1 h.op).1,?_,h.hp,h.hq,h.ne⟩
 ·rw [List.getElem?_set_ne (by omega)];exact h.out
 ·rw [List.getElem?_set_ne h.ne];exact h.rd
theorem ROp.setQ {H M:qf} {p q:Nat} {o:OOp} {left left':List UInt8} {bad bad':Bool} (h:ROp H M p q o left bad):ROp H (M.set q ⟨0,2,[[.pl (left'.map qz),.bool bad']]⟩) p q o left' bad':=by
 obtain ⟨s,hs⟩:=h.pre
 have h0:Lid H.length 0=H.length:=rfl
 have h1:=h.hq
 refine ⟨⟨s.set (q-H.length) _,by rw [hs,List.set_append_right _ _ (by omega)]⟩,?_,?_,List.getElem?_set_self (List.getElem?_eq_some_iff.1 h.rd).1,h.hp,h.hq,h.ne⟩
 ·rw [List.getElem?_set_ne (by omega)];exact h.out
 ·rw [List.getElem?_set_ne h.ne.symm];exact h.op
theorem ROp.app {H M L:qf} {p q:Nat} {o:OOp} {left:List UInt8} {bad:Bool} (h:ROp H M p q o left bad):ROp H (M++L) p q o left bad:=by
 obtain ⟨s,hs⟩:=h.pre
 exact ⟨⟨s++L,by rw [hs,List.append_assoc]⟩,lkF h.out,lkF h.op,lkF h.rd,h.hp,h.hq,h.ne⟩
theorem qmn (o:OOp) (H:qf):AC Tryz.prog 9 [.agg (eOp o)] H (Ret (.bool (decide (o.needs.length≤20)&&decide (o.set.length≤60))) H):=by
 refine AC.body (N:=13) [.tmp 2] Tryz.func9 rfl rfl rfl (Nat.le_of_ble_eq_true rfl) fun B hB=>?_
 refine Z4g ?_
 refine Z2x ?_
 refine qq 2 (.bool (decide (o.needs.length≤20)&&decide (o.set.length≤60))) ?_ ?_
 ·refine Z4i ?_
  refine Z4k ?_
  refine Zi ?_
  refine qb rfl rfl (fun hg4=>?_) (fun hg4=>?_)
  ·refine Zc7 ?_
   refine Z9q ?_
   refine Zy ?_
   exact Zo
  ·refine Zq ?_
   refine Zt ?_
   exact Zo
 exact Z20
theorem q10t (a b:OOp):a=b↔a.kind=b.kind∧a.spec=b.spec∧a.needs=b.needs∧a.id=b.id∧a.what=b.what∧a.at_=b.at_∧a.set=b.set:=by
 cases a;cases b;simp
set_option maxHeartbeats 0 in
theorem q8i (a b:OOp) (ha:a.needs.length≤1000000) (ha2:a.set.length≤1000000) (hb:b.needs.length≤1000000) (hb2:b.set.length≤1000000) (H:qf):AC Tryz.prog 13 [.agg (eOp a),.agg (eOp b)] H (Ret (.bool (decide (a=b))) H):=by
 have heq:=q10t a b
 refine AC.body (N:=52) [.tmp 4] Tryz.func13 rfl rfl rfl (Nat.le_of_ble_eq_true rfl) fun B hB=>?_
 refine Z4g ?_
 refine Z4f ?_
 refine Z1n ?_
 refine Zcd ?_
 refine qq 4 (.bool (decide (a=b))) ?_ ?_
 ·refine Zce ?_
  refine Z3o ?_
  refine qb rfl rfl (fun hg5=>?_) (fun hg5=>?_)
  ·refine Z31 ?_
   refine Z5g ?_
   refine Z31 ?_
   refine Z5g ?_
   refine Zq9 ?_
   refine Z34 ?_
   refine qb rfl rfl (fun hg12=>?_) (fun hg12=>?_)
   ·refine Zcg ?_
    refine q6d rfl rfl (by decide) (V2.call (qgc a.needs b.needs _ (by omega)) rfl) ?_
    refine Z34 ?_
    refine qb rfl rfl (fun hg19=>?_) (fun hg19=>?_)
    ·refine Zqa ?_
     refine qb rfl rfl (fun hg26=>?_) (fun hg26=>?_)
     ·refine Zqa ?_
      refine qb rfl rfl (fun hg33=>?_) (fun hg33=>?_)
      ·refine Zqa ?_
       refine qb rfl rfl (fun hg40=>?_) (fun hg40=>?_)
       ·refine Zcg ?_
        refine q6d rfl rfl (by decide) (V2.call (qgc a.set b.set _ (by omega)) rfl) ?_
        refine Zn ?_
        exact Zhi
       ·refine Z56 ?_
        exact Zhi
      ·refine Zq ?_
       refine Zcc ?_
       exact Zhi
     ·refine Zqb ?_
      refine Zcc ?_
      exact Zhi
    ·refine Zqc ?_
     refine Zcc ?_
     exact Zhi
   ·refine Zqd ?_
    refine Zcc ?_
    exact Zhi
  ·refine Zqd ?_
   refine Zcb ?_
   refine Zcc ?_
   exact Zhi
 exact Z20
set_option maxHeartbeats 0 in
theorem qfh (o:OOp) (H:qf):AC Tryz.prog 14 [.agg (eOp o)] H (Ret (.agg (eOp (q41 o))) H):=by
 refine AC.body (N:=34) [.cell 2 26] Tryz.func14 rfl rfl rfl (Nat.le_of_ble_eq_true rfl) fun B hB=>?_
 refine Z4g ?_
 refine Z5w ?_
 refine qe ?_
 refine Ze7 ?_
 refine Z5b ?_
 refine qa rfl (fun hc=>?_) (fun hc=>?_)
 ·have hk:o.kind=1:=by simpa using hc
  rw [q41,if_pos hk]
  refine Z2 ?_
  refine Zn3 ?_
  refine Z4i ?_
  refine Zqe ?_
  refine Zhn ?_
  refine Zqf ?_
  refine Z1 ?_
  exact Ze9
 have hk1:¬ o.kind=1:=by simpa using hc
 clear hc
 refine Z5a ?_
 refine q2x ([(1,.pt (Lid H.length 0) 0 0 0),(2,.pt (Lid H.length 1) 0 0 0),(4,.int .i64 o.kind),(12,.bool (decide (o.kind=2∨o.kind=5)))]) (H++[⟨0,13,[eOp o]⟩,⟨0,13,[[.int .i64 0,.int .i64 0,.int .i64 0,.int .i64 0,.str ⟨#[]⟩,.bool false,.int .i64 0,.int .i64 0,.nsl,.int .i64 0,.int .i64 0,.int .i64 0,.nsl]]⟩]) ?_ ?_
 ·refine Z1 ?_
  refine qa rfl (fun hc=>?_) (fun hc=>?_)
  ·have hk:o.kind=2:=by simpa using hc
   rw [hc]
   refine Z1 ?_
   refine ⟨?_,.inl rfl⟩
   rw [show decide (o.kind=2∨o.kind=5)=true from decide_eq_true (.inl hk)]
   exact Y8
  ·have hk:¬ o.kind=2:=by simpa using hc
   refine Z9n ?_
   refine ⟨?_,.inl rfl⟩
   rw [show decide (o.kind=2∨o.kind=5)=(o.kind == 5) by rw [Bool.eq_iff_iff];simp [hk]]
   exact Y8
 refine Z1 ?_
 refine qa rfl (fun hc=>?_) (fun hc=>?_)
 ·have hk:o.kind=2∨o.kind=5:=of_decide_eq_true hc
  rw [q41,if_neg hk1,if_pos hk]
  refine Z58 ?_
  refine Zce ?_
  refine Zqe ?_
  refine Zhn ?_
  refine Zqg ?_
  refine Z1 ?_
  exact Ze9
 have hk2:¬ (o.kind=2∨o.kind=5):=of_decide_eq_false hc
 clear hc
 refine Z5a ?_
 refine qa rfl (fun hc=>?_) (fun hc=>?_)
 ·have hk:o.kind=3:=by simpa using hc
  rw [q41,if_neg hk1,if_neg hk2,if_pos hk]
  refine Z58 ?_
  refine Zqe ?_
  refine Zhn ?_
  refine Zqg ?_
  refine Z1 ?_
  exact Ze9
 have hk3:¬ o.kind=3:=by simpa using hc
 rw [q41,if_neg hk1,if_neg hk2,if_neg hk3]
 refine Z58 ?_
 refine Z30 ?_
 refine Z4i ?_
 refine Zqe ?_
 refine Zhn ?_
 refine Zqf ?_
 refine Z1 ?_
 exact Ze9
structure GRe where
 p:Nat
 q:Nat
 M:qf
structure GRf where
 o:OOp
 left:List UInt8
 bad:Bool
 M:qf
theorem qyu (b:List UInt8) (m:Nat):(qxn b m).2.length=m:=q71 _ _
theorem qs6 {c:UInt8} {r:List UInt8} (hc:c.toNat=1):∃ s l ok,subT r = .tup [.agg (q1i s),.pl (l.map eI),.bool ok]∧q22 (c :: r)=fin ⟨c.toNat,s,l,0,0,0,[]⟩ [] (!ok)∧l.length≤17:=by
 have h:=q130 (r:=r) hc
 rw [h,subT,hc]
 cases e:qwk r with
 | none=>exact ⟨q2e,[],false,rfl,rfl,by decide⟩
 | some x =>
  refine ⟨x.1,x.2,true,rfl,rfl,?_⟩
  obtain ⟨n,_,h2,_,h4⟩:=qim 17 0 e
  rw [h4,qyu];omega
theorem qzm (r:List UInt8) (n:Nat):rnV r n<256 ^ n:=by
 rw [rnV]
 split
 ·exact Nat.pow_pos (by decide)
 ·exact q96 n _ Y17
theorem qnl (b:List UInt8):(q26 b).1.length≤1000000:=by
 by_cases h:(q26 b).2=0
 ·have:=qiw (qgx h).1
  omega
 ·rw [q26] at h ⊢
  split
  ·simp
  ·rename_i hn
   rw [if_neg hn] at h
   split
   ·simp
   ·rename_i l r hr
    rw [hr] at h
    simp only at h
    split
    ·rename_i h0
     rw [if_pos h0] at h
     exact absurd rfl h
    ·simp
set_option maxHeartbeats 0 in
theorem qem (b:List UInt8) (hl:b.length≤9000000) (H:qf):AC Tryz.prog 12 [.pl (b.map qz)] H (Ret (.tup [.agg (eOp (q22 b).1),.int .i64 (q22 b).2]) H):=by
 refine AC.body (N:=115) [.cell 2 26,.tmp 3] Tryz.func12 rfl rfl rfl (Nat.le_of_ble_eq_true rfl) fun B hB=>?_
 refine Z2 ?_
 refine Z5w ?_
 refine Z4 ?_
 refine Z73 ?_
 refine Z6r ?_
 refine Z16 ?_
 refine qa rfl (fun hc=>?_) (fun hc=>?_)
 ·have hb:b=[]:=by
   cases b with
   | nil=>rfl
   | cons x t=>simp at hc;omega
  rw [show q22 b=(op0,3) by rw [hb];rfl]
  refine Z2 ?_
  refine Zqe ?_
  refine Z68 ?_
  exact Zed
 obtain ⟨c,r,rfl⟩:∃ c r,b=c :: r:=by
  cases b with
  | nil=>simp at hc
  | cons c r=>exact ⟨c,r,rfl⟩
 clear hc
 have hrl:r.length≤9000000:=by simp at hl;omega
 have hc0:((c :: r).map qz)[(0:Int).toNat]?=some (qz c):=rfl
 have hcc:=c.toNat_lt
 refine Z1 ?_
 refine q7l (G:=GRe) (fun g=>ROp H g.M g.p g.q ⟨c.toNat,q2e,[],0,0,0,[]⟩ r false) (fun g=>[(2,.pt (Lid H.length 0) 0 0 0),(4,.pt g.p 0 0 0),(5,.pt g.q 0 0 0)]) (fun g=>g.M++[]) ?_ ?_
 ·refine Z1 ?_
  refine Za0 ?_
  refine Z6v ?_
  refine Zqh ?_
  refine Zqi ?_
  refine Zqj ?_
  refine aq0 4 rfl Y1q (by decide) (fun _=>V1.up (q3w (cs:=[.int _ _,.int _ _,.int _ _,.int _ _,.str _,.bool _,.int _ _,.int _ _,_,.int _ _,.int _ _,.int _ _,_]) rfl)) ?_
  refine Zqk ?_
  refine aq0 6 rfl Y1q (by decide) (fun _=>qbu (l:=1) (ys:=r.map qz) rfl (Bd.some rfl rfl) (by simp) (qo _) rfl) ?_
  refine aq0 7 rfl Y1q (by decide) (fun _=>V1.up (q3w (cs:=[_,.bool _]) rfl)) ?_
  refine qp5 [8,9] Y1q (by simp) Y1b ?_
  simp only [List.forall_mem_cons,List.not_mem_nil,false_implies,implies_true,and_true]
  refine ⟨?_,?_⟩
  ·refine Zql ?_
   refine aqs 9 rfl Y1q Y1b Y1k (q3y (sz:=13) rfl (by decide) rfl) ?_
   refine Zqm ?_
   refine Zqn ?_
   refine Z1k ?_
   try dsimp only [List.length_cons,List.length_nil,Nat.reduceAdd,AV.up,put,AV.cells,List.cons_append,List.nil_append,List.set_cons_zero,List.set_cons_succ]
   exact q1p ⟨Lid H.length 2,Lid H.length 1,_⟩ ⟨⟨_,rfl⟩,lk rfl rfl,lk rfl rfl,lk rfl rfl,by simp [Lid],by simp [Lid],by simp [Lid]⟩ Y8 (.inl (List.append_nil _).symm)
  ·refine aat rfl Y1k (q3y (sz:=13) rfl (by decide) rfl) ?_
   refine qp5 [8,10] Y1q (by simp) Y1b ?_
   simp only [List.forall_mem_cons,List.not_mem_nil,false_implies,implies_true,and_true]
   refine ⟨?_,?_⟩
   ·refine Zql ?_
    refine Zqm ?_
    refine Zqn ?_
    refine Z1k ?_
    try dsimp only [List.cons_append,List.nil_append,List.length_cons,List.length_nil,Nat.reduceAdd,AV.up,put,AV.cells,List.set_cons_zero,List.set_cons_succ]
    exact q1p ⟨Lid H.length 1,Lid H.length 2,_⟩ ⟨⟨_,rfl⟩,lk rfl rfl,lk rfl rfl,lk rfl rfl,by simp [Lid],by simp [Lid],by simp [Lid]⟩ Y8 (.inl (List.append_nil _).symm)
   ·refine aat rfl Y1w (q2q (sz:=13) rfl rfl rfl rfl rfl rfl rfl rfl (Nat.le_of_ble_eq_true rfl)) ?_
    refine aqs 8 rfl Y1q Y1b Y1k (q8z (sz:=2) (v:=.agg _) rfl rfl rfl rfl (by decide) rfl) ?_
    refine Zqn ?_
    refine Z1k ?_
    try dsimp only [List.cons_append,List.nil_append,List.length_cons,List.length_nil,Nat.reduceAdd,List.set_cons_zero,List.set_cons_succ,AV.up,put,AV.cells]
    exact q1p ⟨Lid H.length 1,Lid H.length 2,_⟩ ⟨⟨_,rfl⟩,lk rfl rfl,lk rfl rfl,lk rfl rfl,by simp [Lid],by simp [Lid],by simp [Lid]⟩ Y8 (.inl (List.append_nil _).symm)
 clear hc0
 rintro ⟨p,q,M⟩ hI
 simp only at hI ⊢
 have hF:=hI.op
 have hF1:=hI.rd
 refine Z2 ?_
 refine Zii ?_
 refine ao1 (by decide) (qh (v:=.int _ _) rfl (lkF hF) rfl rfl rfl) ?_
 refine Z4l ?_
 refine Z9m ?_
 refine q7l (G:=GRf) (fun g=>ROp H g.M p q g.o g.left g.bad∧q22 (c :: r)=fin g.o g.left g.bad∧g.o.needs.length≤1000000∧g.o.set.length≤1000000) (fun g=>[(2,.pt (Lid H.length 0) 0 0 0),(4,.pt p 0 0 0),(5,.pt q 0 0 0)]) (fun g=>g.M++[]) ?_ ?_
 ·refine Z5a ?_
  refine qa rfl (fun hc=>?_) (fun hc=>?_)
  ·have hk:c.toNat=1:=by simp at hc;omega
   clear hc
   obtain ⟨s,l,ok,e1,e2,e3⟩:=qs6 (r:=r) hk
   have cs:=fun H=>qmi r (by omega) H
   rw [e1] at cs
   refine Zih ?_
   refine Zqo ?_
   refine Zqp ?_
   refine Zqq ?_
   refine Zq8 ?_
   refine Z7g ?_
   refine Zin ?_
   refine Z6f ?_
   refine Zpe ?_
   refine Zpk ?_
   refine Z4c ?_
   refine Z1n ?_
   try dsimp only [Nat.reduceAdd,put,List.length_nil,List.nil_append,List.set_cons_zero]
   have hI1:=hI.setP (o':=⟨c.toNat,s,[],0,0,0,[]⟩)
   have hI2:=hI1.setP (o':=⟨c.toNat,s,l,0,0,0,[]⟩)
   have hI3:=hI2.setQ (left':=r) (bad':=!ok)
   have hI4:=hI3.setQ (left':=[]) (bad':=!ok)
   refine Zih ?_
   refine Zig ?_
   refine Z3u ?_
   refine Z44 ?_
   refine Zh ?_
   refine Z19 ?_
   refine Zii ?_
   refine ao2 Y1w (q1b (sz:=7) (v:=.agg (q1i s)) (r':=eOp ⟨c.toNat,s,[],0,0,0,[]⟩) rfl hF rfl rfl rfl rfl rfl (Nat.le_of_ble_eq_true rfl) rfl) ?_
   refine Zqr ?_
   refine ao2 Y1w (q1b (sz:=1) (v:=.pl (l.map eI)) (r':=eOp ⟨c.toNat,s,l,0,0,0,[]⟩) rfl hI1.op rfl rfl rfl rfl rfl (Nat.le_of_ble_eq_true rfl) rfl) ?_
   refine Zqs ?_
   refine Zqt ?_
   refine ao2 Y1w (q1b (sz:=1) (v:=.bool (!ok)) (r':=[.pl (r.map qz),.bool (!ok)]) rfl hI2.rd rfl rfl rfl rfl rfl (Nat.le_of_ble_eq_true rfl) rfl) ?_
   refine Zqu ?_
   refine Zqv ?_
   refine ao2 Y1w (qbv (sz:=1) (v:=.pl []) (r':=[.pl [],.bool (!ok)]) rfl hI3.rd rfl rfl rfl rfl rfl (Nat.le_of_ble_eq_true rfl) rfl) ?_
   refine Z61 ?_
   refine Z1 ?_
   exact q1p ⟨⟨c.toNat,s,l,0,0,0,[]⟩,[],!ok,_⟩ ⟨hI4.app,e2,by simp only;omega,by simp⟩ Y8 (.inl (List.append_nil _).symm)
  have hk1:¬ c.toNat=1:=by simp at hc;omega
  clear hc
  refine Z5a ?_
  refine q2x ([(2,.pt (Lid H.length 0) 0 0 0),(4,.pt p 0 0 0),(5,.pt q 0 0 0),(25,.int .i64 (c.toNat:Int)),(49,.bool (decide (c.toNat=2∨c.toNat=5)))]) (M++[]) ?_ ?_
  ·refine Z1 ?_
   refine qa rfl (fun hc=>?_) (fun hc=>?_)
   ·have hk:c.toNat=2:=by simp at hc;omega
    rw [hc]
    refine Z1 ?_
    refine ⟨?_,.inl rfl⟩
    rw [show decide (c.toNat=2∨c.toNat=5)=true from decide_eq_true (.inl hk)]
    exact Y8
   ·have hk:¬ c.toNat=2:=by simp at hc;omega
    refine Z9n ?_
    refine ⟨?_,.inl rfl⟩
    rw [show decide (c.toNat=2∨c.toNat=5)=((c.toNat:Int) == 5) by rw [Bool.eq_iff_iff];simp [hk];omega]
    exact Y8
  refine Z1 ?_
  refine qa rfl (fun hc=>?_) (fun hc=>?_)
  ·have hk:c.toNat=2∨c.toNat=5:=of_decide_eq_true hc
   clear hc
   have e2:=q12a (r:=r) hk
   have v1:=qzm r 4
   have v2:=qzm (rnL r 4) 4
   have hI1:=hI.setQ (left':=rnL r 4) (bad':=rnB r 4 false)
   have hI2:=hI1.setP (o':=⟨c.toNat,q2e,[],(rnV r 4:Int),0,0,[]⟩)
   have hI3:=hI2.setQ (left':=rnL (rnL r 4) 4) (bad':=rnB (rnL r 4) 4 (rnB r 4 false))
   have hI4:=hI3.setP (o':=⟨c.toNat,q2e,[],(rnV r 4:Int),(rnV (rnL r 4) 4:Int),0,[]⟩)
   refine Zih ?_
   refine ao2 Y1k (V2.callF (qaq r false 4 (by decide) _ q 0 (lkF hI.rd)) rfl hI.rd) ?_
   refine ao1 (by decide) (qn (r:=(rnV r 4:Int)) rfl (qc (by omega) (by omega))) ?_
   refine Zqr ?_
   refine ao2 Y1w (q1b (sz:=1) (v:=.int .i64 (rnV r 4:Int)) (r':=eOp ⟨c.toNat,q2e,[],(rnV r 4:Int),0,0,[]⟩) rfl hI1.op rfl rfl rfl rfl rfl (Nat.le_of_ble_eq_true rfl) rfl) ?_
   refine Z61 ?_
   refine Zih ?_
   refine ao2 Y1k (V2.callF (qaq (rnL r 4) (rnB r 4 false) 4 (by decide) _ q 0 (lkF hI2.rd)) rfl hI2.rd) ?_
   refine ao1 (by decide) (qn (r:=(rnV (rnL r 4) 4:Int)) rfl (qc (by omega) (by omega))) ?_
   refine ao1 (by decide) (qd rfl (lkF hI3.op) rfl (by decide)) ?_
   refine ao2 Y1w (q1b (sz:=1) (v:=.int .i64 (rnV (rnL r 4) 4:Int)) (r':=eOp ⟨c.toNat,q2e,[],(rnV r 4:Int),(rnV (rnL r 4) 4:Int),0,[]⟩) rfl hI3.op rfl rfl rfl rfl rfl (Nat.le_of_ble_eq_true rfl) rfl) ?_
   refine Z61 ?_
   refine Z1 ?_
   exact q1p ⟨_,_,_,_⟩ ⟨hI4,e2,by simp,by simp⟩ Y8 (.inl rfl)
  have hk2:¬ (c.toNat=2∨c.toNat=5):=of_decide_eq_false hc
  clear hc
  refine Z5a ?_
  refine qa rfl (fun hc=>?_) (fun hc=>?_)
  ·have hk:c.toNat=3:=by simp at hc;omega
   clear hc
   have e2:=q12v (r:=r) hk
   rw [show (3:Int)=(c.toNat:Int) by omega] at e2
   have hI1:=hI.setQ (left':=rnL r 8) (bad':=rnB r 8 false)
   have hI2:=hI1.setP (o':=⟨c.toNat,q2e,[],0,0,IntKind.i64.wrap (rnV r 8:Int),[]⟩)
   refine Zit ?_
   refine Zqw ?_
   refine Zqx ?_
   refine Zqr ?_
   refine Zqy ?_
   refine Z61 ?_
   refine Z1 ?_
   exact q1p ⟨_,_,_,_⟩ ⟨hI2,e2,by simp,by simp⟩ Y8 (.inl rfl)
  have hk3:¬ c.toNat=3:=by simp at hc;omega
  clear hc
  refine Z5a ?_
  refine qa rfl (fun hc=>?_) (fun hc=>?_)
  ·have hk:c.toNat=4:=by simp at hc;omega
   clear hc
   have e2:=q12j (r:=r) hk
   rw [show (4:Int)=(c.toNat:Int) by omega] at e2
   have hI1:=hI.setQ (left':=rnL r 8) (bad':=rnB r 8 false)
   have hI2:=hI1.setP (o':=⟨c.toNat,q2e,[],0,0,IntKind.i64.wrap (rnV r 8:Int),[]⟩)
   refine Zih ?_
   refine Zqw ?_
   refine Zqx ?_
   refine Zqr ?_
   refine Zqy ?_
   refine Z61 ?_
   have cr:=fun H=>ql9 (rnL r 8) H
   have hsl:=qnl (rnL r 8)
   generalize q26 (rnL r 8)=y at *
   obtain ⟨l,e⟩:=y
   simp only at cr e2 hsl
   refine Zih ?_
   refine Zqs ?_
   refine Zqt ?_
   refine ao1 (by decide) (qh (v:=.pl ((rnL r 8).map qz)) rfl (lkF hI2.rd) rfl rfl rfl) ?_
   refine Zqz ?_
   refine Zir ?_
   refine Z6k ?_
   have hI3:=hI2.setP (o':=⟨c.toNat,q2e,[],0,0,IntKind.i64.wrap (rnV r 8:Int),l⟩)
   have hI4:=hI3.setQ (left':=rnL r 8) (bad':=rnB r 8 false||decide (e≠0))
   have hI5:=hI4.setQ (left':=[]) (bad':=rnB r 8 false||decide (e≠0))
   refine Zih ?_
   refine Zig ?_
   refine Z44 ?_
   refine Zig ?_
   refine Zqs ?_
   refine Zqt ?_
   refine ao1 (by decide) (qh (v:=.bool (rnB r 8 false)) rfl (lkF hI2.rd) rfl rfl rfl) ?_
   refine Zh ?_
   refine qb rfl rfl (fun hg7=>?_) (fun hg7=>?_)
   ·refine Z3b ?_
    refine Zm ?_
    refine Zr0 ?_
    refine Zr1 ?_
    refine Zqu ?_
    refine Zqv ?_
    refine ao2 Y1w (q1b (sz:=1) (v:=.bool (rnB r 8 false||decide (e≠0))) (r':=[.pl ((rnL r 8).map qz),.bool (rnB r 8 false||decide (e≠0))]) rfl hI3.rd rfl rfl (congrArg AV.bool (by (rw [hg7];rfl))) rfl rfl (Nat.le_of_ble_eq_true rfl) rfl) ?_
    refine Zr2 ?_
    refine Zr3 ?_
    refine Zr4 ?_
    refine Z9 ?_
    exact q1p ⟨_,_,_,_⟩ ⟨hI5,e2,by simp,by simp only;omega⟩ Y8 (.inl rfl)
   ·refine Zj ?_
    refine Zll ?_
    refine Zr ?_
    refine Zr0 ?_
    refine Zr1 ?_
    refine Zqu ?_
    refine Zqv ?_
    refine ao2 Y1w (q1b (sz:=1) (v:=.bool (rnB r 8 false||decide (e≠0))) (r':=[.pl ((rnL r 8).map qz),.bool (rnB r 8 false||decide (e≠0))]) rfl hI3.rd rfl rfl (congrArg AV.bool (by (rw [hg7,Bool.false_or,Bool.eq_iff_iff];simp))) rfl rfl (Nat.le_of_ble_eq_true rfl) rfl) ?_
    refine Zr2 ?_
    refine Zr3 ?_
    refine Zr4 ?_
    refine Z9 ?_
    exact q1p ⟨_,_,_,_⟩ ⟨hI5,e2,by simp,by simp only;omega⟩ Y8 (.inl rfl)
  have hk4:¬ c.toNat=4:=by simp at hc;omega
  refine Z1 ?_
  exact q1p ⟨_,_,_,_⟩ ⟨hI,q10u ⟨hk1,by omega,by omega,hk3,hk4⟩,by simp,by simp⟩ Y8 (.inl rfl)
 clear hF hF1 hI
 rintro ⟨o,left,bad,M2⟩ ⟨hI,e2,n1,n2⟩
 simp only at hI e2 n1 n2 ⊢
 have hF:=hI.op
 have hF1:=hI.rd
 obtain ⟨s,hs⟩:=hI.pre
 have hfin:∀ X,M2.set (Lid H.length 0) X++[]=H++s.set 0 X:=by
  intro X
  rw [hs,List.append_nil,List.set_append_right _ _ (by simp [Lid])]
  simp [Lid]
 have hsl:0<s.length:=by
  have:=(List.getElem?_eq_some_iff.1 hI.out).1
  rw [hs,List.length_append] at this
  have e:Lid H.length 0=H.length:=rfl
  omega
 have hlast:∀ X,(s.set 0 X)[0]?=some X:=fun X=>List.getElem?_set_self hsl
 rw [e2]
 refine Z1 ?_
 refine qq 112 (.bool (bad||decide (0<left.length)||!q3q o)) ?_ ?_
 ·refine Zig ?_
  refine Zqo ?_
  refine Zqp ?_
  refine ao1 (by decide) (qh (v:=.bool _) rfl (lkF hF1) rfl rfl rfl) ?_
  refine Zh ?_
  refine qb rfl rfl (fun hg4=>?_) (fun hg4=>?_)
  ·refine Z4w ?_
   refine Z62 ?_
   refine Z3n ?_
   exact Zr5
  ·refine Zkj ?_
   refine q1j rfl rfl (by decide) (qy rfl (lkF hF1) rfl) ?_
   refine Zr6 ?_
   refine Zr7 ?_
   refine Z9q ?_
   refine Z3f ?_
   refine Z3g ?_
   refine qb rfl rfl (fun hg12=>?_) (fun hg12=>?_)
   ·refine Z3n ?_
    exact Zr5
   ·refine q1j rfl rfl (by decide) (q1q rfl (lkF hF) rfl rfl rfl) ?_
    refine q6d rfl rfl (by decide) (V2.call (qo3 _ Y1y Y1y _) rfl) ?_
    refine Zhj ?_
    exact Zr5
 refine Z1 ?_
 refine qa rfl (fun hc=>?_) (fun hc=>?_)
 ·rw [fin,if_pos hc]
  refine Z2 ?_
  refine Zqe ?_
  refine ao2 Y1w (q1b (sz:=13) (v:=.agg (eOp op0)) (r':=eOp op0) rfl hI.out rfl rfl rfl rfl rfl (Nat.le_of_ble_eq_true rfl) rfl) ?_
  refine Z4 ?_
  refine Zec ?_
  refine Z1 ?_
  rw [hfin]
  exact Zr8
 ·rw [fin,if_neg Y1p]
  refine Z2 ?_
  refine Zci ?_
  refine ao2 Y1w (q1b (sz:=13) (v:=.agg (eOp o)) (r':=eOp o) rfl hI.out rfl rfl rfl rfl rfl (Nat.le_of_ble_eq_true rfl) rfl) ?_
  refine Z4 ?_
  refine Z7a ?_
  refine Z1 ?_
  rw [hfin]
  exact Zr8
end Go.Av
namespace Go.Av
abbrev bs (l:List UInt8):ByteArray:=⟨l.toArray⟩
theorem qzz {a b:List UInt8}:bs a=bs b↔a=b:=by simp
section
variable {P : Program} {N : Nat} {env : Env} {H : qf} {ty : TypeId}
theorem qzr {x y:Operand} {t t':TypeId} {p q:List UInt8} (hx:aev env x = .str (bs p)) (hy:aev env y = .str (bs q)):V1 P N (.binOp .eql t x y t') ty env H (.bool (decide (p=q))):=by
 have:=q12t (P:=P) (N:=N) (H:=H) (ty:=ty) (t:=t) (t':=t') hx hy
 rwa [show decide (bs p=bs q)=decide (p=q) from decide_eq_decide.2 qzz] at this
theorem q132 {x y:Operand} {t t':TypeId} {p q:List UInt8} (hx:aev env x = .str (bs p)) (hy:aev env y = .str (bs q)):V1 P N (.binOp .neq t x y t') ty env H (.bool (!decide (p=q))):=by
 have:=qny (P:=P) (N:=N) (H:=H) (ty:=ty) (t:=t) (t':=t') hx hy
 rwa [show decide (bs p=bs q)=decide (p=q) from decide_eq_decide.2 qzz] at this
end
end Go.Av
namespace Go.Av
open Go.Proofs
theorem qwa (a b:Nat) (ha:a<65536) (hb:b<256):IntKind.i64.wrap (BitVec.ofInt IntKind.i64.bits ((a * 256:Nat):Int) ||| BitVec.ofInt IntKind.i64.bits (b:Int)).toNat=((a * 256+b:Nat):Int):=by
 show IntKind.i64.wrap (BitVec.ofInt IntKind.u64.bits ((a * 256:Nat):Int) ||| BitVec.ofInt IntKind.u64.bits ((b:Nat):Int)).toNat=_
 rw [BitVec.toNat_or,q8w _ (by omega),q8w _ (by omega)]
 have:a * 256 ||| b=a * 256+b:=by
  have h:=Nat.two_pow_add_eq_or_of_lt (i:=8) hb a
  rw [show (2:Nat) ^ 8 * a=a * 256 by omega] at h
  exact h.symm
 rw [this]
 exact qc (by omega) (by omega)
theorem qdm {n:Nat} (hn:n<65536):(two n).map qz=[[.int .u8 ((n / 256:Nat):Int)],[.int .u8 ((n % 256:Nat):Int)]]:=by
 rw [two,List.map_cons,List.map_cons,List.map_nil,q4p (by omega),show UInt8.ofNat n=UInt8.ofNat (n % 256) by rw [← UInt8.toNat_inj];simp,q4p (by omega)]
theorem qho (a b:Nat):((a:Int).tmod (b:Int))=((a % b:Nat):Int):=by
 rw [Int.tmod_eq_emod_of_nonneg (by omega)];rfl
theorem q14l (n:Nat):(n:Int).fdiv (2 ^ min (8:Int).toNat IntKind.i64.bits)=((n / 256:Nat):Int):=by
 rw [show min (8:Int).toNat IntKind.i64.bits=8 from rfl,Int.fdiv_eq_ediv_of_nonneg _ (by decide)];rfl
theorem qjv (l:List UInt8) (H:qf) (hn:l.length≤100000000000000):AC Tryz.prog 63 [.pl (l.map qz)] H (Ret (.sl (Lid H.length 0) 0 0 l.length l.length) (H++[⟨0,1,l.map qz⟩])):=by
 refine AC.body (N:=8) [.tmp 2] Tryz.func63 rfl rfl rfl (Nat.le_of_ble_eq_true rfl) fun B hB=>?_
 refine Z46 ?_
 refine q69 rfl Y1k (qa6 rfl rfl _ _ _ _) ?_ (fun _ _ h=>h.elim)
 rintro _ _ ⟨nb,rfl,hnb,rfl⟩
 refine Z48 ?_
 refine qa rfl (fun hc=>?_) (fun hc=>?_)
 ·subst hc
  have hb:l=[]:=by
   cases l with
   | nil=>rfl
   | cons x b=>simp at hnb
  subst hb
  refine Z43 ?_
  refine Zbo ?_
  refine Z1d ?_
  refine Zbp ?_
  exact q2z (qbh (G:=[]) hB (q2o rfl .nil) rfl rfl Y1l (by simp))
 ·refine Z2 ?_
  refine Zr9 ?_
  refine Z44 ?_
  refine ao2 Y1k (q8o (sz:=1) (bytes:=1) rfl (Src.pl rfl (qo l)) rfl (by decide) Y1x Y1x rfl) ?_
  refine Zbq ?_
  refine Z1 ?_
  exact qbh (G:=[]) hB (q2o rfl .nil) (congrArg (fun n=>AV.sl (Lid H.length 0) 0 0 n n) (show (l.map qz).length=l.length by simp)) (by simp) Y1l (by intro o ho r hr;simp only [List.mem_singleton] at ho;subst ho;exact q17 _ _ r hr)
theorem qe0 (l:List UInt8) (H:qf) (hn:l.length≤100000000000000):AC Tryz.prog 63 [.pl (l.map qz)] H (Ret (.pl (l.map qz)) H):=by
 refine AC.body (N:=8) [.tmp 2] Tryz.func63 rfl rfl rfl (Nat.le_of_ble_eq_true rfl) fun B hB=>?_
 refine Z46 ?_
 refine q69 rfl Y1k (qa6 rfl rfl _ _ _ _) ?_ (fun _ _ h=>h.elim)
 rintro _ _ ⟨nb,rfl,hnb,rfl⟩
 refine Z48 ?_
 refine qa rfl (fun hc=>?_) (fun hc=>?_)
 ·subst hc
  have hb:l=[]:=by
   cases l with
   | nil=>rfl
   | cons x b=>simp at hnb
  subst hb
  refine Z4a ?_
  exact q2z (q4r hB (q2o rfl .nil) rfl rfl)
 ·refine Z2 ?_
  refine Zr9 ?_
  refine Z44 ?_
  refine ao2 Y1k (q5i (sz:=1) (bytes:=1) rfl (Src.pl rfl (qo l)) rfl (by decide) Y1x Y1x (q17 0 l)) ?_
  exact Z4e
theorem qeb (a b:List UInt8) (H:qf):AC Tryz.prog 47 [.pl (a.map qz),.pl (b.map qz)] H (Ret (.bool (decide (a=b))) H):=by
 refine AC.body (N:=10) [.tmp 4] Tryz.func47 rfl rfl rfl (Nat.le_of_ble_eq_true rfl) fun B hB=>?_
 refine Z1o ?_
 refine Z45 ?_
 refine Zra ?_
 refine Z44 ?_
 refine Zra ?_
 refine ao1 (by decide) (qzr rfl rfl) ?_
 exact Z1q
theorem qyl (n:Nat) (hn:n<65536) (H:qf):AC Tryz.prog 90 [.int .i64 (n:Int)] H (Ret (.sl (Lid H.length 0) 0 0 2 2) (H++[⟨0,1,(two n).map qz⟩])):=by
 rw [qdm hn]
 refine AC.body (N:=9) [.tmp 2] Tryz.func90 rfl rfl rfl (Nat.le_of_ble_eq_true rfl) fun B hB=>?_
 refine Z43 ?_
 refine Z11 ?_
 refine Zrb ?_
 refine Zrc ?_
 refine Z8 ?_
 refine Zrd ?_
 refine ao2 Y1k (q7t (rows:=[[.int .u8 ((n / 256:Nat):Int)],[.int .u8 ((n % 256:Nat):Int)]]) rfl (by decide) (by decide) (by decide) rfl rfl (by simp) rfl) ?_
 refine Z8s ?_
 refine Zbb ?_
 refine Z1 ?_
 exact qbh (G:=[]) hB (q2o rfl .nil) rfl rfl Y1l (by intro o ho r hr;simp only [List.mem_singleton] at ho;subst ho;rw [← qdm hn] at hr;exact q17 _ _ r hr)
theorem quy (n:Nat) (hn:n<65536) (H:qf):AC Tryz.prog 90 [.int .i64 (n:Int)] H (Ret (.pl ((two n).map qz)) H):=by
 rw [qdm hn]
 refine AC.body (N:=9) [.tmp 2] Tryz.func90 rfl rfl rfl (Nat.le_of_ble_eq_true rfl) fun B hB=>?_
 refine Z43 ?_
 refine Z11 ?_
 refine Zrb ?_
 refine Zrc ?_
 refine Z8 ?_
 refine Zrd ?_
 refine ao2 Y1k (qpb (sz:=1) [[.int .u8 ((n / 256:Nat):Int)],[.int .u8 ((n % 256:Nat):Int)]] rfl (by decide) (by decide) (by decide) rfl rfl (by simp) rfl (by rw [← qdm hn];exact q17 0 _)) ?_
 exact Z4e
theorem qvk {b:List UInt8} {k:Nat} {c:UInt8} (h:b[k]?=some c):qip (b.take (k+1))=chkS (qip (b.take k)) c:=by
 rw [ql h,qip,List.foldl_append];rfl
theorem qn4 (b:List UInt8):(qip b).1<251∧(qip b).2<251:=by
 have h:∀ (b:List UInt8) (q:Nat×Nat),q.1<251→q.2<251→(b.foldl chkS q).1<251∧(b.foldl chkS q).2<251:=by
  intro b
  induction b with
  | nil=>exact fun q h1 h2=>⟨h1,h2⟩
  | cons c b ih=>exact fun q h1 h2=>ih _ (Nat.mod_lt _ (by decide)) (Nat.mod_lt _ (by decide))
 exact h b (1,0) (by decide) (by decide)
set_option maxHeartbeats 0 in
theorem qks (b:List UInt8) (hl:b.length≤9223372036854775807) (H:qf):AC Tryz.prog 91 [.pl (b.map qz)] H (Ret (.int .i64 (chk b:Int)) H):=by
 refine AC.body (N:=27) [.tmp 2] Tryz.func91 rfl rfl rfl (Nat.le_of_ble_eq_true rfl) fun B hB=>?_
 refine Z5 ?_
 refine Z2 ?_
 refine Z15 ?_
 refine Z76 ?_
 refine qm (G:=Nat) (fun k=>k≤b.length) (fun k=>[(0,.pl (b.map qz)),(3,.int .i64 ((qip (b.take k)).1:Int)),(4,.int .i64 ((qip (b.take k)).2:Int)),(7,.pl (b.map qz)),(8,.int .i64 (b.length:Int)),(9,.int .i64 (k:Int))]) (fun _=>H++[]) (fun k=>b.length-k) 0 (Nat.zero_le _) Y8 (Fit.refl _ _) ?_
 intro k hk
 refine Z4r ?_
 refine qa rfl (fun hc=>?_) (fun hc=>?_)
 ·have hlt:k<b.length:=by simpa using hc
  obtain ⟨c,hx,hxl⟩:=qr hlt
  have hr:=qk qz hx
  have h1:=qn4 (b.take k)
  have h2:=qvk hx
  have h3:(qip (b.take (k+1))).1=((qip (b.take k)).1+c.toNat) % 251:=by rw [h2];rfl
  have h4:(qip (b.take (k+1))).2=((qip (b.take k)).2+((qip (b.take k)).1+c.toNat) % 251) % 251:=by rw [h2];rfl
  have hcc:=c.toNat_lt
  generalize hp:(qip (b.take k)).1=p at *
  generalize hq:(qip (b.take k)).2=q at *
  refine Zfo ?_
  refine Z2k ?_
  refine ao1 (by decide) (qn (r:=(c.toNat:Int)) rfl (qc (by omega) (by omega))) ?_
  refine ao1 (by decide) (q1x (r:=((p+c.toNat:Nat):Int)) rfl rfl (qc (by omega) (by omega))) ?_
  refine ao1 (by decide) (qr7 (r:=(((p+c.toNat) % 251:Nat):Int)) rfl rfl (by decide) (qho _ 251)) ?_
  refine Z4 ?_
  generalize hp2:(p+c.toNat) % 251=p2 at *
  refine Z2k ?_
  refine ao1 (by decide) (q1x (r:=((q+p2:Nat):Int)) rfl rfl (qc (by omega) (by omega))) ?_
  refine ao1 (by decide) (qr7 (r:=(((q+p2) % 251:Nat):Int)) rfl rfl (by decide) (qho _ 251)) ?_
  refine Z4 ?_
  refine Zp1 ?_
  exact ⟨k+1,by omega,by omega,by simp only [h3,h4];exact Y8,.refl _ _⟩
 ·have:k=b.length:=by simp at hc;omega
  subst this
  rw [List.take_length]
  have h1:=qn4 b
  refine Z11 ?_
  refine ao1 (by decide) (qsl (r:=(((qip b).2 * 256:Nat):Int)) rfl rfl (by decide) (by rw [show min (8:Int).toNat IntKind.i64.bits=8 from rfl];exact qc (by omega) (by omega))) ?_
  refine Z8 ?_
  refine ao1 (by decide) (o_or (r:=(((qip b).2 * 256+(qip b).1:Nat):Int)) rfl rfl (qwa _ _ (by omega) (by omega))) ?_
  exact Zc
theorem q103 (b:List UInt8):chk b<65536:=by
 have:=qn4 b
 unfold chk
 omega
set_option maxHeartbeats 0 in
theorem q11z (b e:List UInt8) (hl:b.length≤10000000000000) (he:e.length≤9223372036854775807) (H:qf):AC Tryz.prog 51 [.pl (b.map qz),.pl (e.map qz)] H (Ret (.tup [.pl ((q78 b e).1.map qz),.int .i64 (q78 b e).2]) H):=by
 refine AC.body (N:=31) [.tmp 4,.tmp 5] Tryz.func51 rfl rfl rfl (Nat.le_of_ble_eq_true rfl) fun B hB=>?_
 refine Zhx ?_
 refine Z45 ?_
 refine ao2 Y1k (V2.callo (qjv b _ (by omega)) rfl rfl) ?_
 refine Zbq ?_
 refine Z1 ?_
 refine qq 17 (.bool (!okE e)) ?_ ?_
 ·refine Z6t ?_
  refine Zv ?_
  refine qb rfl rfl (fun hg3=>?_) (fun hg3=>?_)
  ·refine Z3n ?_
   exact Zre
  ·refine Z9r ?_
   refine Z3f ?_
   refine Zr ?_
   exact Zre
 refine Z1 ?_
 refine qa rfl (fun hc=>?_) (fun hc=>?_)
 ·have hk:okE e=false:=by simpa using hc
  rw [show q78 b e=(b,1) by rw [q78,hk];rfl]
  refine Zhz ?_
  try dsimp only
  refine Z1d ?_
  refine qp (ys:=b.map qz) 4 rfl rfl rfl rfl Ym (by simp) (q17 0 _) ?_
  exact Zi1
 have hk:okE e=true:=by simpa using hc
 clear hc
 have hke:1≤e.length∧e.length≤4096:=by simpa [okE] using hk
 rw [show q78 b e=(b++q4y e,0) by rw [q78,hk];rfl]
 refine Z6r ?_
 refine ao2 Y1k (V2.callo (qyl e.length (by omega) _) (by show [AV.int .i64 ((List.map qz e).length:Int)]=_;rw [List.length_map]) rfl) ?_
 refine Z44 ?_
 refine ao2 Y1k (q3t (bs:=two e.length) (cs:=e) (en:=qz) rfl rfl rfl (Src.pl rfl (qo _)) rfl (by simp [two];omega) (by simp [two];omega)) ?_
 refine Z8s ?_
 try dsimp only [List.length_cons,List.length_nil,Nat.reduceAdd,put,List.cons_append,List.nil_append,List.set_cons_succ,List.set_cons_zero]
 refine Z1 ?_
 refine qp (ys:=(two e.length++e).map qz) 7 rfl rfl rfl rfl Ym (by simp) (q17 0 _) ?_
 generalize hm:two e.length++e=m
 have hml:m.length=e.length+2:=by rw [← hm,List.length_append,q11r];omega
 refine Zbi ?_
 refine Z44 ?_
 refine ao2 Y1k (q3t (bs:=b) (cs:=m) (en:=qz) rfl rfl rfl (Src.pl rfl (qo _)) rfl (by omega) (by omega)) ?_
 refine Z44 ?_
 refine ao2 Y1k (V2.call (qks m (by omega) _) rfl) ?_
 refine ao2 Y1k (V2.call (quy (chk m) (q103 m) _) rfl) ?_
 refine ao2 Y1k (q3t (bs:=b++m) (cs:=two (chk m)) (en:=qz) rfl rfl rfl (Src.pl rfl (qo _)) rfl (by simp [two];omega) (by simp [two];omega)) ?_
 refine Z8r ?_
 refine Z4 ?_
 refine Znz ?_
 rw [show b++q4y e=b++m++two (chk m) by rw [q4y,hm,List.append_assoc]]
 refine Z1d ?_
 refine qp (ys:=(b++m++two (chk m)).map qz) 4 rfl rfl rfl rfl Ym (by simp) (q17 0 _) ?_
 exact Zi1
theorem qzq {P:Program} {N:Nat} {env:Env} {H:qf} {ty t e:TypeId} {x:Operand} {lo hi:Option Operand} {xs ys:List (List AV)} {l h sz:Nat} {agg:Bool} [hu:SlI P t e] [TyI P e agg sz] (hx:aev env x = .pl xs) (hl:Bd env lo 0 l) (hh:Bd env hi xs.length h) (h1:l≤h) (h2:h≤xs.length) (hsz:∀ r∈xs,r.length=sz) (hy:(xs.drop l).take (h-l)=ys) :
  V1 P N (.slice t x lo hi Option.none) ty env H (.pl ys):=by
 have:=qb1 (P:=P) (N:=N) (env:=env) (H:=H) (ty:=ty) (t:=t) (e:=e) (agg:=agg) hx hl hh h1 h2 hsz
 rwa [hy] at this
abbrev eB (e:List UInt8):List AV:=[.pl (e.map qz)]
theorem q12o (l:List (List UInt8)):∀ r∈l.map eB,r.length=1:=q5a (e:=eB) (n:=1) (fun _=>rfl) l
theorem qzo (n:Nat) (l:List (List UInt8)):∀ r∈l.map eB,AV.bels n r=true:=q5z (e:=eB) (fun _=>rfl) l
theorem q136 (c d:UInt8) (r:List UInt8):hd (c :: d :: r)=c.toNat * 256+d.toNat:=rfl
set_option maxHeartbeats 0 in
theorem qyd (b:List UInt8) (hl:b.length≤9000000000000000000) (H:qf):AC Tryz.prog 56 [.pl (b.map qz)] H (Ret (.tup [.pl ((q36 b).1.map qz),.int .i64 ((q36 b).2:Int)]) H):=by
 refine AC.body (N:=54) [.tmp 2,.tmp 3] Tryz.func56 rfl rfl rfl (Nat.le_of_ble_eq_true rfl) fun B hB=>?_
 refine Zhx ?_
 refine Z6r ?_
 refine Z1f ?_
 refine qa rfl (fun hc=>?_) (fun hc=>?_)
 ·have h2:b.length<2:=by simp at hc;omega
  rw [show q36 b=([],0) from qf1 (by omega)]
  refine Zhx ?_
  try dsimp only
  exact Zom
 have h2:2≤b.length:=by simp at hc;omega
 clear hc
 obtain ⟨c,d,r,rfl⟩:∃ c d r,b=c :: d :: r:=by
  match b,h2 with
  | c :: d :: r,_=>exact ⟨c,d,r,rfl⟩
 have hc0:((c :: d :: r).map qz)[(0:Int).toNat]?=some (qz c):=rfl
 have hc1:((c :: d :: r).map qz)[(1:Int).toNat]?=some (qz d):=rfl
 have hcl:=c.toNat_lt
 have hdl:=d.toNat_lt
 have hhd:=q136 c d r
 refine Z1 ?_
 refine Z1g ?_
 refine Z6v ?_
 refine Zqh ?_
 refine Zqi ?_
 refine Zqj ?_
 refine aq0 4 rfl Y1q (by decide) (fun _=>qsl (r:=((c.toNat * 256:Nat):Int)) rfl rfl (by decide) (by rw [show min (8:Int).toNat IntKind.i64.bits=8 from rfl];exact qc (by omega) (by omega))) ?_
 refine Zqk ?_
 refine aqp 6 rfl Y1q (by decide) (fun G=>q4n rfl rfl (by decide) hc1 rfl) ?_
 refine aqp 7 rfl Y1q (by decide) (fun G=>q29 (v:=.int _ _) rfl hc1 rfl) ?_
 refine aq0 8 rfl Y1q (by decide) (fun _=>qn (r:=(d.toNat:Int)) rfl (qc (by omega) (by omega))) ?_
 refine aq0 9 rfl Y1q (by decide) (fun _=>o_or (r:=((c.toNat * 256+d.toNat:Nat):Int)) rfl rfl (qwa _ _ (by omega) (by omega))) ?_
 refine aq0 10 rfl Y1q (by decide) (fun _=>q11 (v:=.int _ _) rfl) ?_
 refine Z1k ?_
 rw [← hhd]
 have hn:hd (c :: d :: r)<65536:=by omega
 clear hhd hcl hdl hc0 hc1
 generalize hb:c :: d :: r=b at *
 have hN:=show isN b=(decide (2≤b.length)&&decide (1≤hd b)&&decide (hd b≤4096)&&decide (2+hd b+2≤b.length)&&decide (two (chk (b.take (2+hd b)))=(b.drop (2+hd b)).take 2)) from rfl
 have hNx:=show q36 b=if isN b then ((b.take (2+hd b)).drop 2,2+hd b+2) else ([],0) from rfl
 generalize hd b=n at *
 refine Z11 ?_
 refine ao1 (by decide) (q1x (r:=((2+n:Nat):Int)) rfl rfl (by rw [show (2:Int)+(n:Int)=((2+n:Nat):Int) by omega];exact qc (by omega) (by omega))) ?_
 refine Za ?_
 refine q20 47 (.bool (!isN b)) ?_ ?_
 ·refine Z1g ?_
  refine Z7c ?_
  refine aq0 1 rfl Y1q (by decide) (fun _=>qwh rfl rfl) ?_
  refine Z7k ?_
  refine q13 (g:=23) rfl (fun hg2=>?_) (fun hg2=>?_)
  ·refine q15 (g:=23) 3 rfl Y1q (by decide) rfl rfl rfl ?_
   refine q15 (g:=23) 4 rfl Y1q (by decide) rfl rfl rfl ?_
   refine Z7m ?_
   refine Zrf ?_
   refine Zrg ?_
   refine Zrh ?_
   refine Zri ?_
   refine Zrj ?_
   refine Zrk ?_
   refine Zkr ?_
   refine Zks ?_
   refine Zrl ?_
   refine Zrm ?_
   refine Zrn ?_
   refine Zro ?_
   refine Zrp ?_
   refine Zrq ?_
   refine Zrr ?_
   refine Zrs ?_
   refine Zrt ?_
   refine Zru ?_
   refine Zrv ?_
   refine Zrw ?_
   refine Zaq ?_
   exact Zrx
  ·refine q2l (g:=23) 3 rfl Y1q (by decide) rfl rfl (fun _=>qi (v:=.int _ _) rfl) ?_
   refine q2l (g:=23) 4 rfl Y1q (by decide) rfl rfl (fun _=>qwm rfl rfl) ?_
   refine Z7s ?_
   refine Zrf ?_
   refine q13 (g:=27) rfl (fun hg6=>?_) (fun hg6=>?_)
   ·refine Zrg ?_
    refine Zrh ?_
    refine Zri ?_
    refine Zrj ?_
    refine Zrk ?_
    refine Zkr ?_
    refine Zks ?_
    refine Zrl ?_
    refine Zrm ?_
    refine Zrn ?_
    refine Zro ?_
    refine Zrp ?_
    refine Zrq ?_
    refine Zrr ?_
    refine Zrs ?_
    refine Zrt ?_
    refine Zru ?_
    refine Zrv ?_
    refine Zrw ?_
    refine Zaq ?_
    exact Zrx
   ·refine q2l (g:=27) 7 rfl Y1q (by decide) rfl rfl (fun _=>qi (v:=.pl _) rfl) ?_
    refine q31 (g:=27) 8 rfl Y1q (by decide) rfl rfl (fun G=>qhc rfl) ?_
    refine q2l (g:=27) 9 rfl Y1q (by decide) rfl rfl (fun _=>qi (v:=.int _ _) rfl) ?_
    refine q2l (g:=27) 10 rfl Y1q (by decide) rfl rfl (fun _=>q1x (r:=((2+n+2:Nat):Int)) rfl rfl (qc (by omega) (by omega))) ?_
    refine q2l (g:=27) 11 rfl Y1q (by decide) rfl rfl (fun _=>qwh rfl rfl) ?_
    refine Zlb ?_
    refine Zks ?_
    refine q13 (g:=34) rfl (fun hg13=>?_) (fun hg13=>?_)
    ·refine Zrl ?_
     refine Zrm ?_
     refine Zrn ?_
     refine Zro ?_
     refine Zrp ?_
     refine Zrq ?_
     refine Zrr ?_
     refine Zrs ?_
     refine Zrt ?_
     refine Zru ?_
     refine Zrv ?_
     refine Zrw ?_
     refine Zaq ?_
     exact Zrx
    ·refine q2l (g:=34) 14 rfl Y1q (by decide) rfl rfl (fun _=>qi (v:=.pl _) rfl) ?_
     refine q2l (g:=34) 15 rfl Y1q (by decide) rfl rfl (fun _=>qi (v:=.int _ _) rfl) ?_
     refine q2l (g:=34) 16 rfl Y1q (by decide) rfl rfl (fun _=>qbk (ys:=(b.take (2+n)).map qz) rfl (Bd.some rfl rfl) (by simp at hg13 ⊢;omega) (qo _) (by rw [List.map_take])) ?_
     refine qbg (g:=34) 17 rfl Y1q (by decide) rfl rfl (fun _=>V2.call (qks (b.take (2+n)) Y1x _) rfl) ?_
     refine qbg (g:=34) 18 rfl Y1q (by decide) rfl rfl (fun _=>V2.call (quy (chk (b.take (2+n))) (q103 _) _) rfl) ?_
     refine q2l (g:=34) 19 rfl Y1q (by decide) rfl rfl (fun _=>qi (v:=.pl _) rfl) ?_
     refine q2l (g:=34) 20 rfl Y1q (by decide) rfl rfl (fun _=>qi (v:=.int _ _) rfl) ?_
     refine q2l (g:=34) 21 rfl Y1q (by decide) rfl rfl (fun _=>qi (v:=.int _ _) rfl) ?_
     refine q2l (g:=34) 22 rfl Y1q (by decide) rfl rfl (fun _=>q1x (r:=((2+n+2:Nat):Int)) rfl rfl (qc (by omega) (by omega))) ?_
     refine q2l (g:=34) 23 rfl Y1q (by decide) rfl rfl (fun _=>qzq (l:=2+n) (h:=2+n+2) (ys:=((b.drop (2+n)).take 2).map qz) rfl (Bd.some rfl rfl) (Bd.some rfl rfl) (by omega) (by simp at hg13 ⊢;omega) (qo _) (by rw [List.map_take,List.map_drop,Nat.add_sub_cancel_left])) ?_
     refine qbg (g:=34) 24 rfl Y1q (by decide) rfl rfl (fun _=>V2.call (qeb _ _ _) rfl) ?_
     refine q2l (g:=34) 25 rfl Y1q (by decide) rfl rfl (fun _=>qc1 rfl) ?_
     refine Zb7 ?_
     exact Zrx
 refine Z1 ?_
 refine qa rfl (fun hc=>?_) (fun hc=>?_)
 ·have hk:isN b=false:=by simpa using hc
  rw [hNx,hk]
  refine Z42 ?_
  refine Z8l ?_
  exact Zof
 have hk:isN b=true:=by simpa using hc
 rw [hNx,if_pos hk]
 rw [hk] at hN
 simp only [eq_comm (a:=true),Bool.and_eq_true,decide_eq_true_eq] at hN
 obtain ⟨⟨⟨⟨_,n1⟩,n2⟩,n3⟩,_⟩:=hN
 refine Z90 ?_
 refine ao1 (by decide) (qzq (l:=2) (h:=2+n) (ys:=((b.take (2+n)).drop 2).map qz) rfl (Bd.some rfl rfl) (Bd.some rfl rfl) (by omega) Y1x (qo _) (by rw [List.map_drop,List.map_take,List.drop_take])) ?_
 refine ao2 Y1k (V2.call (qe0 ((b.take (2+n)).drop 2) _ Y1x) rfl) ?_
 refine Z8 ?_
 refine ao1 (by decide) (q1x (r:=((2+n+2:Nat):Int)) rfl rfl (qc (by omega) (by omega))) ?_
 refine Ziq ?_
 try dsimp only [put]
 exact Ze6
structure GRd where
 k:Nat
 out:List (List UInt8)
set_option maxHeartbeats 0 in
theorem qyi (b:List UInt8) (hl:b.length≤1000000000000) (H:qf):AC Tryz.prog 22 [.pl (b.map qz)] H (Ret (.tup [.pl ((q6e b).1.map eB),.int .i64 ((q6e b).2:Int)]) H):=by
 refine AC.body (N:=26) [.tmp 2,.tmp 3] Tryz.func22 rfl rfl rfl (Nat.le_of_ble_eq_true rfl) fun B hB=>?_
 refine Zhx ?_
 refine Z49 ?_
 refine Zo4 ?_
 refine q18 ?_
 refine Z4 ?_
 refine Zc1 ?_
 refine Z1d ?_
 refine qm (G:=GRd) (fun g=>g.k≤b.length∧q6e b=(g.out++(q6e (b.drop g.k)).1,g.k+(q6e (b.drop g.k)).2)∧g.out.length≤g.k) (fun g=>[(0,.pl (b.map qz)),(4,.sl (Lid H.length 0) g.out.length 0 g.out.length g.out.length),(5,.int .i64 (g.k:Int))]) (fun g=>H++[⟨g.out.length,1,g.out.map eB⟩]) (fun g=>b.length-g.k) ⟨0,[]⟩ ⟨Nat.zero_le _,by simp,Nat.le_refl _⟩ Y8 (.inl rfl) ?_
 rintro ⟨k,out⟩ ⟨i1,i2,i3⟩
 simp only at i1 i2 i3 ⊢
 have cn:=fun H=>qyd (b.drop k) Y1x H
 have hq:=qi9 (b.drop k)
 have hq2:=qdd (b:=b.drop k)
 generalize q36 (b.drop k)=q at *
 obtain ⟨e,m⟩:=q
 simp only at cn hq hq2
 refine Z90 ?_
 refine ao1 (by decide) (qbu (ys:=(b.drop k).map qz) rfl (Bd.some rfl rfl) Y1x (qo _) (by rw [List.map_drop])) ?_
 refine Zry ?_
 refine Zn6 ?_
 refine Z17 ?_
 refine qa rfl (fun hc=>?_) (fun hc=>?_)
 ·have hm:m=0:=by simpa using hc
  rw [if_pos hm] at hq
  rw [hq] at i2
  rw [i2]
  simp only [List.append_nil,Nat.add_zero]
  refine Z8p ?_
  refine Z8r ?_
  refine Z8l ?_
  refine qp (ys:=out.map eB) 2 rfl rfl rfl rfl Ym (by simp) (qzo 0 _) ?_
  exact Zi1
 have hm:m≠0:=by simpa using hc
 rw [if_neg hm] at hq
 have hml:=hq2 hm
 rw [List.length_drop] at hml
 rw [List.drop_drop] at hq
 refine Z8o ?_
 refine Z44 ?_
 refine ao2 Y1k (q5e (sz:=1) (v:=.pl (e.map qz)) (cs:=eB e) rfl (by decide) (by decide) rfl rfl rfl rfl rfl) ?_
 refine ao2 Y1k (q47 rfl rfl rfl rfl rfl (Src.pl (ys:=[eB e]) rfl (q12o [e])) rfl (by simp) (by simp) Y1x Y1x) ?_
 refine Z8s ?_
 refine Zmz ?_
 refine Z2k ?_
 refine ao1 (by decide) (q1x (r:=((k+m:Nat):Int)) rfl rfl (qc (by omega) (by omega))) ?_
 refine Za ?_
 refine ⟨⟨k+m,out++[e]⟩,by simp only;omega,⟨by simp only;omega,?_,by simp only [List.length_append,List.length_cons,List.length_nil];omega⟩,by simp only [List.length_append,List.length_cons,List.length_nil];exact Y8,Fit.loc hB (G:=[]) ?_ Y1 (fun a ha=>?_)⟩
 ·simp only
  rw [i2,hq]
  simp [Nat.add_assoc]
 ·rw [List.take_of_length_le (by simp)]
  simp
 ·simp only [List.mem_singleton] at ha
  subst ha
  exact qzo _ (out++[e])
theorem qpf:∀ (i n:Nat),big (i+1) n=UInt8.ofNat (n / 256 ^ i % 256) :: big i n
 | 0,n=>by
  rw [big,big,big,Nat.pow_zero,Nat.div_one,List.nil_append]
  congr 1
  rw [← UInt8.toNat_inj];simp
 | i+1,n=>by
  rw [big,qpf i (n / 256),big,List.cons_append,Nat.div_div_eq_div_mul,← Nat.pow_succ']
set_option maxHeartbeats 0 in
theorem qth (n k:Nat) (hn:n≤9223372036854775807) (hk:k≤8) (H:qf):AC Tryz.prog 34 [.int .i64 (n:Int),.int .i64 (k:Int)] H (Ret (.pl ((big k n).map qz)) H):=by
 refine AC.body (N:=21) [.tmp 4] Tryz.func34 rfl rfl rfl (Nat.le_of_ble_eq_true rfl) fun B hB=>?_
 refine Zhr ?_
 refine q23 5 rfl ?_
 refine q18 ?_
 refine Z8l ?_
 refine qm (G:=Nat) (fun i=>i≤k) (fun i=>[(0,.int .i64 ((n / 256 ^ i:Nat):Int)),(1,.int .i64 (k:Int)),(5,.pl ((big i n).map qz)),(6,.int .i64 (i:Int))]) (fun _=>H++[]) (fun i=>k-i) 0 (Nat.zero_le _) (by simp only [Nat.pow_zero,Nat.div_one];exact Y8) (Fit.refl _ _) ?_
 intro i hi
 refine Z2o ?_
 refine qa rfl (fun hc=>?_) (fun hc=>?_)
 ·have hlt:i<k:=by simp at hc;omega
  have h1:=qpf i n
  have h2:n / 256 ^ (i+1)=n / 256 ^ i / 256:=by rw [Nat.pow_succ,Nat.div_div_eq_div_mul]
  have h3:n / 256 ^ i≤n:=Nat.div_le_self _ _
  have h4:=q27 i n
  generalize n / 256 ^ i=v at *
  generalize big i n=out at *
  refine Z11 ?_
  refine ao1 (by decide) (qr7 (r:=((v % 256:Nat):Int)) rfl rfl (by decide) (qho _ 256)) ?_
  refine ao1 (by decide) (qn (r:=((v % 256:Nat):Int)) rfl Y18) ?_
  refine ao2 Y1k (q2c (sz:=1) (v:=.int .u8 ((v % 256:Nat):Int)) rfl (by decide) (by decide) rfl rfl rfl rfl rfl) ?_
  refine Z44 ?_
  refine ao2 Y1k (qio (o:=⟨0,1,[[.int .u8 ((v % 256:Nat):Int)]]⟩) rfl rfl rfl rfl rfl (Src.pl rfl (qo _)) rfl (by simp) Y1x Y1x) ?_
  refine Z8s ?_
  refine Zoj ?_
  refine Z1 ?_
  refine qp (ys:=(UInt8.ofNat (v % 256) :: out).map qz) 5 rfl rfl rfl rfl (by rw [List.drop_zero,List.map_cons,q4p (by omega),List.take_of_length_le (by simp;try omega)];try rfl) (by simp;try omega) (q17 0 _) ?_
  refine Z6n ?_
  refine ao1 (by decide) (qz7 (r:=((v / 256:Nat):Int)) rfl rfl (by decide) (by rw [Int.tdiv_eq_ediv_of_nonneg (by omega),show (v:Int) / 256=((v / 256:Nat):Int) by omega];exact qc (by omega) (by omega))) ?_
  refine Z4 ?_
  try dsimp only [Nat.reduceAdd,List.set_cons_zero]
  refine Z11 ?_
  refine Zm4 ?_
  refine Za ?_
  exact ⟨i+1,by omega,by omega,by simp only [h1,h2];exact Y8,Fit.loc hB (G:=[⟨2,1,[]⟩]) rfl Y1 (fun a ha=>by cases ha)⟩
 ·have:i=k:=by simp at hc;omega
  subst this
  refine Z45 ?_
  refine Z4c ?_
  refine Z9 ?_
  exact Zb
set_option maxHeartbeats 0 in
theorem qvf (o:OOp) (ht:o.spec.tag.size≤9223372036854775807) (hn:o.needs.length≤1000000) (hs:o.set.length≤1000000) (H:qf):AC Tryz.prog 32 [.agg (eOp o)] H (Ret (.bool (q3q o)) H):=by
 refine AC.body (N:=81) [.tmp 2] Tryz.func32 rfl rfl rfl (Nat.le_of_ble_eq_true rfl) fun B hB=>?_
 refine Z4g ?_
 refine Z2x ?_
 refine qq 3 (.bool (q44 o.id&&q44 o.what)) ?_ ?_
 ·refine Z30 ?_
  refine Z21 ?_
  refine qb rfl rfl (fun hg3=>?_) (fun hg3=>?_)
  ·refine Z32 ?_
   refine Zx ?_
   refine Z34 ?_
   refine qb rfl rfl (fun hg8=>?_) (fun hg8=>?_)
   ·refine Z3s ?_
    refine Z34 ?_
    refine qb rfl rfl (fun hg13=>?_) (fun hg13=>?_)
    ·refine Z32 ?_
     refine Zy ?_
     exact Zpl
    ·refine Z1z ?_
     exact Zpm
   ·refine Z38 ?_
    exact Zpm
  ·refine Z37 ?_
   refine Z38 ?_
   exact Zpm
 refine Z1 ?_
 refine qq 4 (.bool (tm o.at_)) ?_ ?_
 ·refine Z30 ?_
  refine Z21 ?_
  refine qb rfl rfl (fun hg3=>?_) (fun hg3=>?_)
  ·refine Z32 ?_
   refine Zy ?_
   exact Zpo
  ·refine Z1z ?_
   exact Zpp
 refine Z5b ?_
 refine qa rfl (fun hc=>?_) (fun hc=>?_)
 ·have hk:o.kind=1:=by simpa using hc
  clear hc
  rw [show q3q o=(q1c o.spec&&decide (o.needs.length≤16)&&o.needs.all q44) by rw [q3q,if_pos hk]]
  refine Z1e ?_
  refine qm (G:=Nat) (fun i=>i≤o.needs.length∧(o.needs.take i).all q44=true) (fun i=>[(1,.pt (Lid H.length 0) 0 0 0),(5,.int .i64 (i:Int))]) (fun _=>H++[⟨0,13,[eOp o]⟩]) (fun i=>o.needs.length-i) 0 ⟨Nat.zero_le _,rfl⟩ Y8 (.inl rfl) ?_
  rintro i ⟨hi,hall⟩
  refine Z11 ?_
  refine Z4i ?_
  refine Z4k ?_
  refine Zu ?_
  refine Z4m ?_
  refine qa rfl (fun hc=>?_) (fun hc=>?_)
  ·have hlt:i<o.needs.length:=by simpa using hc
   clear hc
   obtain ⟨x,hx,hxl⟩:=qr hlt
   have hr:=qk eI hx
   refine Z1 ?_
   refine qq 56 (.bool (!q44 x)) ?_ ?_
   ·refine Z4i ?_
    refine Z8 ?_
    refine Z4u ?_
    refine Zv ?_
    refine qb rfl rfl (fun hg6=>?_) (fun hg6=>?_)
    ·refine Z4w ?_
     refine Z3b ?_
     refine Zm ?_
     exact qe (Out.mk (by (refine congrArg AV.bool ?_;(simp only [q44];clear hB hall hr hx hxl;(simp_all;done)))) Yb)
    ·refine Zc7 ?_
     refine Zj ?_
     refine Ze4 ?_
     refine Zfu ?_
     refine Z3f ?_
     refine Zr ?_
     exact qe (Out.mk (by (refine congrArg AV.bool ?_;(simp only [q44];clear hB hall hr hx hxl;((refine Bool.eq_iff_iff.mpr ?_;simp only [Bool.and_eq_true,Bool.or_eq_true,Bool.not_eq_true',decide_eq_true_eq,decide_eq_false_iff_not,beq_iff_eq,bne_iff_ne,beq_eq_false_iff_ne,Bool.false_eq_true,Bool.true_eq_false,Bool.and_eq_false_iff,Bool.or_eq_false_iff,List.length_map,false_iff,true_iff,iff_true,iff_false] at *;omega))))) Yb)
   refine Z1 ?_
   refine qa rfl (fun hc=>?_) (fun hc=>?_)
   ·have hno:q44 x=false:=by simpa using hc
    rw [show o.needs.all q44=false by rw [List.all_eq_false];exact ⟨x,hxl,by rw [hno];decide⟩,Bool.and_false]
    exact Z53
   ·have hok:q44 x=true:=by simpa using hc
    refine Z11 ?_
    refine Zm4 ?_
    refine Za ?_
    exact ⟨i+1,by omega,⟨by omega,by rw [ql hx,List.all_append,hall];simp [hok]⟩,Y8,.inl rfl⟩
  ·have:i=o.needs.length:=by simp at hc;omega
   subst this
   rw [List.take_length] at hall
   rw [hall,Bool.and_true]
   refine Z1 ?_
   refine qq 2 (.bool (q1c o.spec&&decide (o.needs.length≤16))) ?_ ?_
   ·refine Zn3 ?_
    refine Zp7 ?_
    refine Zh ?_
    refine qb rfl rfl (fun hg3=>?_) (fun hg3=>?_)
    ·refine Zc7 ?_
     refine Z9q ?_
     refine Zy ?_
     exact Zpq
    ·refine Zq ?_
     refine Zt ?_
     exact Zhi
   exact Z20
 have hk1:¬ o.kind=1:=by simpa using hc
 refine Z5a ?_
 refine q2x ([(1,.pt (Lid H.length 0) 0 0 0),(3,.bool (q44 o.id&&q44 o.what)),(4,.bool (tm o.at_)),(33,.int .i64 o.kind),(66,.bool (decide (o.kind=2∨o.kind=5)))]) (H++[⟨0,13,[eOp o]⟩]) ?_ ?_
 ·refine Z1 ?_
  refine qa rfl (fun hc=>?_) (fun hc=>?_)
  ·have hk:o.kind=2:=by simpa using hc
   rw [hc]
   refine Z1 ?_
   refine ⟨?_,.inl rfl⟩
   rw [show decide (o.kind=2∨o.kind=5)=true from decide_eq_true (.inl hk)]
   exact Y8
  ·have hk:¬ o.kind=2:=by simpa using hc
   refine Z9n ?_
   refine ⟨?_,.inl rfl⟩
   rw [show decide (o.kind=2∨o.kind=5)=(o.kind == 5) by rw [Bool.eq_iff_iff];simp [hk]]
   exact Y8
 refine Z1 ?_
 refine qa rfl (fun hc=>?_) (fun hc=>?_)
 ·have hk:o.kind=2∨o.kind=5:=of_decide_eq_true hc
  rw [show q3q o=(q44 o.id&&q44 o.what) by rw [q3q,if_neg hk1,if_pos hk]]
  refine Z2n ?_
  exact Z1q
 have hk2:¬ (o.kind=2∨o.kind=5):=of_decide_eq_false hc
 refine Z5a ?_
 refine qa rfl (fun hc=>?_) (fun hc=>?_)
 ·have hk:o.kind=3:=by simpa using hc
  rw [show q3q o=tm o.at_ by rw [q3q,if_neg hk1,if_neg hk2,if_pos hk]]
  refine Z2n ?_
  exact Z1q
 have hk3:¬ o.kind=3:=by simpa using hc
 refine Z5a ?_
 refine qa rfl (fun hc=>?_) (fun hc=>?_)
 ·have hk:o.kind=4:=by simpa using hc
  rw [show q3q o=(tm o.at_&&sok o.set) by rw [q3q,if_neg hk1,if_neg hk2,if_neg hk3,if_pos hk]]
  refine Z1 ?_
  refine qq 2 (.bool (tm o.at_&&sok o.set)) ?_ ?_
  ·refine Z3j ?_
   refine qb rfl rfl (fun hg1=>?_) (fun hg1=>?_)
   ·refine Zc7 ?_
    refine q6d rfl rfl (by decide) (V2.call (qf6 _ (by omega) _) rfl) ?_
    refine Zn ?_
    exact Z1w
   ·refine Z1z ?_
    exact Z1w
  exact Z20
 have hk4:¬ o.kind=4:=by simpa using hc
 rw [show q3q o=false by rw [q3q,if_neg hk1,if_neg hk2,if_neg hk3,if_neg hk4]]
 exact Z53
theorem q7c (x:Int) (k:Nat) (h0:0≤x) (h1:x≤9223372036854775807) (hk:k≤8) (H:qf):AC Tryz.prog 34 [.int .i64 x,.int .i64 (k:Int)] H (Ret (.pl ((big k x.toNat).map qz)) H):=by
 have h:=qth x.toNat k (by omega) hk H
 rwa [Int.toNat_of_nonneg h0] at h
set_option maxHeartbeats 0 in
theorem ql4 (o:OOp) (ht:o.spec.tag.size≤9223372036854775807) (hn:o.needs.length≤1000000) (hs:o.set.length≤1000000) (H:qf):AC Tryz.prog 11 [.agg (eOp o)] H (Ret (.tup [.pl ((q6f o).1.map qz),.int .i64 (q6f o).2]) H):=by
 refine AC.body (N:=84) [.tmp 2,.tmp 3] Tryz.func11 rfl rfl rfl (Nat.le_of_ble_eq_true rfl) fun B hB=>?_
 refine Z4g ?_
 refine Z41 ?_
 refine Z3t ?_
 refine Z3v ?_
 refine qu (qvf _ Y1y Y1y Y1y _) rfl (by decide) ?_
 refine Z3x ?_
 refine qa rfl (fun hc=>?_) (fun hc=>?_)
 ·have hm:q3q o=false:=by simpa using hc
  rw [show q6f o=([],1) by rw [q6f,hm];rfl]
  refine Zhx ?_
  try dsimp only
  exact Zom
 have hm:q3q o=true:=by simpa using hc
 clear hc
 rw [show q6f o=(q38 o,0) by rw [q6f,hm];rfl]
 have hkind:=qkb hm
 have hkb:qz (UInt8.ofNat o.kind.toNat)=[.int .u8 o.kind]:=by
  rw [q4p (by omega),Int.toNat_of_nonneg (by omega)]
 have hob:q38 o=UInt8.ofNat o.kind.toNat :: (if o.kind=1 then q2t o.spec++(UInt8.ofNat o.needs.length :: q3b o.needs)
  else if o.kind=2∨o.kind=5 then big 4 o.id.toNat++big 4 o.what.toNat
  else if o.kind=3 then big 8 o.at_.toNat else big 8 o.at_.toNat++q9k o.set):=rfl
 generalize UInt8.ofNat o.kind.toNat=kb at hkb hob
 refine Z58 ?_
 refine Zpr ?_
 refine Zps ?_
 refine Z8s ?_
 refine Zoy ?_
 rw [← hkb,show [qz kb]=[kb].map qz from rfl]
 refine Z5b ?_
 refine qa rfl (fun hc=>?_) (fun hc=>?_)
 ·have hk:o.kind=1:=by simpa using hc
  obtain ⟨hsr,hnl,hnr⟩:=qjy hm hk
  have hsl:=q6w hsr
  rw [if_pos hk] at hob
  rw [hob]
  clear hob hc
  refine Z2 ?_
  refine Zn3 ?_
  refine qu (qqe _ _ Y1y) rfl (by decide) ?_
  refine Zir ?_
  refine Z3z ?_
  rw [show q4a o.spec=(q2t o.spec,0) by rw [q4a,if_neg (by rw [hsr];simp)]]
  refine Z1 ?_
  refine Zp2 ?_
  try dsimp only
  refine Zbv ?_
  refine Zjk ?_
  refine Zpt ?_
  refine Zpu ?_
  refine Zpv ?_
  refine Zpw ?_
  refine Zpx ?_
  refine Zpy ?_
  refine Zpz ?_
  refine Zq0 ?_
  refine Zie ?_
  generalize hb0:[kb]++q2t o.spec++[UInt8.ofNat o.needs.length]=b0
  have hb0l:b0.length=(q2t o.spec).length+2:=by rw [← hb0];simp
  have hfin:kb :: (q2t o.spec++(UInt8.ofNat o.needs.length :: q3b o.needs))=b0++q3b o.needs:=by rw [← hb0];simp
  rw [hfin]
  refine Z5 ?_
  refine Zq1 ?_
  refine Z1d ?_
  refine qm (G:=Nat) (fun k=>k≤o.needs.length) (fun k=>[(1,.pt (Lid H.length 0) 0 0 0),(4,.sl (Lid H.length 1) (2+k) 0 (b0++q3b (o.needs.take k)).length (b0++q3b (o.needs.take k)).length),(7,.int .i64 (k:Int))]) (fun k=>H++[⟨0,13,[eOp o]⟩,⟨2+k,1,(b0++q3b (o.needs.take k)).map qz⟩]) (fun k=>o.needs.length-k) 0 (Nat.zero_le _) (by simp only [List.take_zero,q3b,List.flatMap_nil,List.append_nil];exact Y8) (.inl (by simp [q3b])) ?_
  intro k hkn
  refine Z11 ?_
  refine Z4i ?_
  refine Z4k ?_
  refine Zu ?_
  refine Z4m ?_
  refine qa rfl (fun hc=>?_) (fun hc=>?_)
  ·have hlt:k<o.needs.length:=by simpa using hc
   obtain ⟨n,hx,hxl⟩:=qr hlt
   have hr:=qk eI hx
   have hnn:=hnr n hxl
   have c1:=fun H=>q7c n 4 hnn.1 (by omega) (by decide) H
   have hl2:(b0++q3b (o.needs.take k)).length≤b0.length+64:=by
    rw [List.length_append,q8t,List.length_take];omega
   have hnt:=qgv hx
   have hbl:=q27 4 n.toNat
   refine Z8o ?_
   refine Z4i ?_
   refine Z8 ?_
   refine Z4u ?_
   refine Zrz ?_
   refine ao2 Y1k (q3t (bs:=b0++q3b (o.needs.take k)) (cs:=big 4 n.toNat) (en:=qz) rfl rfl rfl (Src.pl rfl (qo _)) rfl (by omega) (by omega)) ?_
   refine Zp8 ?_
   refine Z11 ?_
   refine Zov ?_
   refine Za ?_
   exact ⟨k+1,by omega,by omega,by simp only [hnt,← List.append_assoc];exact Y8,.inl (by rw [hnt,← List.append_assoc];rfl)⟩
  ·have hkk:k=o.needs.length:=by simp at hc;omega
   subst hkk
   rw [List.take_length]
   refine Zji ?_
   refine Zq2 ?_
   exact Zi1
 have hk1:¬ o.kind=1:=by simpa using hc
 rw [if_neg hk1] at hob
 refine Z5a ?_
 refine q2x ([(1,.pt (Lid H.length 0) 0 0 0),(4,.sl (Lid H.length 1) 0 0 1 1),(18,.int .i64 o.kind),(64,.bool (decide (o.kind=2∨o.kind=5)))]) (H++[⟨0,13,[eOp o]⟩,⟨0,1,[kb].map qz⟩]) ?_ ?_
 ·refine Z1 ?_
  refine qa rfl (fun hc=>?_) (fun hc=>?_)
  ·have hk:o.kind=2:=by simpa using hc
   rw [hc]
   refine Z1 ?_
   refine ⟨?_,.inl rfl⟩
   rw [show decide (o.kind=2∨o.kind=5)=true from decide_eq_true (.inl hk)]
   exact Y8
  ·have hk:¬ o.kind=2:=by simpa using hc
   refine Z9n ?_
   refine ⟨?_,.inl rfl⟩
   rw [show decide (o.kind=2∨o.kind=5)=(o.kind == 5) by rw [Bool.eq_iff_iff];simp [hk]]
   exact Y8
 refine Z1 ?_
 refine qa rfl (fun hc=>?_) (fun hc=>?_)
 ·have hk:o.kind=2∨o.kind=5:=of_decide_eq_true hc
  obtain ⟨hi,hw⟩:=qom hm hk
  rw [if_pos hk] at hob
  rw [hob]
  have c1:=fun H=>q7c o.id 4 hi.1 (by omega) (by decide) H
  have c2:=fun H=>q7c o.what 4 hw.1 (by omega) (by decide) H
  have b1:=q27 4 o.id.toNat
  have b2:=q27 4 o.what.toNat
  refine Zp2 ?_
  refine Zbv ?_
  refine Zp3 ?_
  refine Zoo ?_
  refine q9b 3 rfl Y1q (by decide) (fun _=>V2.call (c1 _) rfl) ?_
  refine Zp4 ?_
  refine Zp5 ?_
  refine aqs 4 rfl Y1q Y15 Y1k (q3t (bs:=[kb]) (cs:=big 4 o.id.toNat) (en:=qz) rfl rfl rfl (Src.pl rfl (qo _)) rfl Y1x Y1x) ?_
  refine q9b 7 rfl Y1q (by decide) (fun _=>V2.call (c2 _) rfl) ?_
  refine aqs 8 rfl Y1q Y15 Y1k (q3t (bs:=[kb]++big 4 o.id.toNat) (cs:=big 4 o.what.toNat) (en:=qz) rfl rfl rfl (Src.pl rfl (qo _)) rfl Y1x Y1x) ?_
  refine Zq0 ?_
  refine Zie ?_
  refine Zhz ?_
  refine Zs0 ?_
  refine Z1d ?_
  refine qp (ys:=(kb :: (big 4 o.id.toNat++big 4 o.what.toNat)).map qz) 2 rfl rfl rfl rfl Ym (by simp) (q17 0 _) ?_
  exact Zi1
 have hk2:¬ (o.kind=2∨o.kind=5):=of_decide_eq_false hc
 rw [if_neg hk2] at hob
 refine Z5a ?_
 refine qa rfl (fun hc=>?_) (fun hc=>?_)
 ·have hk:o.kind=3:=by simpa using hc
  have ha:=qhw hm (.inl hk)
  rw [if_pos hk] at hob
  rw [hob]
  have c1:=fun H=>q7c o.at_ 8 ha.1 (by omega) (by decide) H
  have b1:=q27 8 o.at_.toNat
  refine Zbi ?_
  refine Z30 ?_
  refine Zrz ?_
  refine Zs1 ?_
  refine Z8s ?_
  refine Zs0 ?_
  refine Zji ?_
  refine qp (ys:=(kb :: big 8 o.at_.toNat).map qz) 2 rfl rfl rfl rfl Ym (by simp) (q17 0 _) ?_
  exact Zi1
 have hk3:¬ o.kind=3:=by simpa using hc
 rw [if_neg hk3] at hob
 have hk:o.kind=4:=by omega
 have ha:=qhw hm (.inr hk)
 have q57:=qp6 hm hk
 have hsl:=qaz o.set
 rw [hob]
 have c1:=fun H=>q7c o.at_ 8 ha.1 (by omega) (by decide) H
 have b1:=q27 8 o.at_.toNat
 refine Z4j ?_
 refine qu (qsw _ Y1y _) rfl (by decide) ?_
 refine Zir ?_
 refine Z3z ?_
 rw [show q5r o.set=(q9k o.set,0) by rw [q5r,if_neg (by rw [q57];simp)]]
 refine Zjj ?_
 refine Zrz ?_
 refine Zs1 ?_
 refine Z44 ?_
 refine ao2 Y1k (q3t (bs:=[kb]++big 8 o.at_.toNat) (cs:=q9k o.set) (en:=qz) rfl rfl rfl (Src.pl rfl (qo _)) rfl Y1x Y1x) ?_
 refine Z8s ?_
 refine Zs0 ?_
 refine Zji ?_
 refine qp (ys:=(kb :: (big 8 o.at_.toNat++q9k o.set)).map qz) 2 rfl rfl rfl rfl Ym (by simp) (q17 0 _) ?_
 exact Zi1
abbrev qa3 (s:Seat):List AV:=[.pl (s.graph.map qw),.int .i64 s.policy,.int .i64 s.depth,.pl (s.log.map qz)]++q1l s.inst
set_option maxHeartbeats 0 in
theorem qoy (g:List Thing) (p d:Int) (hl:g.length≤1000000) (H:qf):AC Tryz.prog 15 [.pl (g.map qw),.int .i64 p,.int .i64 d] H (Ret (.tup [.agg (qa3 (qdt g p d).1),.int .i64 (qdt g p d).2]) H):=by
 refine AC.body (N:=27) [.cell 6 47,.tmp 7] Tryz.func15 rfl rfl rfl (Nat.le_of_ble_eq_true rfl) fun B hB=>?_
 refine Z2 ?_
 refine Z5w ?_
 refine Z4 ?_
 refine Zs2 ?_
 refine Z45 ?_
 refine Z2r ?_
 refine qu (qx2 _ _ _ _ Y1y) rfl (by decide) ?_
 refine Zi3 ?_
 refine Zhg ?_
 refine Zhm ?_
 refine Z7j ?_
 refine Z8m ?_
 refine qa rfl (fun hc=>?_) (fun hc=>?_)
 ·have h0:(qiv g p d).2≠0:=by simpa using hc
  rw [qdt,if_pos h0]
  refine Z2 ?_
  refine Zs3 ?_
  refine Z8 ?_
  refine Z68 ?_
  exact Zed
 ·have h0:¬ (qiv g p d).2≠0:=by simpa using hc
  rw [qdt,if_neg h0]
  refine Z1 ?_
  refine Zon ?_
  try dsimp only
  refine Z6v ?_
  refine q9b 1 rfl Y1q (by decide) (fun _=>V2.call (q5t _ _ Y1y) rfl) ?_
  refine Z8z ?_
  refine Zby ?_
  refine aqr 4 rfl Y1q (by decide) (fun G hG=>q1q rfl (lk rfl hG) rfl rfl rfl) ?_
  refine aq0 5 rfl Y1q (by decide) (fun _=>V1.up (q3w (cs:=[_,.int _ _,.int _ _,_,_,_,_,.int _ _,_,_,.int _ _,.int _ _,.int _ _]) rfl)) ?_
  refine aqs 6 rfl Y1q Y15 Y1w (q2q (sz:=13) rfl rfl rfl rfl rfl rfl rfl rfl (Nat.le_of_ble_eq_true rfl)) ?_
  refine aq0 7 rfl Y1q (by decide) (fun _=>q11 (v:=.int _ _) rfl) ?_
  refine Zie ?_
  exact Zed
structure SW (s : Seat) : Prop where
 graph:s.graph.length≤1000000
 log:s.log.length≤10000000
 iw:IW s.inst
 jw:JW s.inst.jobs
set_option maxHeartbeats 0 in
theorem qlw (s:Seat) (hw:SW s) (H:qf):AC Tryz.prog 50 [.agg (qa3 s)] H (Ret (.agg (qa3 s)) H):=by
 have w1:=hw.graph
 have w2:=hw.log
 refine AC.body (N:=16) [.cell 2 47] Tryz.func50 rfl rfl rfl (Nat.le_of_ble_eq_true rfl) fun B hB=>?_
 refine Z4g ?_
 refine Z5w ?_
 refine qe ?_
 try dsimp only [List.cons_append,List.nil_append,put,AV.cells,List.length_cons,List.length_nil,Nat.reduceAdd]
 refine Z1 ?_
 refine Z7w ?_
 refine Z7x ?_
 refine Za1 ?_
 refine Ziw ?_
 refine q9b 2 rfl Y1q (by decide) (fun _=>V2.call (q5t s.graph _ w1) rfl) ?_
 refine Zix ?_
 refine Ziy ?_
 refine q9b 5 rfl Y1q (by decide) (fun _=>V2.call (qe0 s.log _ (by omega)) rfl) ?_
 refine Ziz ?_
 refine aqp 7 rfl Y1q (by decide) (fun G=>q7q (cs:=[_,_,_,_,_,_,_,_,_]) rfl (lk rfl rfl) rfl rfl rfl rfl) ?_
 refine q9b 8 rfl Y1q (by decide) (fun _=>V2.call (qkj s.inst _ hw.iw hw.jw) rfl) ?_
 refine Zj0 ?_
 refine Zj1 ?_
 refine Zj2 ?_
 refine Zj3 ?_
 refine Zj4 ?_
 refine Zj5 ?_
 refine Zhf ?_
 refine Z3v ?_
 refine Zhn ?_
 refine Z6a ?_
 exact Ze9
structure GSt where
 x:Inst
 e:Int
set_option maxHeartbeats 0 in
theorem qvi (i:Inst) (o:OOp) (hw:RI i) (h20:i.jobs.length<999999) (hn:o.needs.length≤1000000) (hs:o.set.length≤1000000) (H:qf):ACT Tryz.prog KD 52 [.agg (q1l i),.agg (eOp o)] H (Ret (.tup [.agg (q1l (q4i i o).1),.int .i64 (q4i i o).2.1,.int .i64 (q4i i o).2.2]) H):=by
 refine ACT.body (N:=67) [.cell 4 45,.tmp 5,.tmp 6] Tryz.func52 rfl rfl rfl (Nat.le_of_ble_eq_true rfl) fun B hB=>?_
 refine Zfw ?_
 refine Z4f ?_
 refine Zhg ?_
 refine Z15 ?_
 refine Z5x ?_
 refine Z3v ?_
 refine Zhg ?_
 refine Zhm ?_
 refine Z7j ?_
 refine Z59 ?_
 refine Z9m ?_
 refine q7l (G:=GSt) (fun g=>q4i i o=(g.x,0,g.e)) (fun g=>[(KT,KD.av),(2,.pt (Lid H.length 0) 0 0 0),(3,.pt (Lid H.length 1) 0 0 0),(4,.pt (Lid H.length 2) 0 0 0),(7,.pt (Lid H.length 3) 0 0 0),(8,.int .i64 g.e)]) (fun g=>H++[⟨0,9,[q1l i]⟩,⟨0,13,[eOp o]⟩,⟨0,9,[z9]⟩,⟨0,9,[q1l g.x]⟩]) ?_ ?_
 ·refine Z5a ?_
  refine qa rfl (fun hc=>?_) (fun hc=>?_)
  ·have hk:o.kind=1:=by simpa using hc
   have e:q4i i o=q3l i o.spec o.needs:=by rw [q4i,if_pos hk]
   rw [e]
   refine Z3v ?_
   refine Zn3 ?_
   refine Z4i ?_
   refine ao2 Y1k (V2.callT (qmq i o.spec o.needs _ hw h20 hn) rfl rfl) ?_
   refine Z7f ?_
   refine Z14 ?_
   refine Z14 ?_
   refine Zhl ?_
   refine Z15 ?_
   refine Zs4 ?_
   refine Z1 ?_
   exact Zns
  have hk1:¬ o.kind=1:=by simpa using hc
  refine Z5a ?_
  refine qa rfl (fun hc=>?_) (fun hc=>?_)
  ·have hk:o.kind=2:=by simpa using hc
   refine q18 ?_
   refine Z3u ?_
   refine Zce ?_
   refine ao2 Y1k (V2.callT (q114 i o.id o.what _ hw (by omega)) rfl rfl) ?_
   refine Zi3 ?_
   refine Zhm ?_
   refine Zs4 ?_
   refine Z1 ?_
   exact q1p ⟨_,_⟩ (by rw [q4i,if_neg hk1,if_pos hk]) Y8 (.inl rfl)
  have hk2:¬ o.kind=2:=by simpa using hc
  refine Z5a ?_
  refine qa rfl (fun hc=>?_) (fun hc=>?_)
  ·have hk:o.kind=3:=by simpa using hc
   refine q18 ?_
   refine Z3u ?_
   refine Z30 ?_
   refine ao2 Y1k (V2.callT (qw5 i o.at_ _ hw (by omega)) rfl rfl) ?_
   refine Zi3 ?_
   refine Zhm ?_
   refine Zs4 ?_
   refine Z1 ?_
   exact q1p ⟨_,_⟩ (by rw [q4i,if_neg hk1,if_neg hk2,if_pos hk]) Y8 (.inl rfl)
  have hk3:¬ o.kind=3:=by simpa using hc
  refine Z5a ?_
  refine qa rfl (fun hc=>?_) (fun hc=>?_)
  ·have hk:o.kind=4:=by simpa using hc
   refine q18 ?_
   refine Z3u ?_
   refine Z4i ?_
   refine Z30 ?_
   refine ao2 Y1k (V2.callT (qtw i o.set o.at_ _ hw (by omega) hs) rfl rfl) ?_
   refine Zi3 ?_
   refine Zhm ?_
   refine Zs4 ?_
   refine Z1 ?_
   exact q1p ⟨_,_⟩ (by rw [q4i,if_neg hk1,if_neg hk2,if_neg hk3,if_pos hk]) Y8 (.inl rfl)
  have hk4:¬ o.kind=4:=by simpa using hc
  refine Z5a ?_
  refine qa rfl (fun hc=>?_) (fun hc=>?_)
  ·have hk:o.kind=5:=by simpa using hc
   refine q18 ?_
   refine Z3u ?_
   refine Zce ?_
   refine ao2 Y1k (V2.callT (qtg i o.id o.what _ hw (by omega)) rfl rfl) ?_
   refine Zi3 ?_
   refine Zhm ?_
   refine Zs4 ?_
   refine Z1 ?_
   exact q1p ⟨_,_⟩ (by rw [q4i,if_neg hk1,if_neg hk2,if_neg hk3,if_neg hk4,if_pos hk]) Y8 (.inl rfl)
  have hk5:¬ o.kind=5:=by simpa using hc
  refine Z1 ?_
  exact q1p ⟨_,_⟩ (by rw [q4i,if_neg hk1,if_neg hk2,if_neg hk3,if_neg hk4,if_neg hk5]) Y8 (.inl rfl)
 rintro ⟨x,e⟩ hx
 simp only at hx ⊢
 rw [hx]
 refine Z3v ?_
 refine Z8 ?_
 refine Zhl ?_
 exact Znt
set_option maxHeartbeats 0 in
theorem qw7 (s:Seat) (o:OOp) (hw:SW s) (hr:RI s.inst) (h20:s.inst.jobs.length<999999) (hn:o.needs.length≤1000000) (hs:o.set.length≤1000000) (H:qf):ACT Tryz.prog KD 18 [.agg (qa3 s),.agg (eOp o)] H (Ret (.tup [.agg (qa3 (sdo s o).1),.int .i64 (sdo s o).2.1,.int .i64 (sdo s o).2.2]) H):=by
 have w2:=hw.log
 refine ACT.body (N:=53) [.cell 4 47,.tmp 5,.tmp 6] Tryz.func18 rfl rfl rfl (Nat.le_of_ble_eq_true rfl) fun B hB=>?_
 refine Z4g ?_
 refine Z4f ?_
 refine Z5w ?_
 refine Z15 ?_
 refine Zs5 ?_
 refine Z3v ?_
 refine ao2 Y1k (V2.call (qlw s hw _) rfl) ?_
 refine ao2 Y1w (qis rfl rfl rfl rfl rfl rfl rfl rfl (Nat.le_of_ble_eq_true rfl) rfl rfl) ?_
 refine qe ?_
 refine Zlh ?_
 refine Z3v ?_
 refine ao2 Y1k (V2.call (qj2 o hn hs _) rfl) ?_
 refine Zn6 ?_
 refine Z11 ?_
 refine Z2l ?_
 refine qe ?_
 cases hm:q3q o with
 | false =>
  rw [show q6f o=([],1) by rw [q6f,hm];rfl,show sdo s o=(s,0,1) by rw [sdo,if_pos hm]]
  refine Z1 ?_
  refine qa rfl (fun hc=>?_) (fun hc=>?_)
  ·refine Z3v ?_
   refine Z8 ?_
   refine Z67 ?_
   exact Znt
  ·simp at hc
 | true =>
  have hob:=(qao hm).2
  have cl:=fun H=>q11z s.log (q38 o) (by omega) (by omega) H
  have hD:sdo s o=if 1048576<(q78 s.log (q38 o)).1.length then (s,0,4) else if (q4i s.inst o).2.2≠0 then (s,0,(q4i s.inst o).2.2) else ({ s with inst:=(q4i s.inst o).1,log:=(q78 s.log (q38 o)).1 },(q4i s.inst o).2.1,0):=by
   rw [sdo,if_neg (by rw [hm];decide)]
  rw [show q6f o=(q38 o,0) by rw [q6f,hm];rfl]
  refine Z1 ?_
  refine qa rfl (fun hc=>?_) (fun hc=>?_)
  ·simp at hc
  clear hc
  generalize q78 s.log (q38 o)=a at *
  obtain ⟨l,e⟩:=a
  simp only at hD cl
  refine Z4j ?_
  refine Z44 ?_
  refine ao2 Y1k (V2.call (cl _) rfl) ?_
  refine Zir ?_
  refine Z6k ?_
  refine Z6r ?_
  refine Z2q ?_
  refine qa rfl (fun hc=>?_) (fun hc=>?_)
  ·have h1:1048576<l.length:=by simp at hc;omega
   rw [hD,if_pos h1]
   refine Z3v ?_
   refine Z67 ?_
   exact Znt
  have h1:¬ 1048576<l.length:=by simp at hc;omega
  rw [if_neg h1] at hD
  clear hc
  have cs:=fun H=>qvi s.inst o hr h20 hn hs H
  generalize q4i s.inst o=x at *
  obtain ⟨i,id,f⟩:=x
  simp only at hD cs
  refine Z2 ?_
  refine Z2y ?_
  refine ao1 (by decide) (q7q (cs:=[_,_,_,_,_,_,_,_,_]) rfl (lk rfl rfl) rfl rfl rfl rfl) ?_
  refine Z3u ?_
  refine ao2 Y1k (V2.callT (cs _) rfl rfl) ?_
  refine Zi3 ?_
  refine Z14 ?_
  refine Zhg ?_
  refine Zhl ?_
  refine Z15 ?_
  try dsimp only [Nat.reduceAdd,put,List.length_cons,List.length_nil,List.cons_append,List.nil_append,List.set_cons_zero,List.set_cons_succ]
  refine Z8m ?_
  refine qa rfl (fun hc=>?_) (fun hc=>?_)
  ·have h2:f≠0:=by simpa using hc
   rw [hD,if_pos h2]
   refine Z3v ?_
   refine Z8 ?_
   refine Z67 ?_
   exact Znt
  ·have h2:¬ f≠0:=by simpa using hc
   rw [hD,if_neg h2]
   refine Z3v ?_
   refine Z44 ?_
   refine Z2y ?_
   refine ao2 Y1w (q1k (sz:=9) (v:=.agg _) (r':=[_,_,_,_,_,_,_,_,_,_,_,_,_]) rfl rfl rfl rfl rfl rfl rfl rfl (Nat.le_of_ble_eq_true rfl) rfl) ?_
   refine Z2y ?_
   refine Z5z ?_
   refine Z61 ?_
   refine Z3v ?_
   refine Z8 ?_
   refine Z67 ?_
   exact Znt
set_option maxHeartbeats 0 in
theorem q7u (a b:List Int) (hl:a.length≤1000000) (H:qf):AC Tryz.prog 44 [.pl (a.map eI),.pl (b.map eI)] H (Ret (.bool (decide (a=b))) H):=by
 refine AC.body (N:=26) [.tmp 4] Tryz.func44 rfl rfl rfl (Nat.le_of_ble_eq_true rfl) fun B hB=>?_
 refine Z6s ?_
 refine Z6t ?_
 refine Z6u ?_
 refine qa rfl (fun hc=>?_) (fun hc=>?_)
 ·have hne:¬ a.length=b.length:=by simp at hc;omega
  rw [show decide (a=b)=false from decide_eq_false fun e=>hne (by rw [e])]
  exact Z53
 have hlen:a.length=b.length:=by simp at hc;omega
 clear hc
 refine Z76 ?_
 refine qm (G:=Nat) (fun k=>k≤a.length∧a.take k=b.take k) (fun k=>[(0,.pl (a.map eI)),(1,.pl (b.map eI)),(12,.int .i64 (a.length:Int)),(13,.int .i64 (k:Int))]) (fun _=>H++[]) (fun k=>a.length-k) 0 ⟨Nat.zero_le _,rfl⟩ Y8 (Fit.refl _ _) ?_
 rintro k ⟨hk,ht⟩
 refine Z4r ?_
 refine qa rfl (fun hc=>?_) (fun hc=>?_)
 ·have hlt:k<a.length:=by simpa using hc
  obtain ⟨x,hx,hxl⟩:=qr hlt
  obtain ⟨y,hy,hyl⟩:=qr (show k<b.length by omega)
  have hr:=qk eI hx
  have hr1:=qk eI hy
  clear hc
  refine Z1t ?_
  refine Z1g ?_
  refine Z6v ?_
  refine Z1i ?_
  refine Z6w ?_
  refine Z6x ?_
  refine Z6y ?_
  refine Z1l ?_
  refine Z6z ?_
  refine Z70 ?_
  refine Z71 ?_
  refine Z1k ?_
  refine Z1 ?_
  refine qa rfl (fun hc=>?_) (fun hc=>?_)
  ·have hne:x≠y:=by simpa using hc
   rw [show decide (a=b)=false from decide_eq_false fun e=>hne Yp]
   exact Z53
  ·have he:x=y:=by simpa using hc
   subst he
   refine Zp1 ?_
   refine ⟨k+1,by omega,⟨by omega,?_⟩,Y8,.refl _ _⟩
   rw [ql hx,ql hy,ht]
 ·have:k=a.length:=by simp at hc;omega
  subst this
  rw [show decide (a=b)=true from decide_eq_true Yj]
  exact Z53
theorem qpy (a b:Held) (H:qf) (ha:a.things.length≤1000000):AC Tryz.prog 43 [.agg (qj a),.agg (qj b)] H (Ret (.bool (decide (a=b))) H):=by
 have he:decide (a=b)=(a.id == b.id&&a.frm == b.frm&&a.tto == b.tto&&decide (a.things=b.things)):=by
  cases a;cases b;simp [Bool.beq_eq_decide_eq];grind
 rw [he]
 refine AC.body (N:=31) [.tmp 4] Tryz.func43 rfl rfl rfl (Nat.le_of_ble_eq_true rfl) fun B hB=>?_
 refine Zc5 ?_
 refine Zc4 ?_
 refine Z1n ?_
 refine Zcd ?_
 refine qq 4 (.bool (a.id == b.id&&a.frm == b.frm&&a.tto == b.tto&&decide (a.things=b.things))) ?_ ?_
 ·refine Zce ?_
  refine Z3o ?_
  refine qb rfl rfl (fun hg5=>?_) (fun hg5=>?_)
  ·refine Zqa ?_
   refine qb rfl rfl (fun hg12=>?_) (fun hg12=>?_)
   ·refine Zqa ?_
    refine qb rfl rfl (fun hg19=>?_) (fun hg19=>?_)
    ·refine Zcg ?_
     refine q6d rfl rfl (by decide) (V2.call (q7u a.things b.things ha _) rfl) ?_
     refine Zn ?_
     exact Zs6
    ·refine Z56 ?_
     exact Zs6
   ·refine Zq ?_
    exact Zs7
  ·refine Zqb ?_
   exact Zs7
 exact Z20
set_option maxHeartbeats 0 in
theorem qi2 (a b:List Thing) (hl:a.length≤1000000) (H:qf):AC Tryz.prog 46 [.pl (a.map qw),.pl (b.map qw)] H (Ret (.bool (decide (a=b))) H):=by
 refine AC.body (N:=26) [.tmp 4] Tryz.func46 rfl rfl rfl (Nat.le_of_ble_eq_true rfl) fun B hB=>?_
 refine Z6s ?_
 refine Z6t ?_
 refine Z6u ?_
 refine qa rfl (fun hc=>?_) (fun hc=>?_)
 ·have hne:¬ a.length=b.length:=by simp at hc;omega
  rw [show decide (a=b)=false from decide_eq_false fun e=>hne (by rw [e])]
  exact Z53
 have hlen:a.length=b.length:=by simp at hc;omega
 clear hc
 refine Z76 ?_
 refine qm (G:=Nat) (fun k=>k≤a.length∧a.take k=b.take k) (fun k=>[(0,.pl (a.map qw)),(1,.pl (b.map qw)),(12,.int .i64 (a.length:Int)),(13,.int .i64 (k:Int))]) (fun _=>H++[]) (fun k=>a.length-k) 0 ⟨Nat.zero_le _,rfl⟩ Y8 (Fit.refl _ _) ?_
 rintro k ⟨hk,ht⟩
 refine Z4r ?_
 refine qa rfl (fun hc=>?_) (fun hc=>?_)
 ·have hlt:k<a.length:=by simpa using hc
  obtain ⟨x,hx,hxl⟩:=qr hlt
  obtain ⟨y,hy,hyl⟩:=qr (show k<b.length by omega)
  have hr:=qk qw hx
  have hr1:=qk qw hy
  clear hc
  refine Z1t ?_
  refine Z1g ?_
  refine Z6v ?_
  refine Z1i ?_
  refine Z6w ?_
  refine aqp 3 rfl Y1q (by decide) (fun G=>q94 rfl hr rfl) ?_
  refine Z6y ?_
  refine Z1l ?_
  refine Z6z ?_
  refine aqp 7 rfl Y1q (by decide) (fun G=>q94 rfl hr1 rfl) ?_
  refine aq0 8 rfl Y1q (by decide) (fun _=>quz (us:=qfj x) (vs:=qfj y) rfl rfl rfl rfl Y1z (qfi _ _)) ?_
  refine Z1k ?_
  refine Z1 ?_
  refine qa rfl (fun hc=>?_) (fun hc=>?_)
  ·have hne:x≠y:=by simpa using hc
   rw [show decide (a=b)=false from decide_eq_false fun e=>hne Yp]
   exact Z53
  ·have he:x=y:=by simpa using hc
   subst he
   refine Zp1 ?_
   refine ⟨k+1,by omega,⟨by omega,?_⟩,Y8,.refl _ _⟩
   rw [ql hx,ql hy,ht]
 ·have:k=a.length:=by simp at hc;omega
  subst this
  rw [show decide (a=b)=true from decide_eq_true Yj]
  exact Z53
set_option maxHeartbeats 0 in
theorem qpx (a b:Job) (H:qf) (ha:a.needs.length≤1000000):AC Tryz.prog 45 [.agg (qx a),.agg (qx b)] H (Ret (.bool (decide (a=b))) H):=by
 have he:decide (a=b)=(a.id == b.id&&decide (a.spec=b.spec)&&a.state == b.state&&a.came == b.came&&a.frm == b.frm&&a.tto == b.tto&&decide (a.needs=b.needs)):=by
  cases a;cases b;simp [Bool.beq_eq_decide_eq];grind
 rw [he]
 refine AC.body (N:=52) [.tmp 4] Tryz.func45 rfl rfl rfl (Nat.le_of_ble_eq_true rfl) fun B hB=>?_
 refine Z4g ?_
 refine Z4f ?_
 refine Z1n ?_
 refine Zcd ?_
 refine qq 4 (.bool (a.id == b.id&&decide (a.spec=b.spec)&&a.state == b.state&&a.came == b.came&&a.frm == b.frm&&a.tto == b.tto&&decide (a.needs=b.needs))) ?_ ?_
 ·refine Zce ?_
  refine Z3o ?_
  refine qb rfl rfl (fun hg5=>?_) (fun hg5=>?_)
  ·refine Z31 ?_
   refine Z5g ?_
   refine Z31 ?_
   refine Z5g ?_
   refine Zq9 ?_
   refine Z34 ?_
   refine qb rfl rfl (fun hg12=>?_) (fun hg12=>?_)
   ·refine Zqa ?_
    refine qb rfl rfl (fun hg19=>?_) (fun hg19=>?_)
    ·refine Zqa ?_
     refine qb rfl rfl (fun hg26=>?_) (fun hg26=>?_)
     ·refine Zqa ?_
      refine qb rfl rfl (fun hg33=>?_) (fun hg33=>?_)
      ·refine Zqa ?_
       refine qb rfl rfl (fun hg40=>?_) (fun hg40=>?_)
       ·refine Zcg ?_
        refine q6d rfl rfl (by decide) (V2.call (q7u a.needs b.needs ha _) rfl) ?_
        refine Zn ?_
        exact Zs6
       ·refine Z56 ?_
        exact Zs6
      ·refine Zq ?_
       exact Zs7
     ·refine Zqb ?_
      exact Zs7
    ·refine Zqc ?_
     exact Zs7
   ·refine Zqd ?_
    exact Zs7
  ·refine Zqd ?_
   refine Zcb ?_
   exact Zs7
 exact Z20
set_option maxHeartbeats 0 in
theorem qdc (F:Nat) [FnI Tryz.prog F] (a b:List Job) (hF:∀ x∈a,∀ y H,AC Tryz.prog F [.agg (qx x),.agg (qx y)] H (Ret (.bool (decide (x=y))) H)) (hl:a.length≤1000000) (H:qf):AC Tryz.prog 48 [.pl (a.map qx),.pl (b.map qx),.fn (.func F) [] []] H (Ret (.bool (decide (a=b))) H):=by
 refine AC.body (N:=32) [.tmp 6] Tryz.func48 rfl rfl rfl (Nat.le_of_ble_eq_true rfl) fun B hB=>?_
 refine Z6s ?_
 refine Z6t ?_
 refine Z6u ?_
 refine qa rfl (fun hc=>?_) (fun hc=>?_)
 ·have hne:¬ a.length=b.length:=by simp at hc;omega
  rw [show decide (a=b)=false from decide_eq_false fun e=>hne (by rw [e])]
  exact Z53
 have hlen:a.length=b.length:=by simp at hc;omega
 clear hc
 refine Z76 ?_
 refine qm (G:=Nat) (fun k=>k≤a.length∧a.take k=b.take k) (fun k=>[(0,.pl (a.map qx)),(1,.pl (b.map qx)),(2,.fn (.func F) [] []),(15,.pl (a.map qx)),(16,.int .i64 (a.length:Int)),(17,.int .i64 (k:Int))]) (fun _=>H++[]) (fun k=>a.length-k) 0 ⟨Nat.zero_le _,rfl⟩ Y8 (Fit.refl _ _) ?_
 rintro k ⟨hk,ht⟩
 refine Z4r ?_
 refine qa rfl (fun hc=>?_) (fun hc=>?_)
 ·have hlt:k<a.length:=by simpa using hc
  obtain ⟨x,hx,hxl⟩:=qr hlt
  obtain ⟨y,hy,hyl⟩:=qr (show k<b.length by omega)
  have hr:=qk qx hx
  have hr1:=qk qx hy
  clear hc
  refine Z9u ?_
  refine Z5w ?_
  refine Z3 ?_
  refine Z67 ?_
  refine Z9y ?_
  refine Z90 ?_
  refine Zs8 ?_
  refine Zs9 ?_
  refine Zfy ?_
  refine Zbh ?_
  refine Z1s ?_
  refine Z3u ?_
  refine Z3u ?_
  refine Zsa ?_
  refine Z19 ?_
  refine Z48 ?_
  refine qa rfl (fun hc=>?_) (fun hc=>?_)
  ·have hne:x≠y:=by simpa using hc
   rw [show decide (a=b)=false from decide_eq_false fun e=>hne Yp]
   exact Z53
  ·have he:x=y:=by simpa using hc
   subst he
   refine Zp1 ?_
   refine ⟨k+1,by omega,⟨by omega,?_⟩,Y8,Fit.loc hB (G:=[⟨0,13,[qx x]⟩,⟨0,13,[qx x]⟩]) rfl Y1 (fun a ha=>by cases ha)⟩
   rw [ql hx,ql hy,ht]
 ·have:k=a.length:=by simp at hc;omega
  subst this
  rw [show decide (a=b)=true from decide_eq_true Yj]
  exact Z53
set_option maxHeartbeats 0 in
theorem qbq (F:Nat) [FnI Tryz.prog F] (a b:List Held) (hF:∀ x∈a,∀ y H,AC Tryz.prog F [.agg (qj x),.agg (qj y)] H (Ret (.bool (decide (x=y))) H)) (hl:a.length≤1000000) (H:qf):AC Tryz.prog 49 [.pl (a.map qj),.pl (b.map qj),.fn (.func F) [] []] H (Ret (.bool (decide (a=b))) H):=by
 refine AC.body (N:=32) [.tmp 6] Tryz.func49 rfl rfl rfl (Nat.le_of_ble_eq_true rfl) fun B hB=>?_
 refine Z6s ?_
 refine Z6t ?_
 refine Z6u ?_
 refine qa rfl (fun hc=>?_) (fun hc=>?_)
 ·have hne:¬ a.length=b.length:=by simp at hc;omega
  rw [show decide (a=b)=false from decide_eq_false fun e=>hne (by rw [e])]
  exact Z53
 have hlen:a.length=b.length:=by simp at hc;omega
 clear hc
 refine Z76 ?_
 refine qm (G:=Nat) (fun k=>k≤a.length∧a.take k=b.take k) (fun k=>[(0,.pl (a.map qj)),(1,.pl (b.map qj)),(2,.fn (.func F) [] []),(15,.pl (a.map qj)),(16,.int .i64 (a.length:Int)),(17,.int .i64 (k:Int))]) (fun _=>H++[]) (fun k=>a.length-k) 0 ⟨Nat.zero_le _,rfl⟩ Y8 (Fit.refl _ _) ?_
 rintro k ⟨hk,ht⟩
 refine Z4r ?_
 refine qa rfl (fun hc=>?_) (fun hc=>?_)
 ·have hlt:k<a.length:=by simpa using hc
  obtain ⟨x,hx,hxl⟩:=qr hlt
  obtain ⟨y,hy,hyl⟩:=qr (show k<b.length by omega)
  have hr:=qk qj hx
  have hr1:=qk qj hy
  clear hc
  refine Z9u ?_
  refine Z72 ?_
  refine Z3 ?_
  refine Zck ?_
  refine Z9y ?_
  refine Z90 ?_
  refine Zs8 ?_
  refine Zs9 ?_
  refine Zg0 ?_
  refine Zbh ?_
  refine Z1s ?_
  refine Z3u ?_
  refine Z3u ?_
  refine Zsa ?_
  refine Z19 ?_
  refine Z48 ?_
  refine qa rfl (fun hc=>?_) (fun hc=>?_)
  ·have hne:x≠y:=by simpa using hc
   rw [show decide (a=b)=false from decide_eq_false fun e=>hne Yp]
   exact Z53
  ·have he:x=y:=by simpa using hc
   subst he
   refine Zp1 ?_
   refine ⟨k+1,by omega,⟨by omega,?_⟩,Y8,Fit.loc hB (G:=[⟨0,4,[qj x]⟩,⟨0,4,[qj x]⟩]) rfl Y1 (fun a ha=>by cases ha)⟩
   rw [ql hx,ql hy,ht]
 ·have:k=a.length:=by simp at hc;omega
  subst this
  rw [show decide (a=b)=true from decide_eq_true Yj]
  exact Z53
end Go.Av
namespace Go.Av
deriving instance DecidableEq for Inst
deriving instance DecidableEq for Seat
theorem Tr.grow {s t:Seat} {os:List OOp} (h:Tr s os t):t.log.length≤s.log.length+1104 * os.length:=by
 induction h with
 | nil=>simp
 | @cons s t o os h _ ih =>
  rcases qh4 s o with e | e
  ·exact absurd h e.1
  ·have hk:=(qao e.2.1).2
   have he:=q72 (q38 o)
   rw [e.2.2.2.2] at ih
   simp only [List.length_append] at ih
   rw [List.length_cons]
   omega
theorem q9u (b:List UInt8):(q22 b).1.needs.length≤20∧(q22 b).1.set.length≤1000000:=by
 rcases qlf b with h | h
 ·have h1:=(q6y (b:=b) (o:=(q22 b).1) Yt).1
  have hp:=(q6y (b:=b) (o:=(q22 b).1) Yt).2.2
  unfold q3q at h1
  unfold q41 at hp
  rcases qhn (q6y (b:=b) (o:=(q22 b).1) Yt).1 with e | e | e | e | e
  ·rw [if_pos e] at h1 hp
   simp only [Bool.and_eq_true,decide_eq_true_eq] at h1
   rw [← hp] at h1 ⊢
   simp only at h1 ⊢
   exact ⟨by omega,by simp⟩
  ·rw [if_neg (by omega),if_pos (.inl e)] at hp
   rw [← hp];exact ⟨by simp,by simp⟩
  ·rw [if_neg (by omega),if_neg (by omega),if_pos e] at hp
   rw [← hp];exact ⟨by simp,by simp⟩
  ·rw [if_neg (by omega),if_neg (by omega),if_neg (by omega),if_pos e] at h1
   rw [if_neg (by omega),if_neg (by omega),if_neg (by omega)] at hp
   simp only [Bool.and_eq_true] at h1
   have:=qiw h1.2
   rw [← hp];exact ⟨by simp,by simp only;omega⟩
  ·rw [if_neg (by omega),if_pos (.inr e)] at hp
   rw [← hp];exact ⟨by simp,by simp⟩
 ·rw [h];exact ⟨by decide,by decide⟩
end Go.Av
namespace Go.Av
open Go.Proofs
theorem qxz (a b:Seat):decide (a=b)=((decide (a.graph=b.graph)&&a.policy == b.policy&&a.depth == b.depth&&decide (a.log=b.log))&&(decide (a.inst.graph=b.inst.graph)&&decide (a.inst.health=b.inst.health)&&decide (a.inst.lease=b.inst.lease)&&a.inst.til == b.inst.til&&a.inst.now == b.inst.now&&a.inst.policy == b.inst.policy&&a.inst.depth == b.inst.depth)&&decide (a.inst.jobs=b.inst.jobs)&&decide (a.inst.table=b.inst.table)):=by
 obtain ⟨g,p,d,l,i⟩:=a
 obtain ⟨g2,p2,d2,l2,i2⟩:=b
 obtain ⟨a1,a2,a3,a4,a5,a6,a7,a8,a9⟩:=i
 obtain ⟨b1,b2,b3,b4,b5,b6,b7,b8,b9⟩:=i2
 simp only [Seat.mk.injEq,Inst.mk.injEq,Bool.beq_eq_decide_eq]
 rw [Bool.eq_iff_iff]
 simp only [Bool.and_eq_true,decide_eq_true_eq,beq_iff_eq]
 grind
structure GSm where
 p:Nat
 q:Nat
 M:qf
set_option maxHeartbeats 0 in
theorem qt8 (a b:Seat) (hw:SW a) (H:qf):AC Tryz.prog 17 [.agg (qa3 a),.agg (qa3 b)] H (Ret (.bool (decide (a=b))) H):=by
 have w1:=hw.graph
 have w2:=hw.iw.graph
 have w3:=hw.iw.health
 have w4:=hw.iw.lease
 have w5:=hw.iw.jobs
 have w6:=hw.iw.table.1
 have w7:=hw.iw.table.2
 have w8:=hw.jw.2
 rw [qxz]
 refine AC.body (N:=108) [.tmp 4] Tryz.func17 rfl rfl rfl (Nat.le_of_ble_eq_true rfl) fun B hB=>?_
 refine Zsc ?_
 refine Z4f ?_
 refine Z4f ?_
 refine Z1n ?_
 refine Zs5 ?_
 refine Zsc ?_
 refine Zsd ?_
 refine qe ?_
 refine Zsc ?_
 refine Zsd ?_
 refine qe ?_
 refine Zsb ?_
 refine q7l (G:=GSm) (fun g=>g.M[g.p]?=some ⟨0,9,[q1l a.inst]⟩∧g.M[g.q]?=some ⟨0,9,[q1l b.inst]⟩∧g.M[Lid H.length 0]?=some ⟨0,13,[qa3 a]⟩∧g.M[Lid H.length 1]?=some ⟨0,13,[qa3 b]⟩∧∃ s,g.M=H++s) (fun g=>[(2,.pt (Lid H.length 0) 0 0 0),(3,.pt (Lid H.length 1) 0 0 0),(5,.fn (.func 43) [] []),(6,.fn (.func 45) [] []),(7,.pt g.p 0 0 0),(8,.pt g.q 0 0 0)]) (fun g=>g.M++[]) ?_ ?_
 ·refine Zsb ?_
  refine Z7w ?_
  try dsimp only [List.take_succ_cons,List.take_zero,List.cons_append,List.nil_append]
  refine Za1 ?_
  refine aqp 1 rfl Y1q (by decide) (fun G=>q7q (cs:=[_,_,_,_,_,_,_,_,_]) rfl (lk rfl rfl) rfl rfl rfl rfl) ?_
  refine Znv ?_
  refine aqp 3 rfl Y1q (by decide) (fun G=>q7q (cs:=[_,_,_,_,_,_,_,_,_]) rfl (lk rfl rfl) rfl rfl rfl rfl) ?_
  refine qp5 [4,5] Y1q (by simp) Y1b ?_
  simp only [List.forall_mem_cons,List.not_mem_nil,false_implies,implies_true,and_true]
  refine ⟨?_,?_⟩
  ·refine Zse ?_
   refine aqs 5 rfl Y1q Y1b Y1k (q3y (sz:=9) rfl (by decide) rfl) ?_
   refine Zsf ?_
   refine Zsg ?_
   refine Z1k ?_
   refine Zsh ?_
   exact q1p ⟨Lid H.length 2,Lid H.length 3,_⟩ ⟨lk rfl rfl,lk rfl rfl,lk rfl rfl,lk rfl rfl,⟨_,rfl⟩⟩ Y8 (.inl (List.append_nil _).symm)
  ·refine Zse ?_
   refine aqs 4 rfl Y1q Y1b Y1k (q3y (sz:=9) rfl (by decide) rfl) ?_
   refine Zsf ?_
   refine Zsg ?_
   refine Z1k ?_
   refine Zsh ?_
   exact q1p ⟨Lid H.length 3,Lid H.length 2,_⟩ ⟨lk rfl rfl,lk rfl rfl,lk rfl rfl,lk rfl rfl,⟨_,rfl⟩⟩ Y8 (.inl (List.append_nil _).symm)
 rintro ⟨p,q,M⟩ ⟨hF,hF1,hF2,hF3,s,hs⟩
 simp only at hF hF1 hF2 hF3 hs ⊢
 refine Zsb ?_
 refine qq 9 (.bool (decide (a.graph=b.graph)&&a.policy == b.policy&&a.depth == b.depth&&decide (a.log=b.log))) ?_ ?_
 ·refine Zq5 ?_
  refine ao1 (by decide) (qh (v:=.pl _) rfl (lkF hF2) rfl rfl rfl) ?_
  refine ao1 (by decide) (qd rfl (lkF hF3) rfl (by decide)) ?_
  refine ao1 (by decide) (qh (v:=.pl _) rfl (lkF hF3) rfl rfl rfl) ?_
  refine Zsi ?_
  refine Zh ?_
  refine qb rfl rfl (fun hg5=>?_) (fun hg5=>?_)
  ·refine Zsj ?_
   refine Zsk ?_
   refine Zsl ?_
   refine Zsm ?_
   refine Z3q ?_
   refine qb rfl rfl (fun hg12=>?_) (fun hg12=>?_)
   ·refine Zsj ?_
    refine Zsk ?_
    refine Zsl ?_
    refine Zsm ?_
    refine Z3q ?_
    refine qb rfl rfl (fun hg19=>?_) (fun hg19=>?_)
    ·refine Zsj ?_
     refine q1j rfl rfl (by decide) (qh (v:=.pl _) rfl (lkF hF2) rfl rfl rfl) ?_
     refine Zsl ?_
     refine q1j rfl rfl (by decide) (qh (v:=.pl _) rfl (lkF hF3) rfl rfl rfl) ?_
     refine q6d rfl rfl (by decide) (V2.call (qeb _ _ _) rfl) ?_
     refine Zn ?_
     exact Zsn
    ·refine Z56 ?_
     exact Zsn
   ·refine Zq ?_
    exact Zso
  ·refine Zqb ?_
   exact Zso
 refine Zsb ?_
 refine qq 10 (.bool (decide (a.inst.graph=b.inst.graph)&&decide (a.inst.health=b.inst.health)&&decide (a.inst.lease=b.inst.lease)&&a.inst.til == b.inst.til&&a.inst.now == b.inst.now&&a.inst.policy == b.inst.policy&&a.inst.depth == b.inst.depth)) ?_ ?_
 ·refine Zim ?_
  refine Zqp ?_
  refine Zqq ?_
  refine Zsi ?_
  refine Zh ?_
  refine qb rfl rfl (fun hg5=>?_) (fun hg5=>?_)
  ·refine Zkl ?_
   refine Zsp ?_
   refine Zr6 ?_
   refine Zr7 ?_
   refine Zsq ?_
   refine Z34 ?_
   refine qb rfl rfl (fun hg12=>?_) (fun hg12=>?_)
   ·refine Zkl ?_
    refine Zsp ?_
    refine Zr6 ?_
    refine Zr7 ?_
    refine Zsq ?_
    refine Z34 ?_
    refine qb rfl rfl (fun hg19=>?_) (fun hg19=>?_)
    ·refine Zkl ?_
     refine Zsr ?_
     refine Zr6 ?_
     refine Zss ?_
     refine Z3q ?_
     refine qb rfl rfl (fun hg26=>?_) (fun hg26=>?_)
     ·refine Zkl ?_
      refine Zsr ?_
      refine Zr6 ?_
      refine Zss ?_
      refine Z3q ?_
      refine qb rfl rfl (fun hg33=>?_) (fun hg33=>?_)
      ·refine Zkl ?_
       refine Zsr ?_
       refine Zr6 ?_
       refine Zss ?_
       refine Z3q ?_
       refine qb rfl rfl (fun hg40=>?_) (fun hg40=>?_)
       ·refine Zkl ?_
        refine Zsr ?_
        refine Zr6 ?_
        refine Zss ?_
        refine Z3p ?_
        refine Zn ?_
        exact Zsn
       ·refine Z56 ?_
        exact Zsn
      ·refine Zq ?_
       exact Zso
     ·refine Zqb ?_
      exact Zso
    ·refine Zqc ?_
     exact Zso
   ·refine Zqd ?_
    exact Zso
  ·refine Zqd ?_
   refine Zcb ?_
   exact Zso
 generalize (decide (a.graph=b.graph)&&a.policy == b.policy&&a.depth == b.depth&&decide (a.log=b.log))=x1
 generalize (decide (a.inst.graph=b.inst.graph)&&decide (a.inst.health=b.inst.health)&&decide (a.inst.lease=b.inst.lease)&&a.inst.til == b.inst.til&&a.inst.now == b.inst.now&&a.inst.policy == b.inst.policy&&a.inst.depth == b.inst.depth)=x2
 refine Zsb ?_
 refine qq 4 (.bool (x1&&x2&&decide (a.inst.jobs=b.inst.jobs)&&decide (a.inst.table=b.inst.table))) ?_ ?_
 ·refine Z3j ?_
  refine qb rfl rfl (fun hg1=>?_) (fun hg1=>?_)
  ·refine Z25 ?_
   refine Z34 ?_
   refine qb rfl rfl (fun hg4=>?_) (fun hg4=>?_)
   ·refine Zkl ?_
    refine Zsp ?_
    refine Zr6 ?_
    refine Zr7 ?_
    refine Ze2 ?_
    refine q6d rfl rfl (by decide) (V2.call (qdc 45 a.inst.jobs b.inst.jobs (fun x hx y H=>qpx x y H (w8 x hx)) w5 _) rfl) ?_
    refine Z34 ?_
    refine qb rfl rfl (fun hg12=>?_) (fun hg12=>?_)
    ·refine Zkl ?_
     refine Zsp ?_
     refine Zr6 ?_
     refine Zr7 ?_
     refine Ze2 ?_
     refine q6d rfl rfl (by decide) (V2.call (qbq 43 a.inst.table b.inst.table (fun x hx y H=>qpy x y H (w7 x hx)) w6 _) rfl) ?_
     refine Zn ?_
     exact Zsn
    ·refine Z29 ?_
     refine Zt ?_
     exact Zsn
   ·refine Zo7 ?_
    refine Z29 ?_
    refine Zt ?_
    exact Zsn
  ·refine Z1x ?_
   refine Zh ?_
   refine Zo7 ?_
   refine Z29 ?_
   refine Zt ?_
   exact Zsn
 refine Zsb ?_
 rw [hs,List.append_nil]
 exact Zb
theorem RI.look {w:Inst} (h:RI w):RI (q5w w):=h.broken.refuse.begin
theorem RI.submit {i:Inst} (h:RI i) (s:Spec) {needs:List Int} (hn:needs.length≤1000000) (hl:i.jobs.length<1000000):RI (q3l i s needs).1:=by
 unfold q3l
 split
 ·exact h
 ·split
  ·exact h
  ·exact (h.jobs (h.jw.add s i.now hn hl)).look
theorem RI.act {i:Inst} (h:RI i) (id what:Int):RI (ido i id what).1:=by
 unfold ido
 split
 ·exact h
 ·split
  ·exact h
  ·exact (h.wdo _ _ _).look
theorem RI.tick {i:Inst} (h:RI i) (now:Int):RI (q8j i now).1:=by
 unfold q8j
 split
 ·exact h
 ·rw [← qst]
  exact (h.tck now _).look
theorem RI.lent {i:Inst} (h:RI i) {l:List Int} (til:Int) (hl:l.length≤1000000):RI (q9i i l til).1:=by
 unfold q9i
 split
 ·exact h
 ·exact (h.lend til hl).look
theorem RI.marked {i:Inst} (h:RI i) (n how:Int):RI (q8c i n how).1:=by
 unfold q8c
 split
 ·exact h
 ·split
  ·exact h
  ·exact (h.mark n how).look
theorem qrl (g:List Thing) (n:Int):(q68 g n).length≤g.length:=by
 unfold q68
 split
 ·exact qa7 _ _
 ·simp
theorem q11k (g:List Thing) (p d:Int) (hl:g.length≤1000000):RI (qiv g p d).1∧(qiv g p d).1.jobs=[]:=by
 have hu:=qrl g 0
 unfold qiv
 split
 ·refine ⟨⟨⟨?_,?_,?_,?_,?_,?_⟩,?_,?_⟩,rfl⟩<;>simp [qye]
 ·refine ⟨⟨⟨hl,by simpa using hl,Nat.le_trans hu hl,by simp,by simp,by simp⟩,by simp,by simp⟩,rfl⟩
theorem RI.step {i:Inst} (h:RI i) (o:OOp) (hn:o.needs.length≤1000000) (hs:o.set.length≤1000000) (hl:i.jobs.length<1000000):RI (q4i i o).1:=by
 unfold q4i
 split
 ·exact h.submit _ hn hl
 ·split
  ·exact h.act _ _
  ·split
   ·exact h.tick _
   ·split
    ·exact h.lent _ hs
    ·split
     ·exact h.marked _ _
     ·exact h
structure SG (s : Seat) : Prop where
 gs:GS s.inst
 ri:RI s.inst
 graph:s.graph.length≤1000000
 log:s.log.length≤1048576
theorem GS.jlen {i:Inst} (h:GS i):i.jobs.length≤64:=(jobs_iff.1 h.gj.ir.jobs).1
theorem SG.sw {s:Seat} (h:SG s):SW s:=⟨h.graph,by have:=h.log;omega,h.ri.iw,h.ri.jw⟩
theorem SG.do {s:Seat} (h:SG s) (o:OOp) (hn:o.needs.length≤1000000) (hs:o.set.length≤1000000):SG (sdo s o).1:=by
 have hj:=h.gs.jlen
 rcases qh4 s o with e | e
 ·rw [e.2];exact h
 ·rw [e.2.2.2.2]
  exact ⟨qua h.gs o,h.ri.step o hn hs (by omega),h.graph,by have:=e.2.2.1;simp only [List.length_append];exact this⟩
theorem SG.new {g:List Thing} {p d:Int} (h:(qdt g p d).2=0) (hl:g.length≤1000000):SG (qdt g p d).1:=by
 obtain ⟨e,h1⟩:=qpi h
 rw [e]
 exact ⟨q10z h1,(q11k g p d hl).1,hl,by simp⟩
theorem q12w (l:List (List UInt8)) {k:Nat} {x:List UInt8} (h:l[k]?=some x):(l.map eB)[k]?=some [.pl (x.map qz)]:=qk eB h
abbrev z13:List AV:=[.nsl,.int .i64 0,.int .i64 0,.nsl,.nsl,.nsl,.nsl,.int .i64 0,.nsl,.nsl,.int .i64 0,.int .i64 0,.int .i64 0]
theorem qun {n:Nat} (b:Seat):∀ o∈([⟨0,13,[z13]⟩,⟨0,13,[qa3 b]⟩]:qf),∀ r∈o.rows,AV.bels n r=true:=by
 intro o ho r hr
 simp only [List.mem_cons,List.not_mem_nil,or_false] at ho
 rcases ho with rfl | rfl<;>(simp only [List.mem_singleton] at hr;subst hr;rfl)
theorem q13i {α:Type} {l:List α} {k:Nat} {x:α} (h:l[k]?=some x):l.drop k=x :: l.drop (k+1):=by
 obtain ⟨h1,h2⟩:=List.getElem?_eq_some_iff.1 h
 rw [List.drop_eq_getElem_cons h1,h2]
theorem ql3:∀ es:List (List UInt8),es.length≤(qag es).length
 | []=>Nat.zero_le _
 | e :: es=>by
  have:=ql3 es
  have:=q72 e
  rw [q6z,List.length_append,List.length_cons];omega
structure GRa where
 k:Nat
 s:Seat
set_option maxHeartbeats 0 in
theorem qq8 (g:List Thing) (p d:Int) (b:List UInt8) (hl:g.length≤1000000) (hbl:b.length≤9000000) (H:qf):ACT Tryz.prog KD 21 [.pl (g.map qw),.int .i64 p,.int .i64 d,.pl (b.map qz)] H (Ret (.tup [.agg (qa3 (qd4 g p d b).1),.int .i64 (qd4 g p d b).2]) H):=by
 have hsg:=fun h=>SG.new (g:=g) (p:=p) (d:=d) h hl
 have hr:=qgk (g:=g) (p:=p) (d:=d)
 have hre:(qdt g p d).2≠0→qd4 g p d b=(q11n,(qdt g p d).2):=fun h=>by rw [qd4,if_pos h]
 have cn:=fun H=>qoy g p d hl H
 refine ACT.body (N:=61) [.cell 8 47,.tmp 9] Tryz.func21 rfl rfl rfl (Nat.le_of_ble_eq_true rfl) fun B hB=>?_
 refine Zsc ?_
 refine Z5w ?_
 refine Z4 ?_
 refine Zs2 ?_
 generalize qdt g p d=q at *
 obtain ⟨s0,e⟩:=q
 simp only at hsg hr hre cn
 refine Zsb ?_
 refine Zbe ?_
 refine Z2r ?_
 refine Zry ?_
 refine Zi5 ?_
 refine Zst ?_
 refine Zsb ?_
 refine Z6n ?_
 refine Z2l ?_
 refine qe ?_
 refine Zsb ?_
 refine qa rfl (fun hc=>?_) (fun hc=>?_)
 ·have he:e≠0:=by simpa using hc
  rw [hre he]
  refine Zsc ?_
  refine Zs3 ?_
  refine Z8 ?_
  refine Z68 ?_
  refine Zec ?_
  refine Zsb ?_
  exact Z6b
 have he:e=0:=by simpa using hc
 clear hc
 rw [hr he b]
 have hs0:=hsg he
 clear hr hre hsg cn
 have hes:∀ e∈(q6e b).1,e.length≤4096:=fun e he=>by
  have:=(ql0 b).1 e he
  simp only [okE,Bool.and_eq_true,decide_eq_true_eq] at this
  omega
 have hrl:(q6e b).1.length≤9000000:=by
  obtain ⟨_,h1,h2,_⟩:=ql0 b
  have h3:=congrArg List.length h2
  rw [List.length_append,← h1] at h3
  have:=ql3 (q6e b).1
  omega
 refine Zsb ?_
 refine Zbe ?_
 refine qu (qyi _ (by omega) _) rfl (by decide) ?_
 refine Zir ?_
 try dsimp only
 generalize (q6e b).1=es at *
 refine Zsb ?_
 refine Zbf ?_
 repeat (first | refine qec ?_ | refine qen ?_ | refine q7z ?_ | refine q7y ?_ | refine q5u ?_ | refine q9t ?_ | refine q7s ?_ | refine qaa ?_ | refine q7v rfl ?_ | refine q7w ?_ | refine q9y ?_ | refine qaj ?_ | refine q86 ?_ | refine q9x ?_ | refine q7k ?_ | refine q2z ?_)
 refine q7l (G:=GRa) (fun g=>SG g.s∧q5o s0 es=g.s) (fun g=>[(8,.pt (Lid H.length 0) 0 0 0),(10,.pt (Lid H.length 1) 0 0 0)]) (fun g=>H++[⟨0,13,[z13]⟩,⟨0,13,[qa3 g.s]⟩]) ?_ ?_
 ·repeat (first | refine qec ?_ | refine qen ?_ | refine q7z ?_ | refine q7y ?_ | refine q5u ?_ | refine q9t ?_ | refine q7s ?_ | refine qaa ?_ | refine q7v rfl ?_ | refine q7w ?_ | refine q9y ?_ | refine qaj ?_ | refine qb4 ?_ | refine q86 ?_ | refine q9x ?_ | refine q7k ?_)
  refine qm (G:=GRa) (fun q=>q.k≤es.length∧SG q.s∧q5o s0 es=q5o q.s (es.drop q.k)) (fun q=>[(KT,KD.av),(8,.pt (Lid H.length 0) 0 0 0),(10,.pt (Lid H.length 1) 0 0 0),(36,.pl (es.map eB)),(37,.int .i64 (es.length:Int)),(38,.int .i64 (q.k:Int))]) (fun q=>H++[⟨0,13,[z13]⟩,⟨0,13,[qa3 q.s]⟩]) (fun q=>es.length-q.k) ⟨0,s0⟩ ⟨Nat.zero_le _,hs0,rfl⟩ Y8 (.inl rfl) ?_
  rintro ⟨k,s⟩ ⟨i1,hs,i3⟩
  simp only at i1 hs i3 ⊢
  refine Zsc ?_
  refine Zjr ?_
  refine Zsb ?_
  refine qa rfl (fun hc=>?_) (fun hc=>?_)
  ·have hlt:k<es.length:=by simpa using hc
   clear hc
   obtain ⟨x,hx,hxl⟩:=qr hlt
   have hr:=q12w es hx
   have hxn:=hes x hxl
   have hst:q5o s (x :: es.drop (k+1))=if (q22 x).2≠0 then s else if (sdo s (q22 x).1).2.2≠0 then s else q5o (sdo s (q22 x).1).1 (es.drop (k+1)):=by rw [q5o]
   rw [q13i hx,hst] at i3
   have hro:=q9u x
   have cr:=fun H=>qem x (by omega) H
   clear hst
   generalize q22 x=y at *
   obtain ⟨o,e1⟩:=y
   simp only at i3 hro cr
   refine Zsc ?_
   refine Z4s ?_
   refine ao1 (by decide) (q29 (v:=.pl _) rfl hr rfl) ?_
   refine Zmt ?_
   refine Zsb ?_
   refine Zbe ?_
   refine Zqz ?_
   refine Zi5 ?_
   refine Zbg ?_
   refine Zsb ?_
   refine Z6n ?_
   refine Z2l ?_
   refine qe ?_
   refine Zsb ?_
   refine qa rfl (fun hc=>?_) (fun hc=>?_)
   ·have h1:e1≠0:=by simpa using hc
    rw [if_pos h1] at i3
    refine Zsb ?_
    exact q1p ⟨0,s⟩ ⟨hs,i3⟩ Y8 (Fit.loc hB (G:=[⟨0,13,[eOp o]⟩]) rfl Y1 (qun _))
   have h1:e1=0:=by simpa using hc
   clear hc
   rw [if_neg (by omega)] at i3
   have hsd:=hs.do o (by omega) hro.2
   have cd:=fun H=>qw7 s o hs.sw hs.ri (by have:=hs.gs.jlen;omega) (by omega) hro.2 H
   generalize sdo s o=z at *
   obtain ⟨s2,id,e2⟩:=z
   simp only at i3 hsd cd
   refine Zsc ?_
   refine Z3u ?_
   refine Z3u ?_
   refine ao2 Y1k (V2.callT (cd _) rfl rfl) ?_
   refine Zi3 ?_
   refine Z14 ?_
   refine Zfy ?_
   refine Z15 ?_
   refine Zst ?_
   refine Zsb ?_
   refine Z6n ?_
   refine Z2l ?_
   refine qe ?_
   refine Zsb ?_
   refine qa rfl (fun hc=>?_) (fun hc=>?_)
   ·have h2:e2≠0:=by simpa using hc
    rw [if_pos h2] at i3
    refine Zsb ?_
    exact q1p ⟨0,s⟩ ⟨hs,i3⟩ Y8 (Fit.loc hB (G:=[⟨0,13,[eOp o]⟩,⟨0,13,[qa3 s2]⟩]) rfl Y1 (qun _))
   have h2:e2=0:=by simpa using hc
   clear hc
   rw [if_neg (by omega)] at i3
   refine Zsc ?_
   refine Z3u ?_
   refine Zhn ?_
   refine Z69 ?_
   refine Zsc ?_
   refine Zov ?_
   refine Z4n ?_
   refine Zsb ?_
   exact ⟨⟨k+1,s2⟩,by simp only;omega,⟨by simp only;omega,hsd,i3⟩,Y8,Fit.loc hB (G:=[⟨0,13,[eOp o]⟩,⟨0,13,[qa3 s2]⟩]) rfl Y1 (qun _)⟩
  ·have:k=es.length:=by simp at hc;omega
   subst this
   rw [List.drop_length,q5o] at i3
   refine Zsb ?_
   exact q1p ⟨0,s⟩ ⟨hs,i3⟩ Y8 (.inl rfl)
 rintro ⟨k,s⟩ ⟨hs,e2⟩
 simp only at hs e2 ⊢
 rw [e2]
 refine Zsc ?_
 refine Z3u ?_
 refine Z68 ?_
 try dsimp only [List.cons_append,List.nil_append,put,List.set_cons_zero]
 refine Zsb ?_
 exact Z6b
def g3:List Thing:=[⟨0,-1,ByteArray.empty⟩,⟨2,0,ByteArray.empty⟩,⟨3,1,ByteArray.empty⟩]
def aw1:Seat:=(qdt g3 1 0).1
def awo:OOp:=⟨1,⟨1,1,0,ByteArray.empty,false,5,0⟩,[],0,0,0,[]⟩
def aw2:Seat:=(sdo aw1 awo).1
def awt:OOp:=⟨3,q2e,[],0,0,5,[]⟩
theorem qw1:(qdt g3 1 0).2=0:=by decide +kernel
theorem q106:(sdo aw1 awo).2=(1,0):=by decide +kernel
theorem q13y:aw2.inst.table.length=1:=by decide +kernel
theorem q148:aw2.log.length≤1000:=by decide +kernel
theorem aw1_sg:SG aw1:=SG.new qw1 (by decide)
theorem aw2_sg:SG aw2:=aw1_sg.do awo (by decide) (by decide)
theorem q12x:q6f awt=([3,0,0,0,0,0,0,0,5],0):=by decide +kernel
theorem qza:qd4 g3 1 0 aw2.log=(aw2,0):=by
 have h:Tr aw1 [awo] aw2:=.cons (by rw [q106]) (.nil _)
 have:=qti (g:=g3) (p:=1) (d:=0) qw1 h (more:=[]) (by rw [qf1 (by simp)])
 rwa [List.append_nil] at this
set_option maxHeartbeats 0 in
theorem qmc (H:qf):ACT Tryz.prog KD 8 [] H (Ret (.bool true) H):=by
 have c1:=fun H=>qoy g3 1 0 (by decide) H
 rw [qw1,show (qdt g3 1 0).1=aw1 from rfl] at c1
 have c2:=fun H=>qw7 aw1 awo aw1_sg.sw aw1_sg.ri (by have:=aw1_sg.gs.jlen;omega) (by decide) (by decide) H
 rw [show (sdo aw1 awo).1=aw2 from rfl,q106] at c2
 have c3:=fun H=>qq8 g3 1 0 aw2.log (by decide) (by have:=q148;omega) H
 rw [qza] at c3
 have c4:=fun H=>qj2 awt (by decide) (by decide) H
 rw [q12x] at c4
 have c5:=fun H=>qt8 aw2 aw2 aw2_sg.sw H
 rw [decide_eq_true rfl] at c5
 have ht:=q13y
 have hb8:(([3,0,0,0,0,0,0,0,5]:List UInt8).map qz)[(8:Int).toNat]?=some (qz 5):=rfl
 refine ACT.body (N:=80) [.tmp 0] Tryz.func8 rfl rfl rfl (Nat.le_of_ble_eq_true rfl) fun B hB=>?_
 refine Z1o ?_
 refine Z2 ?_
 refine Zsu ?_
 refine Zsu ?_
 refine Zsu ?_
 refine ao2 Y1k (qpb (g3.map qw) rfl (by decide) (by decide) (by decide) rfl rfl (by simp [g3]) rfl (by simp [g3,AV.bels,AV.bel])) ?_
 refine Zmt ?_
 refine Zsv ?_
 refine Z45 ?_
 refine Zrz ?_
 refine Zi5 ?_
 try dsimp only [List.cons_append,List.nil_append,put,List.length_nil,List.set_cons_zero]
 refine Z3v ?_
 refine Zpj ?_
 refine Zqe ?_
 refine ao2 Y1k (V2.callT (c2 _) rfl rfl) ?_
 refine Zi3 ?_
 refine Z14 ?_
 refine Z67 ?_
 refine Z15 ?_
 try dsimp only [List.cons_append,List.nil_append,AV.up,put,List.set_cons_zero]
 refine Z45 ?_
 refine Z4i ?_
 refine ao2 Y1k (V2.callT (c3 _) rfl rfl) ?_
 refine Zi5 ?_
 try dsimp only [List.cons_append,List.nil_append,Nat.reduceAdd,put,List.length_cons,List.length_nil,List.set_cons_zero,List.set_cons_succ]
 refine Z2 ?_
 refine Zqe ?_
 refine Z6d ?_
 refine Zir ?_
 refine Zsv ?_
 refine Z1 ?_
 refine qq 0 (.bool true) ?_ ?_
 ·refine Z5q ?_
  refine qb rfl rfl (fun hg2=>?_) (fun hg2=>?_)
  ·refine Zj ?_
   refine Z3q ?_
   refine qb rfl rfl (fun hg6=>?_) (fun hg6=>?_)
   ·refine Zj ?_
    refine Z3q ?_
    refine qb rfl rfl (fun hg10=>?_) (fun hg10=>?_)
    ·refine Zj ?_
     refine Z3q ?_
     refine qb rfl rfl (fun hg14=>?_) (fun hg14=>?_)
     ·refine Z5i ?_
      refine Z5i ?_
      refine q6d rfl rfl (by decide) (V2.call (c5 _) rfl) ?_
      refine Z34 ?_
      refine qb rfl rfl (fun hg19=>?_) (fun hg19=>?_)
      ·refine Z31 ?_
       refine Zc7 ?_
       refine Z9q ?_
       refine Z3q ?_
       refine qb rfl rfl (fun hg26=>?_) (fun hg26=>?_)
       ·refine Zj ?_
        refine Z3q ?_
        refine qb rfl rfl (fun hg30=>?_) (fun hg30=>?_)
        ·refine Z9r ?_
         refine Z3q ?_
         refine qb rfl rfl (fun hg35=>?_) (fun hg35=>?_)
         ·refine Z9p ?_
          refine q1j rfl rfl (by decide) (q4n rfl rfl (by decide) hb8 rfl) ?_
          refine q1j rfl rfl (by decide) (q29 (v:=.int _ _) rfl hb8 rfl) ?_
          refine Z3p ?_
          refine Zn ?_
          exact Z10
         ·refine Zq ?_
          exact Zsw
        ·refine Zcb ?_
         exact Zsw
       ·exact Zsy
      ·refine Zq ?_
       refine Z37 ?_
       exact Zsy
     ·refine Zcb ?_
      refine Z37 ?_
      exact Zsy
    ·refine Zsx ?_
     refine Z37 ?_
     exact Zsy
   ·refine Z5n ?_
    refine Zsx ?_
    refine Z37 ?_
    exact Zsy
  ·refine Z5n ?_
   refine Z5n ?_
   refine Zsx ?_
   refine Z37 ?_
   exact Zsy
 exact Z20
theorem q11w {p:OOp} (h:q3q p=true) (h2:q41 p=p):p.spec.tag.size≤9223372036854775807:=by
 rcases qhn h with e | e | e | e | e
 ·unfold q3q at h
  rw [if_pos e] at h
  simp only [Bool.and_eq_true,q1c,q9g,decide_eq_true_eq] at h
  have:=h.1.1.1.1.2.1
  omega
 all_goals
  unfold q41 at h2
  simp only [e] at h2
  rw [← h2]
  exact Nat.zero_le _
set_option maxHeartbeats 0 in
theorem qeg (o:OOp) (b:List UInt8) (ht:o.spec.tag.size≤9223372036854775807) (H:qf):ACT Tryz.prog KD 3 [.agg (eOp o),.pl (b.map qz)] H (Ret (.bool true) H):=by
 refine ACT.body (N:=95) [.tmp 4] Tryz.func3 rfl rfl rfl (Nat.le_of_ble_eq_true rfl) fun B hB=>?_
 refine Z4g ?_
 refine Z2w ?_
 refine Z2 ?_
 refine ao2 Y1k (V2.callT (qmc _) rfl rfl) ?_
 refine Z19 ?_
 refine Z48 ?_
 refine qa rfl (fun hc=>?_) (fun hc=>?_)
 ·simp at hc
 clear hc
 refine Z3v ?_
 refine qu (qmn _ _) rfl (by decide) ?_
 refine Z3x ?_
 refine qa rfl (fun hc=>?_) (fun hc=>?_)
 ·exact Z53
 have hsh:o.needs.length≤20∧o.set.length≤60:=by simpa using hc
 clear hc
 have c1:=fun H=>qj2 o (by omega) (by omega) H
 have c2:=fun H=>ql4 o ht (by omega) (by omega) H
 have hput:q6f o=if q3q o then (q38 o,0) else ([],1):=rfl
 refine Z3v ?_
 refine Zrz ?_
 refine Zn6 ?_
 refine Z3v ?_
 refine ao2 Y1k (V2.call (c2 _) rfl) ?_
 refine Zn6 ?_
 refine Z1 ?_
 refine qq 39 (.bool false) ?_ ?_
 ·refine Z44 ?_
  refine Zra ?_
  refine Z44 ?_
  refine Zra ?_
  refine ao1 (by decide) (q132 rfl rfl) ?_
  refine Zh ?_
  refine qb rfl rfl (fun hg5=>?_) (fun hg5=>?_)
  ·refine Z3n ?_
   exact qe (Out.mk (by (refine congrArg AV.bool ?_;(clear hB c1 c2;(exfalso;simp at *;done)))) Yb)
  ·refine Z2s ?_
   refine Zll ?_
   refine Zr ?_
   exact qe (Out.mk (by (refine congrArg AV.bool ?_;(clear hB c1 c2;(simp;done)))) Yb)
 refine Z1 ?_
 refine qa rfl (fun hc=>?_) (fun hc=>?_)
 ·cases hc
 clear hc
 have hb10:(b.take (min b.length 1000)).length≤1000:=by rw [List.length_take];omega
 have ctx:∀ (L:qf) (c:List UInt8) (x:Int) (env:Env),True:=fun _ _ _ _=>trivial
 clear ctx
 have hmr:q3q o=true→q22 (q38 o)=(q41 o,0)∧(q38 o).length≤1100∧(q41 o).needs.length≤20∧(q41 o).set.length≤1000000:=fun h=>by
  have h1:=qcg h
  have h2:=q9u (q38 o)
  rw [h1] at h2
  exact ⟨h1,(qao h).2,h2⟩
 have hro:=qlf (b.take (min b.length 1000))
 have hri:=fun h=>q6y (b:=b.take (min b.length 1000)) (o:=(q22 (b.take (min b.length 1000))).1) (Prod.ext rfl h)
 have hrn:=q9u (b.take (min b.length 1000))
 have cr:=fun H=>qem (b.take (min b.length 1000)) (by omega) H
 have cp:=fun ht2 H=>ql4 (q22 (b.take (min b.length 1000))).1 ht2 (by omega) (by omega) H
 generalize hy:q22 (b.take (min b.length 1000))=y at *
 obtain ⟨p,f⟩:=y
 simp only at hro hri hrn cr cp
 refine Z17 ?_
 refine q7l (G:=U1) (fun _=>True) (fun _=>[(1,.pl (b.map qz))]) (fun _=>H++[]) ?_ ?_
 ·cases hm:q3q o with
  | false =>
   rw [show q6f o=([],1) by rw [hput,hm];rfl]
   refine qa rfl (fun hc=>?_) (fun hc=>?_)
   ·simp at hc
   ·refine Z1 ?_
    exact q1p ⟨⟩ trivial Y8 (Fit.loc hB (G:=[⟨0,13,[eOp o]⟩]) rfl Y1 (fun a ha=>by cases ha))
  | true =>
   rw [show q6f o=(q38 o,0) by rw [hput,hm];rfl]
   obtain ⟨h1,h2,h3,h4⟩:=hmr hm
   have c3:=fun H=>qem (q38 o) (by omega) H
   rw [h1] at c3
   refine qa rfl (fun hc=>?_) (fun hc=>?_)
   ·refine Z45 ?_
    refine ao2 Y1k (V2.call (c3 _) rfl) ?_
    refine Zi5 ?_
    refine Zbg ?_
    refine Z1 ?_
    refine q20 55 (.bool false) ?_ ?_
    ·refine Z7w ?_
     refine Z7x ?_
     refine Z7c ?_
     refine aq0 1 rfl Y1q (by decide) (fun _=>qyz rfl rfl) ?_
     refine Z7k ?_
     refine q13 (g:=49) rfl (fun hg2=>?_) (fun hg2=>?_)
     ·refine q15 (g:=49) 3 rfl Y1q (by decide) rfl rfl rfl ?_
      refine q15 (g:=49) 4 rfl Y1q (by decide) rfl rfl rfl ?_
      refine q15 (g:=49) 5 rfl Y1q (by decide) rfl rfl rfl ?_
      refine q15 (g:=49) 6 rfl Y1q (by decide) rfl rfl rfl ?_
      refine q15 (g:=49) 7 rfl Y1q (by decide) rfl rfl rfl ?_
      refine Za8 ?_
      exact Zsz
     ·refine q31 (g:=49) 3 rfl Y1q (by decide) rfl rfl (fun G=>q1q rfl (lk rfl rfl) rfl rfl rfl) ?_
      refine q31 (g:=49) 4 rfl Y1q (by decide) rfl rfl (fun G=>q1q rfl (lk rfl rfl) rfl rfl rfl) ?_
      refine qbg (g:=49) 5 rfl Y1q (by decide) rfl rfl (fun _=>V2.call (qfh o _) rfl) ?_
      refine qbg (g:=49) 6 rfl Y1q (by decide) rfl rfl (fun _=>V2.call (q8i (q41 o) (q41 o) (by omega) (by omega) (by omega) (by omega) _) rfl) ?_
      refine q2l (g:=49) 7 rfl Y1q (by decide) rfl rfl (fun _=>qc1 rfl) ?_
      refine Zb5 ?_
      exact Zsz
    refine Z1 ?_
    refine qa rfl (fun hc=>?_) (fun hc=>?_)
    ·cases hc
    ·refine Z1 ?_
     exact q1p ⟨⟩ trivial Y8 (Fit.loc hB (G:=[⟨0,13,[eOp o]⟩,⟨0,13,[eOp (q41 o)]⟩]) rfl Y1 (fun a ha=>by cases ha))
   ·simp at hc
 rintro ⟨⟩ _
 refine Z45 ?_
 refine Z6t ?_
 refine ao1 (by decide) (q10x (r:=((min b.length 1000:Nat):Int)) rfl rfl (by rw [List.length_map];omega)) ?_
 refine ao1 (by decide) (qbk (ys:=(b.take (min b.length 1000)).map qz) rfl (Bd.some rfl rfl) (by rw [List.length_map];omega) (qo _) (by rw [List.map_take])) ?_
 refine Zmt ?_
 refine Z45 ?_
 refine Zqz ?_
 refine Zi5 ?_
 refine Z9x ?_
 refine Z8m ?_
 refine qa rfl (fun hc=>?_) (fun hc=>?_)
 ·have hf:f≠0:=by simpa using hc
  have hpe:p=op0∧f=3:=by
   rcases hro with e | e
   ·exact absurd e hf
   ·exact ⟨congrArg Prod.fst e,congrArg Prod.snd e⟩
  obtain ⟨rfl,rfl⟩:=hpe
  refine Z1 ?_
  refine qq 4 (.bool true) ?_ ?_
  ·refine Z5q ?_
   refine qb rfl rfl (fun hg2=>?_) (fun hg2=>?_)
   ·refine Z5i ?_
    refine q1j rfl rfl (by decide) (V1.up (q3w (cs:=[.int _ _,.int _ _,.int _ _,.int _ _,.str _,.bool _,.int _ _,.int _ _,_,.int _ _,.int _ _,.int _ _,_]) rfl)) ?_
    refine q6d rfl rfl (by decide) (V2.call (q8i op0 op0 (by decide) (by decide) (by decide) (by decide) _) rfl) ?_
    refine Zn ?_
    exact Z10
   ·refine Z1z ?_
    exact qe (Out.mk (by (refine congrArg AV.bool ?_;(clear hB c1 c2 cr cp;(exfalso;simp at *;done)))) Yb)
  exact Z20
 have hf:f=0:=by simpa using hc
 clear hc
 subst hf
 obtain ⟨m1,m2,m3⟩:=hri rfl
 have htp:p.spec.tag.size≤9223372036854775807:=q11w m1 m3
 have cp2:=cp htp
 rw [show q6f p=(b.take (min b.length 1000),0) by rw [q6f,m1,m2];rfl] at cp2
 refine Z3v ?_
 refine ao2 Y1k (V2.call (cp2 _) rfl) ?_
 refine Zn6 ?_
 have cpl:=fun H=>qfh p H
 rw [m3] at cpl
 refine Z1 ?_
 refine q20 4 (.bool true) ?_ ?_
 ·refine Za0 ?_
  refine Z7c ?_
  refine aq0 1 rfl Y1q (by decide) (fun _=>o_eq rfl rfl) ?_
  refine Z7k ?_
  refine q13 (g:=82) rfl (fun hg2=>?_) (fun hg2=>?_)
  ·refine q2l (g:=82) 3 rfl Y1q (by decide) rfl rfl (fun _=>qi (v:=.pl _) rfl) ?_
   refine q2l (g:=82) 4 rfl Y1q (by decide) rfl rfl (fun _=>q9d rfl) ?_
   refine q2l (g:=82) 5 rfl Y1q (by decide) rfl rfl (fun _=>qi (v:=.pl _) rfl) ?_
   refine q2l (g:=82) 6 rfl Y1q (by decide) rfl rfl (fun _=>q9d rfl) ?_
   refine q2l (g:=82) 7 rfl Y1q (by decide) rfl rfl (fun _=>qzr rfl rfl) ?_
   refine Za8 ?_
   refine Za9 ?_
   refine q13 (g:=89) rfl (fun hg9=>?_) (fun hg9=>?_)
   ·refine q31 (g:=89) 10 rfl Y1q (by decide) rfl rfl (fun G=>q1q rfl (lk rfl rfl) rfl rfl rfl) ?_
    refine q31 (g:=89) 11 rfl Y1q (by decide) rfl rfl (fun G=>q1q rfl (lk rfl rfl) rfl rfl rfl) ?_
    refine qbg (g:=89) 12 rfl Y1q (by decide) rfl rfl (fun _=>V2.call (cpl _) rfl) ?_
    refine qbg (g:=89) 13 rfl Y1q (by decide) rfl rfl (fun _=>V2.call (q8i p p (by omega) (by omega) (by omega) (by omega) _) rfl) ?_
    refine aq0 14 rfl Y1q (by decide) (fun _=>q1n (v:=.bool _) rfl rfl) ?_
    refine Zt0 ?_
    exact q1y Y1q Y1b (Out.mk (by (refine congrArg AV.bool ?_;(clear hB c1 c2 cr cp cp2 cpl hri;(simp;done)))) Yb)
   ·refine Zt1 ?_
    refine Zt2 ?_
    refine Zt3 ?_
    refine Zt4 ?_
    refine Zt5 ?_
    refine Zt0 ?_
    exact Zt6
  ·refine q15 (g:=82) 3 rfl Y1q (by decide) rfl rfl rfl ?_
   refine q15 (g:=82) 4 rfl Y1q (by decide) rfl rfl rfl ?_
   refine q15 (g:=82) 5 rfl Y1q (by decide) rfl rfl rfl ?_
   refine q15 (g:=82) 6 rfl Y1q (by decide) rfl rfl rfl ?_
   refine q15 (g:=82) 7 rfl Y1q (by decide) rfl rfl rfl ?_
   refine Zb5 ?_
   refine Za9 ?_
   refine Zt1 ?_
   refine Zt2 ?_
   refine Zt3 ?_
   refine Zt4 ?_
   refine Zt5 ?_
   refine Zt0 ?_
   exact Zt6
 exact Z20
end Go.Av
namespace Go.Av
open Go.RowKit
theorem q11g {P:Program} {w:World} {K:Know} {f:FuncId} {avs:List AV} {us:List Value} {bb:Bool} (h:ACT P K f avs [] (Ret (.bool bb) [])) (hk:Kn K [] w) (hv:All2 (VR (own []) w []) avs us):Calls P f us.toArray w fun e w'=>e = .returned (.bool bb)∧Below w.heap.size w w':=by
 refine (h [] w us.toArray hk ⟨rfl,fun _ _ _ h=>by simp at h,fun _ _ _ _ _ h=>by simp at h⟩ hv.vrs).mono fun e w'=>?_
 rintro ⟨o,H',S',⟨rfl,rfl⟩,ho,hh,hx⟩
 cases ho with
 | ret hb =>
  cases hb
  exact ⟨rfl,hx.os,hx.tape,hx.output,hx.stp.size,fun k hk=>(hx.stp.old k hk (by rintro ⟨i,s,hs,_⟩;simp at hs)).2⟩
theorem qus {P:Program} {W:World} {name:String} {k:IntKind} {zs:List Int} {g:Nat} {K:Know} (hg:P.globalNamed name=some g) (hz:zs≠[]) (hK:K=⟨g,zs.map fun z=>Value.int k z⟩) (h:Lib.TabIs P W name k zs):Kn K [] W:=by
 subst hK
 have hc:∀ j v,(zs.map fun z=>Value.int k z)[j]?=some v→W.cell? ⟨g,j,none⟩=some v:=by
  intro j v hj
  have:=World.var?_cell hg h j
  rw [this]
  simpa using hj
 have hx:∃ ty fz,W.heap[g]?=some (Obj.cells (zs.map fun z=>Value.int k z).toArray ty fz):=by
  unfold Lib.TabIs World.var? at h
  rw [hg] at h
  simp only [Option.bind_some] at h
  split at h
  ·rename_i cs ty fz e
   obtain rfl:=Option.some.inj h
   exact ⟨ty,fz,e⟩
  ·cases h
 refine ⟨by rintro ⟨i,s,hs,_⟩;simp at hs,?_,hc,hx⟩
 clear hx
 cases zs with
 | nil=>exact absurd rfl hz
 | cons z zs =>
  have h0:=hc 0 _ rfl
  show g<W.heap.size
  rcases Nat.lt_or_ge g W.heap.size with h1 | h1
  ·exact h1
  ·exfalso
   simp [World.cell?,Array.getElem?_eq_none h1] at h0
end Go.Av
namespace Go.Av
open Go.Proofs Go.Proofs.YtpidemmdmmgalaaGreatDoor
open Go.RowKit
theorem qky (n:Nat) (hts:q53 Tryz.prog (n+1+1) 3=some [3]) {a:AV} (h:q4c Tryz.prog (n+1+1) 24 a):∃ l:List Int,a = .pl (l.map eI):=by
 obtain ⟨rows,rfl,_,h3⟩:=qvl (SlI.ud (P:=Tryz.prog) (t:=24)) hts h
 obtain ⟨l,rfl⟩:=qil (e:=eI) (rows:=rows) fun r hr=>by
  have h:=h3 r hr
  obtain ⟨a1,r,rfl,h1,h⟩:=q3n h
  obtain rfl:=qnp h
  obtain ⟨i1,rfl,_⟩:=q4w (UdI.ud (P:=Tryz.prog) (t:=3)) h1
  exact ⟨i1,rfl⟩
 exact ⟨l,rfl⟩
theorem q11c (n:Nat) (hts:q53 Tryz.prog (n+1+1) 3=some [3]) {r:List AV} (h:ql1 Tryz.prog (n+1+1) [3,3,3,3,9,4,2,3,24,3,3,2,24] r):∃ x:OOp,r=eOp x∧x.spec.tag.size≤9223372036854775807:=by
 obtain ⟨a0,r,rfl,h0,h⟩:=q3n h
 obtain ⟨a1,r,rfl,h1,h⟩:=q3n h
 obtain ⟨a2,r,rfl,h2,h⟩:=q3n h
 obtain ⟨a3,r,rfl,h3,h⟩:=q3n h
 obtain ⟨a4,r,rfl,h4,h⟩:=q3n h
 obtain ⟨a5,r,rfl,h5,h⟩:=q3n h
 obtain ⟨a6,r,rfl,h6,h⟩:=q3n h
 obtain ⟨a7,r,rfl,h7,h⟩:=q3n h
 obtain ⟨a8,r,rfl,h8,h⟩:=q3n h
 obtain ⟨a9,r,rfl,h9,h⟩:=q3n h
 obtain ⟨a10,r,rfl,h10,h⟩:=q3n h
 obtain ⟨a11,r,rfl,h11,h⟩:=q3n h
 obtain ⟨a12,r,rfl,h12,h⟩:=q3n h
 obtain rfl:=qnp h
 obtain ⟨i0,rfl,_⟩:=q4w (UdI.ud (P:=Tryz.prog) (t:=3)) h0
 obtain ⟨i1,rfl,_⟩:=q4w (UdI.ud (P:=Tryz.prog) (t:=3)) h1
 obtain ⟨i2,rfl,_⟩:=q4w (UdI.ud (P:=Tryz.prog) (t:=3)) h2
 obtain ⟨i3,rfl,_⟩:=q4w (UdI.ud (P:=Tryz.prog) (t:=3)) h3
 obtain ⟨i4,rfl,hs⟩:=qx5 (UdI.ud (P:=Tryz.prog) (t:=9)) h4
 obtain ⟨i5,rfl⟩:=quf (UdI.ud (P:=Tryz.prog) (t:=4)) h5
 obtain ⟨i6,rfl,_⟩:=q4w (UdI.ud (P:=Tryz.prog) (t:=2)) h6
 obtain ⟨i7,rfl,_⟩:=q4w (UdI.ud (P:=Tryz.prog) (t:=3)) h7
 obtain ⟨i8,rfl⟩:=qky n hts h8
 obtain ⟨i9,rfl,_⟩:=q4w (UdI.ud (P:=Tryz.prog) (t:=3)) h9
 obtain ⟨i10,rfl,_⟩:=q4w (UdI.ud (P:=Tryz.prog) (t:=3)) h10
 obtain ⟨i11,rfl,_⟩:=q4w (UdI.ud (P:=Tryz.prog) (t:=2)) h11
 obtain ⟨i12,rfl⟩:=qky n hts h12
 exact ⟨⟨i0,⟨i1,i2,i3,i4,i5,i6,i7⟩,i8,i9,i10,i11,i12⟩,rfl,hs⟩
theorem q13g {r:List AV} (h:ql1 Tryz.prog 4 [3,3,3,3,9,4,2,3,24,3,3,2,24] r):∃ x:OOp,r=eOp x∧x.spec.tag.size≤9223372036854775807:=q11c 2 Y1z h
theorem qrx {a:AV} (h:q4c Tryz.prog 4 27 a):∃ b:List UInt8,a = .pl (b.map qz):=qqd (SlI.ud (P:=Tryz.prog) (t:=27)) (UdI.ud (P:=Tryz.prog) (t:=5)) h
abbrev qto : List (String × DataW Unit) := [("math/bits.deBruijn64tab", Rows.laid_math_bits_deBruijn64tab)]
theorem q10w {W:World} (h:laidMetH Tryz.prog qto W):Kn KD [] W:=by
 rw [MakeChecks.laidMetH_plain _ _ _ Y1z] at h
 have hg : Tryz.prog.globalNamed "math/bits.deBruijn64tab" = some 1 := by kernel_rfl
 have h2 : Lib.TabIs Tryz.prog W "math/bits.deBruijn64tab" .u8 (Lib.deBruijn64tab.map fun n : Nat => (n : Int)) :=
  Lib.tabIs_of_head (rest:=[]) (t:=290) (e:=5) (n:=64) hg Y1z Y1z Y1z Y1z Y1z h
 exact qus hg (by decide) (by unfold KD;rw [List.map_map];rfl) h2
theorem qz0 (os:Os) (args:Array Value):laidMetH Tryz.prog qto ((World.doorLaid Tryz.prog 400 os).forCall (fun _ _=>0) ⟨#[],args,[]⟩).memory :=
 laidMetH_of_parts3 (fuel:=8) (laidMet_of_run' 8 Y1z Y1z) Y1z Y1z
end Go.Av
