/- Parts of the proof: rules for an abstract memory, plain laws, and walks through the program. -/
import Derived.Test.YtpidemmdmmgalaaGreatDoorSeatP0
import Derived.Test.YtpidemmdmmgalaaGreatDoorSeatP4
import Derived.Test.YtpidemmdmmgalaaGreatDoorSeatP3
import Derived.Test.YtpidemmdmmgalaaGreatDoorSeatP2
import Derived.Test.YtpidemmdmmgalaaGreatDoorSeatP1
import Derived.Lib.Join
import Derived.Lib.ItoaNum
import Derived.Lib.AtoiAll
import Derived.Lib.Bytealg
import Derived.Lib.LaidTab
import Derived.LaidMore
import Derived.Handed
import Derived.Test.YtpidemmdmmgalaaGreatDoorRows
set_option maxRecDepth 10000
set_option linter.unusedVariables false
set_option linter.unusedSimpArgs false
namespace Go.Av
open Go.Proofs
def qyj {α:Type} (x:Except Int (α×List UInt8)):Except Int (List UInt8):=match x with
 | .ok (_,r)=>.ok r
 | .error e=>.error e
theorem qxn {H L:qf} (h:HBel H.length H) (hL:∀ o∈L,∀ r∈o.rows,AV.bels (H++L).length r=true):HBel (H++L).length (H++L):=by
 intro x hx r hr
 rcases List.mem_append.1 hx with h1 | h1
 ·exact AV.bels_mono Y14 r (h x h1 r hr)
 ·exact hL x h1 r hr
theorem qxp (n:Nat) (s t:Spec):∀ o∈[AObj.mk 0 7 [q1k s],AObj.mk 0 7 [q1k t]],∀ r∈o.rows,AV.bels n r=true:=by
 intro o ho r hr
 simp only [List.mem_cons,List.not_mem_nil,or_false] at ho
 rcases ho with rfl | rfl<;>(simp only [List.mem_singleton] at hr;subst hr;rfl)
theorem qqc (b:List UInt8) (H:qf) (lid gl:Nat) (x s:Spec) (hlid:H[lid]?=some ⟨gl,7,[q1k x]⟩) (hl:∀ s' r,q3q b = .ok (s',r)→s'=s) :
  AC Tryz.prog 122 [.pt (H.length+1) 0 0 0,.pt lid gl 0 0] (H++[⟨0,1,[[.int .i64 0]]⟩,⟨0,1,[[.pl (b.map q15)]]⟩]) (rdC H (H.set lid ⟨gl,7,[q1k s]⟩) (qyj (q3q b))):=by
 have hlt:lid<H.length:=(List.getElem?_eq_some_iff.1 hlid).1
 have hid:H.length+1<(H++[AObj.mk 0 1 [[.int .i64 0]],AObj.mk 0 1 [[.pl (b.map q15)]]]).length:=by simp
 have cs:=qr4 b (H.length+1) 0
 suffices h:AC Tryz.prog 122 [.pt (H.length+1) 0 0 0,.pt lid gl 0 0] (Hs (H++[⟨0,1,[[.int .i64 0]]⟩,⟨0,1,[[.pl (b.map q15)]]⟩]) (H.length+1) 0 b) (rdC H (H.set lid ⟨gl,7,[q1k s]⟩) (qyj (q3q b))) by
  rwa [qda] at h
 cases hr:q3q b with
 | error e =>
  rw [hr] at cs
  refine AC.body (N:=5) [] Tryz.func122 rfl rfl rfl (Nat.le_of_ble_eq_true rfl) fun B hB=>?_
  refine Zid ?_
  refine q3i rfl (by decide) hid cs Y1k (by rintro e r e1;cases e1;(repeat (fail));exact qsi hB ⟨rfl,r,qda _ _ _ _⟩ rfl (by rw [q3v,q3v]) (by have:=qgr hB.heap (H.length+1) 0 r;rwa [qj0] at this))
 | ok y =>
  obtain ⟨s',r⟩:=y
  rw [hr] at cs
  obtain rfl:=hl s' r hr
  refine AC.body (N:=5) [] Tryz.func122 rfl rfl rfl (Nat.le_of_ble_eq_true rfl) fun B hB=>?_
  have hF:(Hs (H++[⟨0,1,[[.int .i64 0]]⟩,⟨0,1,[[.pl (b.map q15)]]⟩]) (H.length+1) 0 r)[lid]?=some ⟨gl,7,[q1k x]⟩:=by
   rw [qda,List.getElem?_append_left hlt];exact hlid
  refine Zid ?_
  refine q3i rfl (by decide) hid cs (fun v r' e=>?_) Y1h;cases e
  refine ao2 Y21 (q1a (sz:=7) (v:=.agg (q1k s')) (r':=q1k s') rfl hF rfl rfl rfl rfl rfl (Nat.le_refl 7) rfl) ?_
  refine Zax ?_
  refine qc8 (vs:=[]) hB .nil rfl ⟨rfl,?_⟩ rfl (by rw [List.length_set,q3v,q3v]) ?_
  ·rw [qda];exact List.set_append_left _ _ hlt
  ·have h1:=qgr hB.heap (H.length+1) 0 r
   rw [qj0] at h1
   exact HBel.set h1 _ _ (by intro r hr;simp only [List.map_cons,List.map_nil,List.set_cons_zero,List.mem_singleton] at hr;subst hr;rfl)
set_option maxHeartbeats 0 in
theorem qhv (b:List UInt8) (H:qf):AC Tryz.prog 83 [.pl (b.map q15)] H (Ret (.tup [.agg (q1k (q25 b).1),.int .i64 (q25 b).2]) H):=by
 refine AC.body (N:=14) [.cell 2 23,.tmp 3] Tryz.func83 rfl rfl rfl (Nat.le_of_ble_eq_true rfl) fun B hB=>?_
 refine Z2 ?_
 refine Zos ?_
 refine Z4 ?_
 refine Z78 ?_
 refine Z2 ?_
 refine Zos ?_
 refine qe ?_
 refine Z79 ?_
 by_cases hb:65536<b.length
 ·rw [show q25 b=(q2h,4) by rw [q25,if_pos hb]]
  refine Zo7 ?_
  refine Zo8 ?_
  refine Z4 ?_
  try dsimp only
  refine Z8r ?_
  refine qa rfl (fun hc=>?_) (fun hc=>?_)
  ·refine Z2 ?_
   refine Zox ?_
   refine Z8 ?_
   refine Zoy ?_
   refine Z4 ?_
   exact Zdv
  ·simp at hc
 have hbl:=fun s t=>qxn hB.heap (qxp (H++[AObj.mk 0 7 [q1k s],AObj.mk 0 7 [q1k t]]).length s t)
 have cw:∀ s:Spec,(∀ s' r,q3q b = .ok (s',r)→s'=s)→AC Tryz.prog 84 [.pl (b.map q15),.fn (.func 122) [] [.pt (Lid H.length 1) 0 0 0]] (H++[AObj.mk 0 7 [q1k q2h],AObj.mk 0 7 [q1k q2h]]) (Ret (.int .i64 (q9o (qyj (q3q b)))) (q86 (H++[AObj.mk 0 7 [q1k q2h],AObj.mk 0 7 [q1k q2h]]) (H++[AObj.mk 0 7 [q1k q2h],AObj.mk 0 7 [q1k s]]) (qyj (q3q b)))):=fun s hs=>by
  have h1:=qqc b (H++[AObj.mk 0 7 [q1k q2h],AObj.mk 0 7 [q1k q2h]]) (Lid H.length 1) 0 q2h s (lk rfl rfl) hs
  rw [st rfl] at h1
  exact qhj _ b _ _ _ _ (by omega) (by simp) (by have:=hbl q2h s;rwa [show (H++[AObj.mk 0 7 [q1k q2h],AObj.mk 0 7 [q1k s]]).length=(H++[AObj.mk 0 7 [q1k q2h],AObj.mk 0 7 [q1k q2h]]).length by simp] at this) rfl (hbl q2h q2h) Y1q h1
 cases hr:q3q b with
 | error e =>
  have he:=qf1 _ _ hr
  rw [show q25 b=(q2h,e) by rw [q25,if_neg hb,hr]]
  have c1:=cw q2h (by rw [hr];intro l' r h;cases h)
  rw [hr] at c1
  change AC _ _ _ _ (Ret (.int .i64 e) (H++[AObj.mk 0 7 [q1k q2h],AObj.mk 0 7 [q1k q2h]])) at c1
  refine Zoc ?_
  try dsimp only
  refine Z8r ?_
  refine qa rfl (fun hc=>?_) (fun hc=>?_)
  ·refine Z2 ?_
   refine Zox ?_
   refine Z8 ?_
   refine Zoy ?_
   refine Z4 ?_
   exact Zdv
  ·simp at hc;omega
 | ok y =>
  obtain ⟨s,r⟩:=y
  have c1:=cw s (by rw [hr];rintro l' r' ⟨⟩;rfl)
  rw [hr] at c1
  cases r with
  | nil =>
   rw [show q25 b=(s,0) by rw [q25,if_neg hb,hr];rfl]
   change AC _ _ _ _ (Ret (.int .i64 0) (H++[AObj.mk 0 7 [q1k q2h],AObj.mk 0 7 [q1k s]])) at c1
   refine Zoc ?_
   try dsimp only
   refine Z8r ?_
   refine qa rfl (fun hc=>?_) (fun hc=>?_)
   ·simp at hc
   ·refine Z37 ?_
    refine Zoy ?_
    refine Z4 ?_
    refine Z7f ?_
    exact Z68
  | cons c r =>
   rw [show q25 b=(q2h,3) by rw [q25,if_neg hb,hr];rfl]
   change AC _ _ _ _ (Ret (.int .i64 3) (H++[AObj.mk 0 7 [q1k q2h],AObj.mk 0 7 [q1k s]])) at c1
   refine Zoc ?_
   try dsimp only
   refine Z8r ?_
   refine qa rfl (fun hc=>?_) (fun hc=>?_)
   ·refine Z2 ?_
    refine Zox ?_
    refine Z8 ?_
    refine Zoy ?_
    refine Z4 ?_
    exact Zdv
   ·simp at hc
abbrev eOp (o:OOp):List AV:=[.int .i64 o.kind]++q1k o.spec++[.pl (o.needs.map eI),.int .i64 o.id,.int .i64 o.what,.int .i64 o.at_,.pl (o.set.map eI)]
theorem qpk (n:Int) (H:qf):AC Tryz.prog 73 [.int .i64 n] H (Ret (.bool (q70 n)) H):=by
 refine AC.body (N:=9) [.tmp 2] Tryz.func73 rfl rfl rfl (Nat.le_of_ble_eq_true rfl) fun B hB=>?_
 refine Zf ?_
 refine qn 2 (.bool (q70 n)) ?_ ?_
 ·refine Z8 ?_
  refine Z25 ?_
  refine qb rfl rfl (fun hg2=>?_) (fun hg2=>?_)
  ·refine Zj ?_
   refine Zy ?_
   exact qe (Out.mk (by (refine congrArg AV.bool ?_;(simp only [q70];(simp_all;done)))) Yb)
  ·refine Zt ?_
   exact qe (Out.mk (by (refine congrArg AV.bool ?_;(simp only [q70];((refine Bool.eq_iff_iff.mpr ?_;simp only [Bool.and_eq_true,Bool.or_eq_true,Bool.not_eq_true',decide_eq_true_eq,decide_eq_false_iff_not,beq_iff_eq,bne_iff_ne,beq_eq_false_iff_ne,Bool.false_eq_true,Bool.true_eq_false,Bool.and_eq_false_iff,Bool.or_eq_false_iff,List.length_map,false_iff,true_iff,iff_true,iff_false] at *;omega))))) Yb)
 exact Z21
theorem qx1 (n:Int) (H:qf):AC Tryz.prog 72 [.int .i64 n] H (Ret (.bool (!q70 n)) H):=by
 refine AC.body (N:=6) [.tmp 2] Tryz.func72 rfl rfl rfl (Nat.le_of_ble_eq_true rfl) fun B hB=>?_
 refine Z1q ?_
 refine Z11 ?_
 refine Zoz ?_
 refine Z19 ?_
 exact Z1s
theorem q12f (l:List Int) (p:Int→Bool):(!l.any fun n=>!p n)=l.all p:=by
 induction l with
 | nil=>rfl
 | cons x l ih=>simp only [List.any_cons,List.all_cons,Bool.not_or,Bool.not_not,ih]
set_option maxHeartbeats 0 in
theorem qou (o:OOp) (hn:o.needs.length≤1000000) (hs:o.set.length≤1000000) (H:qf):AC Tryz.prog 28 [.agg (eOp o)] H (Ret (.bool (q4i o)) H):=by
 have hs2:o.set.length≤9223372036854775807:=by omega
 refine AC.body (N:=53) [.tmp 2] Tryz.func28 rfl rfl rfl (Nat.le_of_ble_eq_true rfl) fun B hB=>?_
 refine Z3t ?_
 refine Z2j ?_
 refine qn 3 (.bool (tm o.at_)) ?_ ?_
 ·refine Z2m ?_
  refine Z25 ?_
  refine qb rfl rfl (fun hg3=>?_) (fun hg3=>?_)
  ·refine Z2o ?_
   refine Zy ?_
   exact qe (Out.mk (by (refine congrArg AV.bool ?_;(simp only [tm];(simp_all;done)))) Yb)
  ·refine Z20 ?_
   exact qe (Out.mk (by (refine congrArg AV.bool ?_;(simp only [tm];((refine Bool.eq_iff_iff.mpr ?_;simp only [Bool.and_eq_true,Bool.or_eq_true,Bool.not_eq_true',decide_eq_true_eq,decide_eq_false_iff_not,beq_iff_eq,bne_iff_ne,beq_eq_false_iff_ne,Bool.false_eq_true,Bool.true_eq_false,Bool.and_eq_false_iff,Bool.or_eq_false_iff,List.length_map,false_iff,true_iff,iff_true,iff_false] at *;omega))))) Yb)
 refine Z4o ?_
 refine Z3y ?_
 refine Z4p ?_
 refine qa rfl (fun hc=>?_) (fun hc=>?_)
 ·have hk:o.kind=1:=by simpa using hc
  rw [show q4i o=(q1s o.spec&&decide (o.needs.length≤16)&&o.needs.all q70) by rw [q4i,if_pos hk],← q12f]
  refine Z1 ?_
  refine qn 2 (.bool (q1s o.spec&&decide (o.needs.length≤16)&&!o.needs.any fun n=>!q70 n)) ?_ ?_
  ·refine Z2k ?_
   refine Zmt ?_
   refine Z38 ?_
   refine Zh ?_
   refine qb rfl rfl (fun hg3=>?_) (fun hg3=>?_)
   ·refine Z6z ?_
    refine Z9a ?_
    refine Zx ?_
    refine Z2q ?_
    refine qb rfl rfl (fun hg9=>?_) (fun hg9=>?_)
    ·refine Z6z ?_
     refine q5r rfl rfl (by decide) (V2.call (q5w 72 _ qx1 o.needs _ hn) rfl) ?_
     refine Z1w ?_
     refine Zn ?_
     exact qe (Out.mk (by (refine congrArg AV.bool ?_;(clear hB;((simp_all;omega))))) Yb)
    ·refine Z4n ?_
     exact qe (Out.mk (by (refine congrArg AV.bool ?_;(clear hB;((refine Bool.eq_iff_iff.mpr ?_;simp only [Bool.and_eq_true,Bool.or_eq_true,Bool.not_eq_true',decide_eq_true_eq,decide_eq_false_iff_not,beq_iff_eq,bne_iff_ne,beq_eq_false_iff_ne,Bool.false_eq_true,Bool.true_eq_false,Bool.and_eq_false_iff,Bool.or_eq_false_iff,List.length_map,false_iff,true_iff,iff_true,iff_false] at *;omega))))) Yb)
   ·refine Zq ?_
    refine Z53 ?_
    refine Z4n ?_
    exact Zh2
  exact Z21
 have hk1:¬ o.kind=1:=by simpa using hc
 refine Z4p ?_
 refine q3x ([(1,.pt (Lid H.length 0) 0 0 0),(3,.bool (tm o.at_)),(13,.int .i64 o.kind),(31,.bool (decide (o.kind=2∨o.kind=5)))]) (H++[⟨0,13,[eOp o]⟩]) ?_ ?_
 ·refine Z1 ?_
  refine qa rfl (fun hc=>?_) (fun hc=>?_)
  ·have hk:o.kind=2:=by simpa using hc
   rw [hc]
   refine Z1 ?_
   refine ⟨?_,.inl rfl⟩
   rw [show decide (o.kind=2∨o.kind=5)=true from decide_eq_true (.inl hk)]
   exact Y8
  ·have hk:¬ o.kind=2:=by simpa using hc
   refine q16 ?_
   refine Z95 ?_
   refine ⟨?_,.inl rfl⟩
   rw [show decide (o.kind=2∨o.kind=5)=(o.kind == 5) by rw [Bool.eq_iff_iff];simp [hk]]
   exact Y8
 refine Z1 ?_
 refine qa rfl (fun hc=>?_) (fun hc=>?_)
 ·have hk:o.kind=2∨o.kind=5:=of_decide_eq_true hc
  rw [show q4i o=(q70 o.id&&q70 o.what) by rw [q4i,if_neg hk1,if_pos hk]]
  refine Z1 ?_
  refine qn 2 (.bool (q70 o.id&&q70 o.what)) ?_ ?_
  ·refine Z2m ?_
   refine Zoz ?_
   refine Zh ?_
   refine qb rfl rfl (fun hg3=>?_) (fun hg3=>?_)
   ·refine Z2o ?_
    refine q5r rfl rfl (by decide) (V2.call (qpk _ _) rfl) ?_
    refine Zn ?_
    exact Z1x
   ·refine Z20 ?_
    exact Z1x
  exact Z21
 have hk2:¬ (o.kind=2∨o.kind=5):=of_decide_eq_false hc
 refine Z4p ?_
 refine qa rfl (fun hc=>?_) (fun hc=>?_)
 ·have hk:o.kind=3:=by simpa using hc
  rw [show q4i o=tm o.at_ by rw [q4i,if_neg hk1,if_neg hk2,if_pos hk]]
  refine Z29 ?_
  exact Z1s
 have hk3:¬ o.kind=3:=by simpa using hc
 refine Z4p ?_
 refine qa rfl (fun hc=>?_) (fun hc=>?_)
 ·have hk:o.kind=4:=by simpa using hc
  rw [show q4i o=(tm o.at_&&sok o.set) by rw [q4i,if_neg hk1,if_neg hk2,if_neg hk3,if_pos hk]]
  refine Z1 ?_
  refine qn 2 (.bool (tm o.at_&&sok o.set)) ?_ ?_
  ·refine Z31 ?_
   refine qb rfl rfl (fun hg1=>?_) (fun hg1=>?_)
   ·refine Z6z ?_
    refine q5r rfl rfl (by decide) (V2.call (qaz o.set Y23 _) rfl) ?_
    refine Zn ?_
    exact Z1x
   ·refine Z20 ?_
    exact Z1x
  exact Z21
 have hk4:¬ o.kind=4:=by simpa using hc
 rw [show q4i o=false by rw [q4i,if_neg hk1,if_neg hk2,if_neg hk3,if_neg hk4]]
 exact Z4g
theorem qtr:∀ (k n i:Nat),i<k→(big k n)[i]?=some (UInt8.ofNat (n / 256 ^ (k-1-i) % 256))
 | 0,_,_,h=>absurd h (Nat.not_lt_zero _)
 | k+1,n,i,h=>by
  rw [big]
  by_cases hi:i<k
  ·rw [List.getElem?_append_left (by rw [q33];exact hi),qtr k (n / 256) i hi]
   congr 3
   rw [Nat.div_div_eq_div_mul,← Nat.pow_succ',show (k-1-i).succ=k+1-1-i by omega]
  ·have:i=k:=by omega
   subst this
   rw [List.getElem?_append_right Y10,q33,Nat.sub_self]
   simp
   apply UInt8.toNat_inj.1
   simp [UInt8.toNat_ofNat']
theorem q12k (n j:Nat) (hj:j≤7):((n:Int)).fdiv (2 ^ min (8 * (j:Int)).toNat IntKind.u64.bits)=((n / 256 ^ j:Nat):Int):=by
 have h64:IntKind.u64.bits=64:=rfl
 rw [show min (8 * (j:Int)).toNat IntKind.u64.bits=8 * j by rw [h64];omega]
 have hp:(256:Nat) ^ j=2 ^ (8 * j):=by rw [Nat.pow_mul]
 rw [hp,Int.fdiv_eq_ediv_of_nonneg _ (Int.pow_nonneg (by decide))]
 rw [Int.natCast_ediv]
 simp
set_option maxHeartbeats 0 in
theorem q6c (bs:List UInt8) (n k:Nat) (hn:n<18446744073709551616) (h1:1≤k) (hk:k≤8) (H:qf) (id g:Nat) (hbs:bs.length≤1000000) (hid:H[id]?=some ⟨g,1,bs.map q15⟩):AC Tryz.prog 30 [.sl id g 0 bs.length bs.length,.int .u64 (n:Int),.int .i64 (k:Int)] H
  (Ret (.sl id (g+k) 0 (bs.length+k) (bs.length+k)) (H.set id ⟨g+k,1,(bs++big k n).map q15⟩)):=by
 have hlt:id<H.length:=(List.getElem?_eq_some_iff.1 hid).1
 have hbl:=q33 k n
 refine AC.body (N:=23) [.tmp 6] Tryz.func30 rfl rfl rfl (Nat.le_of_ble_eq_true rfl) fun B hB=>?_
 refine Z3f ?_
 refine Z11 ?_
 refine ao1 (by decide) (q3e (r:=(k:Int)-1) rfl rfl (qd (by omega) (by omega))) ?_
 refine ao1 (by decide) (qjp (r:=8 * ((k:Int)-1-((0:Nat):Int))) rfl rfl (by rw [show (8:Int) * ((k:Int)-1)=8 * ((k:Int)-1-((0:Nat):Int)) by omega];exact qd (by omega) (by omega))) ?_
 refine Zho ?_
 refine qm (G:=Nat) (fun i=>i≤k) (fun i=>[(0,.sl id (g+i) 0 (bs.length+i) (bs.length+i)),(1,.int .u64 (n:Int)),(7,.int .i64 (8 * ((k:Int)-1-(i:Int))))]) (fun i=>H.set id ⟨g+i,1,(bs++(big k n).take i).map q15⟩++[]) (fun i=>k-i) 0 (Nat.zero_le _) Y8 (.inl (by rw [List.take_zero,List.append_nil bs,Nat.add_zero,q3j hid])) ?_
 intro i hi
 have hF:(H.set id ⟨g+i,1,(bs++(big k n).take i).map q15⟩)[id]?=some ⟨g+i,1,(bs++(big k n).take i).map q15⟩:=List.getElem?_set_self hlt
 refine Z11 ?_
 refine Z1r ?_
 refine Z9 ?_
 refine qa rfl (fun hc=>?_) (fun hc=>?_)
 ·have hik:i<k:=by simp at hc;omega
  have hget:=qtr k n i hik
  have htake:((bs++(big k n).take i).map q15).take (bs.length+i)=(bs++(big k n).take i).map q15:=List.take_of_length_le Y22
  have hj:8 * ((k:Int)-1-(i:Int))=8 * ((k-1-i:Nat):Int):=by omega
  refine Zhp ?_
  refine ao1 (by decide) (qmh (r:=((n / 256 ^ (k-1-i):Nat):Int)) rfl rfl (by omega) (by rw [hj];exact q12k n _ (by omega))) ?_
  refine ao1 (by decide) (qp (r:=((n / 256 ^ (k-1-i) % 256:Nat):Int)) rfl Y1a) ?_
  refine ao2 Y1o (q5e (sz:=1) (v:=.int .u8 ((n / 256 ^ (k-1-i) % 256:Nat):Int)) rfl (by decide) (by decide) rfl rfl rfl rfl rfl) ?_
  refine ao2 Y1o (q5g (bs.length+i+1) rfl hF rfl rfl (Src.pl (ys:=[q15 (UInt8.ofNat (n / 256 ^ (k-1-i) % 256))]) Y13 (q11 [_])) rfl Y1z Y1z Y1z Y20) ?_
  refine Z8x ?_
  refine Zod ?_
  rw [List.set_set,htake]
  refine Z11 ?_
  refine ao1 (by decide) (q3e (r:=8 * ((k:Int)-1-((i+1:Nat):Int))) rfl rfl (by rw [show (8 * ((k:Int)-1-(i:Int)))-8=8 * ((k:Int)-1-((i+1:Nat):Int)) by omega];exact qd (by omega) (by omega))) ?_
  refine Za ?_
  refine ⟨i+1,by omega,by omega,Y8,.inl ?_⟩
  rw [List.take_add_one,hget]
  simp [Nat.add_assoc]
 ·have hik:i=k:=by simp at hc;omega
  subst hik
  rw [List.take_of_length_le (by omega)]
  refine Z90 ?_
  refine Z9 ?_
  refine qc8 hB (q2n rfl .nil) rfl ⟨rfl,rfl⟩ (decide_eq_true hlt) (by simp) ?_
  exact HBel.set hB.heap _ _ (fun r hr=>q1g _ _ r hr)
theorem qy9 {o:OOp} (h:q4i o=true) (hk:o.kind=2∨o.kind=5):(0≤o.id∧o.id≤1073741824)∧0≤o.what∧o.what≤1073741824:=by
 unfold q4i at h
 rw [if_neg (by omega),if_pos hk] at h
 simp only [q70,Bool.and_eq_true,decide_eq_true_eq] at h
 exact h
theorem qw6 {o:OOp} (h:q4i o=true):o.kind=1∨(o.kind=2∨o.kind=5)∨o.kind=3∨o.kind=4:=by
 unfold q4i at h
 by_cases h1:o.kind=1
 ·exact .inl h1
 ·rw [if_neg h1] at h
  by_cases h2:o.kind=2∨o.kind=5
  ·exact .inr (.inl h2)
  ·rw [if_neg h2] at h
   by_cases h3:o.kind=3
   ·exact .inr (.inr (.inl h3))
   ·rw [if_neg h3] at h
    by_cases h4:o.kind=4
    ·exact .inr (.inr (.inr h4))
    ·rw [if_neg h4] at h;cases h
theorem qtx {o:OOp} (h:q4i o=true) (hk:o.kind=3∨o.kind=4):0≤o.at_∧o.at_≤4611686018427387904:=by
 unfold q4i at h
 rcases hk with hk | hk
 ·rw [if_neg (by omega),if_neg (by omega),if_pos hk] at h
  exact tm_iff2.1 h
 ·rw [if_neg (by omega),if_neg (by omega),if_neg (by omega),if_pos hk,Bool.and_eq_true] at h
  exact tm_iff2.1 h.1
theorem qy8 {o:OOp} (h:q4i o=true) (hk:o.kind=4):sok o.set=true:=by
 unfold q4i at h
 rw [if_neg (by omega),if_neg (by omega),if_neg (by omega),if_pos hk,Bool.and_eq_true] at h
 exact h.2
theorem qu6 {o:OOp} (h:q4i o=true) (hk:o.kind=1):q1s o.spec=true∧o.needs.length≤16∧∀ n∈o.needs,0≤n∧n≤1073741824:=by
 unfold q4i at h
 rw [if_pos hk,Bool.and_eq_true,Bool.and_eq_true,List.all_eq_true] at h
 refine ⟨h.1.1,of_decide_eq_true h.1.2,fun n hn=>?_⟩
 have:=h.2 n hn
 simp only [q70,Bool.and_eq_true,decide_eq_true_eq] at this
 exact this
theorem qqd {l:List Int} {k:Nat} {n:Int} (h:l[k]?=some n):q4n (l.take (k+1))=q4n (l.take k)++big 4 n.toNat:=by
 unfold q4n
 rw [qj h,List.flatMap_append]
 simp
set_option maxHeartbeats 0 in
theorem qok (o:OOp) (hn:o.needs.length≤1000000) (hs:o.set.length≤1000000) (H:qf):AC Tryz.prog 10 [.agg (eOp o)] H (Ret (.tup [.pl ((qfe o).1.map q15),.int .i64 (qfe o).2]) H):=by
 refine AC.body (N:=84) [.tmp 2,.tmp 3] Tryz.func10 rfl rfl rfl (Nat.le_of_ble_eq_true rfl) fun B hB=>?_
 refine Z3t ?_
 refine Z3d ?_
 refine Z35 ?_
 refine Z37 ?_
 refine q12 (qou _ Y23 Y23 _) rfl (by decide) ?_
 refine Z39 ?_
 refine qa rfl (fun hc=>?_) (fun hc=>?_)
 ·have hm:q4i o=false:=by simpa using hc
  rw [show qfe o=([],1) by rw [qfe,hm];rfl]
  refine Zhf ?_
  try dsimp only
  refine Z1d ?_
  exact Zo9
 have hm:q4i o=true:=by simpa using hc
 clear hc
 rw [show qfe o=(q2o o,0) by rw [qfe,hm];rfl]
 have hkind:=qw6 hm
 have hkb:q15 (UInt8.ofNat o.kind.toNat)=[.int .u8 o.kind]:=by
  rw [q94 (by omega),Int.toNat_of_nonneg (by omega)]
 have hob:q2o o=UInt8.ofNat o.kind.toNat :: (if o.kind=1 then q3c o.spec++(UInt8.ofNat o.needs.length :: q4n o.needs)
  else if o.kind=2∨o.kind=5 then big 4 o.id.toNat++big 4 o.what.toNat
  else if o.kind=3 then big 8 o.at_.toNat else big 8 o.at_.toNat++qe3 o.set):=rfl
 generalize UInt8.ofNat o.kind.toNat=kb at hkb hob
 refine Z4o ?_
 refine ao1 (by decide) (qp (r:=o.kind) rfl Y1a) ?_
 refine ao2 Y1o (q2b (sz:=1) (v:=.int .u8 o.kind) rfl (by decide) (by decide) rfl rfl rfl rfl rfl) ?_
 refine Z8x ?_
 refine Zoi ?_
 rw [← hkb,show [q15 kb]=[kb].map q15 from rfl]
 refine Z4o ?_
 refine Z3y ?_
 refine Z4p ?_
 refine qa rfl (fun hc=>?_) (fun hc=>?_)
 ·have hk:o.kind=1:=by simpa using hc
  obtain ⟨hsr,hnl,hnr⟩:=qu6 hm hk
  have hsl:=qah hsr
  rw [if_pos hk] at hob
  rw [hob]
  clear hob hc
  refine Z2 ?_
  refine Z2k ?_
  refine Zmt ?_
  refine q12 (qsw _ _) rfl (by decide) ?_
  refine Zia ?_
  refine Z3b ?_
  rw [show q8c o.spec=(q3c o.spec,0) by rw [q8c,if_neg (by rw [hsr];simp)]]
  refine Z1 ?_
  refine Zon ?_
  try dsimp only
  refine Zbl ?_
  refine Zj6 ?_
  refine aqr 3 rfl Y1v (by decide) (fun G hG=>qc rfl (lk rfl hG) rfl (by decide)) ?_
  refine aqr 4 rfl Y1v (by decide) (fun G hG=>qh (v:=.pl _) rfl (lk rfl hG) rfl rfl rfl) ?_
  refine aqr 5 rfl Y1v (by decide) (fun G hG=>qdg rfl) ?_
  refine aq0 6 rfl Y1v (by decide) (fun _=>qp (r:=(o.needs.length:Int)) rfl (by rw [List.length_map,IntKind.wrap_u8];omega)) ?_
  refine q8b 7 rfl Y1v (by decide) (fun _=>q5e (sz:=1) (v:=.int .u8 (o.needs.length:Int)) rfl (by decide) (by decide) rfl rfl rfl rfl rfl) ?_
  refine aqs 2 rfl Y1v Y17 Y1o (qcy (bs:=[kb]) (cs:=q3c o.spec) (en:=q15) rfl rfl rfl (Src.pl rfl (q11 _)) rfl Y22 Y22) ?_
  refine aqs 8 rfl Y1v Y17 Y1o (qcy (bs:=[kb]++q3c o.spec) (cs:=[UInt8.ofNat o.needs.length]) (en:=q15) rfl rfl rfl (Src.pl (ys:=[q15 (UInt8.ofNat o.needs.length)]) Y13 (q11 [_])) rfl Y22 Y22) ?_
  refine Zp0 ?_
  refine Zhx ?_
  generalize hb0:[kb]++q3c o.spec++[UInt8.ofNat o.needs.length]=b0
  have hb0l:b0.length=(q3c o.spec).length+2:=by rw [← hb0];simp
  have hfin:kb :: (q3c o.spec++(UInt8.ofNat o.needs.length :: q4n o.needs))=b0++q4n o.needs:=by rw [← hb0];simp
  rw [hfin]
  refine Z3w ?_
  refine Zaz ?_
  try dsimp only [Nat.reduceAdd,AV.cells,List.cons_append,List.nil_append,List.length_cons,put,List.set_cons_succ,List.set_cons_zero]
  refine Z1d ?_
  refine qm (G:=Nat) (fun k=>k≤o.needs.length) (fun k=>[(1,.pt (Lid H.length 0) 0 0 0),(4,.sl (Lid H.length 1) (2+4 * k) 0 (b0.length+4 * k) (b0.length+4 * k)),(38,.pl (o.needs.map eI)),(39,.int .i64 (o.needs.length:Int)),(40,.int .i64 (k:Int))]) (fun k=>H++[⟨0,13,[eOp o]⟩,⟨2+4 * k,1,(b0++q4n (o.needs.take k)).map q15⟩]) (fun k=>o.needs.length-k) 0 (Nat.zero_le _) Y8 (.inl (by rw [List.take_zero];simp [q4n])) ?_
  intro k hkn
  have hl2:(b0++q4n (o.needs.take k)).length=b0.length+4 * k:=by
   rw [List.length_append,qbl,List.length_take,Nat.min_eq_left hkn]
  refine Z43 ?_
  refine qa rfl (fun hc=>?_) (fun hc=>?_)
  ·have hlt:k<o.needs.length:=by simpa using hc
   obtain ⟨n,hx,hxl⟩:=qo hlt
   have hr:=ql eI hx
   have hnn:=hnr n hxl
   have c1:=fun H' id hid=>q6c (b0++q4n (o.needs.take k)) n.toNat 4 (by omega) (by decide) (by decide) H' id (2+4 * k) (by rw [hl2];omega) hid
   rw [hl2,List.append_assoc,← qqd hx] at c1
   refine Zf8 ?_
   refine Z8u ?_
   refine ao1 (by decide) (qp (r:=((n.toNat:Nat):Int)) rfl Y16) ?_
   refine Zoj ?_
   refine Z8x ?_
   refine Zhy ?_
   refine Zom ?_
   exact ⟨k+1,by omega,by omega,Y8,.inl rfl⟩
  ·have hkk:k=o.needs.length:=by simp at hc;omega
   subst hkk
   rw [List.take_length] at hl2 ⊢
   rw [← hl2]
   refine Zj5 ?_
   refine qr (ys:=(b0++q4n o.needs).map q15) 2 rfl rfl rfl rfl Yn (by simp) (q1g 0 _) ?_
   exact Zhj
 have hk1:¬ o.kind=1:=by simpa using hc
 rw [if_neg hk1] at hob
 refine Z4p ?_
 refine q3x ([(1,.pt (Lid H.length 0) 0 0 0),(4,.sl (Lid H.length 1) 0 0 1 1),(19,.int .i64 o.kind),(49,.bool (decide (o.kind=2∨o.kind=5)))]) (H++[⟨0,13,[eOp o]⟩,⟨0,1,[kb].map q15⟩]) ?_ ?_
 ·refine Z1 ?_
  refine qa rfl (fun hc=>?_) (fun hc=>?_)
  ·have hk:o.kind=2:=by simpa using hc
   rw [hc]
   refine Z1 ?_
   refine ⟨?_,.inl rfl⟩
   rw [show decide (o.kind=2∨o.kind=5)=true from decide_eq_true (.inl hk)]
   exact Y8
  ·have hk:¬ o.kind=2:=by simpa using hc
   refine q16 ?_
   refine Z95 ?_
   refine ⟨?_,.inl rfl⟩
   rw [show decide (o.kind=2∨o.kind=5)=(o.kind == 5) by rw [Bool.eq_iff_iff];simp [hk]]
   exact Y8
 refine Z1 ?_
 refine qa rfl (fun hc=>?_) (fun hc=>?_)
 ·have hk:o.kind=2∨o.kind=5:=of_decide_eq_true hc
  obtain ⟨hi,hw⟩:=qy9 hm hk
  rw [if_pos hk] at hob
  rw [hob]
  have c1:=fun H' id hid=>q6c [kb] o.id.toNat 4 (by omega) (by decide) (by decide) H' id 0 (by simp) hid
  have c2:=fun H' id hid=>q6c ([kb]++big 4 o.id.toNat) o.what.toNat 4 (by omega) (by decide) (by decide) H' id 4 (by simp [q33]) hid
  have e5:([kb]++big 4 o.id.toNat).length=5:=by simp [q33]
  rw [e5] at c2
  have e9:([kb]++big 4 o.id.toNat++big 4 o.what.toNat).length=9:=by simp [q33]
  refine Zon ?_
  refine Zbl ?_
  refine Zoo ?_
  refine Zog ?_
  refine aq0 3 rfl Y1v (by decide) (fun _=>qp (r:=((o.id.toNat:Nat):Int)) rfl Y16) ?_
  refine Zop ?_
  refine Zoq ?_
  refine aq0 7 rfl Y1v (by decide) (fun _=>qp (r:=((o.what.toNat:Nat):Int)) rfl Y16) ?_
  refine aqs 4 rfl Y1v Y17 Y1o (V2.callo3 (k:=1) (c1 _ (Lid H.length 1) (lk rfl rfl)) rfl rfl) ?_
  refine aqs 8 rfl Y1v Y17 Y1o (V2.callo3 (k:=1) (c2 _ (Lid H.length 1) (lk rfl rfl)) rfl rfl) ?_
  refine Zp0 ?_
  refine Zhx ?_
  refine Zp1 ?_
  refine Zj5 ?_
  rw [show kb :: (big 4 o.id.toNat++big 4 o.what.toNat)=[kb]++big 4 o.id.toNat++big 4 o.what.toNat by simp]
  refine qr (ys:=([kb]++big 4 o.id.toNat++big 4 o.what.toNat).map q15) 2 rfl rfl rfl rfl (by rw [List.drop_zero,List.take_of_length_le (by rw [List.length_map,e9];exact Nat.le_refl _)]) (by rw [List.length_map,e9]) (q1g 0 _) ?_
  exact Zhj
 have hk2:¬ (o.kind=2∨o.kind=5):=of_decide_eq_false hc
 rw [if_neg hk2] at hob
 refine Z4p ?_
 refine qa rfl (fun hc=>?_) (fun hc=>?_)
 ·have hk:o.kind=3:=by simpa using hc
  have ha:=qtx hm (.inl hk)
  rw [if_pos hk] at hob
  rw [hob]
  have c1:=fun H' id hid=>q6c [kb] o.at_.toNat 8 (by omega) (by decide) (by decide) H' id 0 (by simp) hid
  have e9:([kb]++big 8 o.at_.toNat).length=9:=by simp [q33]
  refine Zb3 ?_
  refine Z2m ?_
  refine Zp2 ?_
  refine Zoj ?_
  refine Z8x ?_
  refine Zp1 ?_
  refine Zj5 ?_
  rw [show kb :: big 8 o.at_.toNat=[kb]++big 8 o.at_.toNat from rfl]
  refine qr (ys:=([kb]++big 8 o.at_.toNat).map q15) 2 rfl rfl rfl rfl (by rw [List.drop_zero,List.take_of_length_le (by rw [List.length_map,e9];exact Nat.le_refl _)]) (by rw [List.length_map,e9]) (q1g 0 _) ?_
  exact Zhj
 have hk3:¬ o.kind=3:=by simpa using hc
 rw [if_neg hk3] at hob
 refine Z2 ?_
 refine Z95 ?_
 have hk:o.kind=4:=by omega
 refine Z1 ?_
 refine qa rfl (fun hc=>?_) (fun hc=>?_)
 ·have ha:=qtx hm (.inr hk)
  have q5q:=qy8 hm hk
  have hsl:=qik o.set
  rw [hob]
  have c1:=fun H' id hid=>q6c [kb] o.at_.toNat 8 (by omega) (by decide) (by decide) H' id 0 (by simp) hid
  have e9:([kb]++big 8 o.at_.toNat).length=9:=by simp [q33]
  refine Z3w ?_
  refine q12 (qxl _ Y23 _) rfl (by decide) ?_
  refine Zia ?_
  refine Z3b ?_
  rw [show qcz o.set=(qe3 o.set,0) by rw [qcz,if_neg (by rw [q5q];simp)]]
  refine Z8t ?_
  refine Z2m ?_
  refine Zp2 ?_
  refine Zoj ?_
  refine Z3g ?_
  refine ao2 Y1o (qcy (bs:=[kb]++big 8 o.at_.toNat) (cs:=qe3 o.set) (en:=q15) (by rw [e9];rfl) rfl rfl (Src.pl rfl (q11 _)) rfl (by rw [e9];omega) (by rw [e9];omega)) ?_
  refine Z8x ?_
  try dsimp only [Nat.reduceAdd,List.cons_append,List.nil_append,List.length_cons,List.length_nil,put,List.set_cons_succ,List.set_cons_zero]
  refine Zj5 ?_
  rw [show kb :: (big 8 o.at_.toNat++qe3 o.set)=[kb]++big 8 o.at_.toNat++qe3 o.set by simp]
  refine qr (ys:=([kb]++big 8 o.at_.toNat++qe3 o.set).map q15) 2 rfl rfl rfl rfl Yn (by simp) (q1g 0 _) ?_
  exact Zhj
 ·simp at hc;omega
end Go.Av
namespace Go.Av
variable {P : Program} {N : Nat} {env : Env} {H H0 L : qf} {ty : TypeId}
theorem qy7 {t:TypeId} {x y:Operand} {id i j sz:Nat} {agg:Bool} {o:AObj} {r:List AV} {v:AV} [TyI P t agg sz] (hx:aev env x = .pt id o.gen i j) (hid:H[id]?=some o) (hr:o.rows[i]?=some r)
  (hy:(aev env y).up1=v) (hc:v.cellish=true) (hn:v.cells.length=sz) (hj:j+sz≤o.sz) :
  V2 P N (.store t x y) ty env H .junk (H.set id { o with rows:=o.rows.set i (r.take j++v.cells++r.drop (j+sz)) }):=by
 intro dst pos after guard S a w hcr next Q hnext _
 obtain ⟨s,b,arr,et,hs,hp,he,hb,hrow⟩:=hcr.ptr hx hid
 have hvr:=(hcr.ev y).up1
 rw [hy] at hvr
 obtain ⟨hl,h1,hcv⟩:=hvr.cells hc
 have hrl:=(hrow.2 i r hr).1
 have hi:i<o.rows.length:=(List.getElem?_eq_some_iff.1 hr).1
 have hfit:i * o.sz+j+sz≤arr.size:=by
  have h2:i * o.sz+o.sz≤o.rows.length * o.sz:=by
   rw [← Nat.succ_mul]
   exact Nat.mul_le_mul_right _ hi
  have:=hrow.1
  omega
 have hsz:(arr.toList.take (i * o.sz+j)++(a.eval y).cells.toList++arr.toList.drop (i * o.sz+j+sz)).toArray.size=arr.size:=by
  simp [← hl,hn]
  omega
 have hget:∀ k,(arr.toList.take (i * o.sz+j)++(a.eval y).cells.toList++arr.toList.drop (i * o.sz+j+sz)).toArray[k]? =
   if k<i * o.sz+j then arr[k]? else if k<i * o.sz+j+sz then (a.eval y).cells[k-(i * o.sz+j)]? else arr[k]?:=by
  intro k
  have hlen1:(arr.toList.take (i * o.sz+j)).length=i * o.sz+j:=by simp;omega
  have hlen2:(a.eval y).cells.toList.length=sz:=by simp [← hl,hn]
  rw [List.getElem?_toArray,List.append_assoc]
  by_cases h1:k<i * o.sz+j
  ·rw [if_pos h1,List.getElem?_append_left (by omega),List.getElem?_take,if_pos h1];simp
  ·rw [if_neg h1,List.getElem?_append_right (by omega),hlen1]
   by_cases h2:k<i * o.sz+j+sz
   ·rw [if_pos h2,List.getElem?_append_left (by omega)];simp
   ·rw [if_neg h2,List.getElem?_append_right (by omega),hlen2,List.getElem?_drop]
    simp only [Array.getElem?_toList]
    congr 1
    omega
 have hrow':RowOK (own S) S w o.sz (arr.toList.take (i * o.sz+j)++(a.eval y).cells.toList++arr.toList.drop (i * o.sz+j+sz)).toArray (o.rows.set i (r.take j++v.cells++r.drop (j+sz))):=by
  refine ⟨by rw [hsz];simpa using hrow.1,fun i' r' hr'=>?_⟩
  by_cases e:i=i'
  ·subst e
   rw [List.getElem?_set_self hi] at hr'
   obtain rfl:=Option.some.inj hr'
   refine ⟨by simp [hn,hrl];omega,fun k x hk=>?_⟩
   have hlen1:(r.take j).length=j:=by simp;omega
   rw [List.append_assoc] at hk
   rw [hget]
   by_cases h1:k<j
   ·rw [List.getElem?_append_left (by omega),List.getElem?_take,if_pos h1] at hk
    rw [if_pos (by omega)]
    exact (hrow.2 i r hr).2 k x hk
   ·rw [List.getElem?_append_right (by omega),hlen1] at hk
    rw [if_neg (by omega)]
    by_cases h2:k<j+sz
    ·rw [List.getElem?_append_left (by omega)] at hk
     rw [if_pos (by omega),show i * o.sz+k-(i * o.sz+j)=k-j by omega]
     exact hcv (k-j) x hk
    ·rw [List.getElem?_append_right (by omega),hn,List.getElem?_drop] at hk
     rw [if_neg (by omega)]
     rw [show j+sz+(k-j-sz)=k by omega] at hk
     exact (hrow.2 i r hr).2 k x hk
  ·rw [List.getElem?_set_ne e] at hr'
   refine ⟨(hrow.2 i' r' hr').1,fun k x hk=>?_⟩
   have hkl:k<o.sz:=by rw [← (hrow.2 i' r' hr').1];exact (List.getElem?_eq_some_iff.1 hk).1
   rw [hget]
   rcases Nat.lt_or_gt_of_ne e with h | h
   ·have:i * o.sz+o.sz≤i' * o.sz:=by rw [← Nat.succ_mul];exact Nat.mul_le_mul_right _ h
    rw [if_neg (by omega),if_neg (by omega)]
    exact (hrow.2 i' r' hr').2 k x hk
   ·have:i' * o.sz+o.sz≤i * o.sz:=by rw [← Nat.succ_mul];exact Nat.mul_le_mul_right _ h
    rw [if_pos (by omega)]
    exact (hrow.2 i' r' hr').2 k x hk
 obtain ⟨hh,hx'⟩:=hcr.heap.write hid hs hp hb hsz hrow'
 have hrun:(execOp a.eval ⟨dst,.store t x y,ty,pos,after,guard⟩).run P w = .ok .skip (w.setRow b (arr.toList.take (i * o.sz+j)++(a.eval y).cells.toList++arr.toList.drop (i * o.sz+j+sz)).toArray):=by
  simp only [execOp,he,Instr.storeAt,Instr.sureAddr,Sem.run_bind,Sem.run_pure,Result.andThen_ok,qd7 (P:=P) (t:=t) hb (by rw [← hl];exact hn) hfit h1]
 unfold Oper.wp
 rw [hrun]
 exact hnext .junk undef _ S _ ⟨rfl,rfl⟩ hh hx' .junk
theorem qbn {t:TypeId} {x y:Operand} {id g i j sz:Nat} {agg:Bool} {o:AObj} {r r':List AV} {v:AV} [TyI P t agg sz] (hx:aev env x = .pt id g i j) (hid:H0[id]?=some o) (hg:o.gen=g) (hr:o.rows[i]?=some r)
  (hy:(aev env y).up1=v) (hc:v.cellish=true) (hl:v.cells.length=sz) (hj:j+sz≤o.sz) (hr':r.take j++v.cells++r.drop (j+sz)=r') :
  V2 P N (.store t x y) ty env (H0++L) .junk (H0.set id { o with rows:=o.rows.set i r' }++L):=by
 subst hr';subst hg
 have:=qy7 (P:=P) (N:=N) (env:=env) (H:=H0++L) (ty:=ty) (t:=t) hx (lkF hid) hr hy hc hl hj
 rwa [stF hid] at this
theorem V2.callm {f id':Nat} {xs:Array Operand} {ts:Array TypeId} {v:AV} {vs:List AV} {o:AObj} {k:Nat} [FnI P f] (hac:AC P f vs (H0++L) (Ret v ((H0++L).set id' o))) (hvs:xs.toList.map (aev env)=vs) (hk:id'=Lid H0.length k) :
  V2 P N (.call { callee:=.value (.func f),args:=xs,argTypes:=ts }) ty env (H0++L) v (H0++L.set k o):=by
 subst hk
 have:=V2.call (N:=N) (ty:=ty) (ts:=ts) hac hvs
 rwa [st rfl] at this
end Go.Av
namespace Go.Av
open Go.Proofs
def rnV (bs:List UInt8) (n:Nat):Nat:=if bs.length<n then 0 else q51 (bs.take n)
def rnL (bs:List UInt8) (n:Nat):List UInt8:=if bs.length<n then [] else bs.drop n
def rnB (bs:List UInt8) (n:Nat) (bad:Bool):Bool:=if bs.length<n then true else bad
theorem q11m (a b:Nat) (ha:a * 256<18446744073709551616) (hb:b<256):IntKind.u64.wrap (BitVec.ofInt IntKind.u64.bits ((a * 256:Nat):Int) ||| BitVec.ofInt IntKind.u64.bits (b:Int)).toNat=((a * 256+b:Nat):Int):=by
 rw [qo6 _ _ ha (by omega)]
 congr 1
 have h:=Nat.two_pow_add_eq_or_of_lt (i:=8) hb a
 rw [show (2:Nat) ^ 8 * a=a * 256 by omega] at h
 exact h.symm
theorem qsu {k:Nat} (h:k≤7):256 ^ k≤256 ^ 7:=Nat.pow_le_pow_right (by decide) h
set_option maxHeartbeats 0 in
theorem qbd (bs:List UInt8) (bad:Bool) (n:Nat) (hn:n≤8) (H:qf) (id g:Nat) (hF:H[id]?=some ⟨g,2,[[.pl (bs.map q15),.bool bad]]⟩) :
  AC Tryz.prog 37 [.pt id g 0 0,.int .i64 (n:Int)] H (Ret (.int .u64 (rnV bs n:Int)) (H.set id ⟨g,2,[[.pl ((rnL bs n).map q15),.bool (rnB bs n bad)]]⟩)):=by
 have hlen:id<H.length:=(List.getElem?_eq_some_iff.1 hF).1
 refine AC.body (N:=48) [.tmp 4] Tryz.func37 rfl rfl rfl (Nat.le_of_ble_eq_true rfl) fun B hB=>?_
 refine Z5 ?_
 refine Znt ?_
 refine Z40 ?_
 refine Zu ?_
 refine Z3z ?_
 refine qa rfl (fun hc=>?_) (fun hc=>?_)
 ·have hlt:bs.length<n:=by simp at hc;omega
  have hF2:(H.set id ⟨g,2,[[.pl [],.bool bad]]⟩)[id]?=some ⟨g,2,[[.pl [],.bool bad]]⟩:=List.getElem?_set_self hlen
  rw [rnV,rnL,rnB,if_pos hlt,if_pos hlt,if_pos hlt]
  refine Zi0 ?_
  refine Zie ?_
  refine ao2 Y21 (qbn (sz:=1) (v:=.pl []) (r':=[.pl [],.bool bad]) rfl hF rfl rfl rfl rfl rfl (Nat.le_of_ble_eq_true rfl) rfl) ?_
  refine ao1 (by decide) (qy rfl (lkF hF2) rfl) ?_
  refine Zp3 ?_
  refine ao2 Y21 (q1a (sz:=1) (v:=.bool true) (r':=[.pl [],.bool true]) rfl hF2 rfl rfl rfl rfl rfl (Nat.le_of_ble_eq_true rfl) rfl) ?_
  refine Z5i ?_
  rw [List.set_set]
  refine Zz ?_
  exact qc8 hB (q2n rfl .nil) rfl ⟨rfl,rfl⟩ rfl (by simp) (HBel.set hB.heap _ _ Y1i)
 have hge:¬ bs.length<n:=by simp at hc;omega
 rw [rnV,rnL,rnB,if_neg hge,if_neg hge,if_neg hge]
 clear hc
 refine Z5 ?_
 refine Znt ?_
 refine Z8 ?_
 refine ao1 (by decide) (q6r (ys:=(bs.take n).map q15) rfl (Bd.some rfl rfl) Y22 (q11 _) Y1p) ?_
 refine Z41 ?_
 generalize hx:bs.take n=xs
 have hxl:xs.length=n:=by rw [← hx,List.length_take];omega
 refine Z1d ?_
 refine qm (G:=Nat) (fun k=>k≤n) (fun k=>[(0,.pt id g 0 0),(1,.int .i64 (n:Int)),(5,.int .u64 (q51 (xs.take k):Int)),(26,.pl (xs.map q15)),(27,.int .i64 (xs.length:Int)),(28,.int .i64 (k:Int))]) (fun _=>H++[]) (fun k=>n-k) 0 (Nat.zero_le _) Y8 (Fit.refl _ _) ?_
 intro k hk
 refine Z43 ?_
 refine qa rfl (fun hc=>?_) (fun hc=>?_)
 ·have hlt:k<xs.length:=by simpa using hc
  obtain ⟨c,hx2,hxm⟩:=qo hlt
  have hr:=ql q15 hx2
  have h1:q51 (xs.take (k+1))=q51 (xs.take k) * 256+c.toNat:=by rw [qj hx2,qbg]
  have h2:=q92 k (xs.take k) Y19
  have h3:=qsu (k:=k) (by omega)
  have hcc:=c.toNat_lt
  generalize q51 (xs.take k)=p at *
  refine Zf8 ?_
  refine Z11 ?_
  refine ao1 (by decide) (quf (r:=((p * 256:Nat):Int)) rfl rfl (by decide) (by rw [show min (8:Int).toNat IntKind.u64.bits=8 from rfl];exact q4h (p * 256) (by omega))) ?_
  refine Z8 ?_
  refine ao1 (by decide) (qp (r:=(c.toNat:Int)) rfl (q4h _ (by omega))) ?_
  refine ao1 (by decide) (o_or (r:=((p * 256+c.toNat:Nat):Int)) rfl rfl (q11m _ _ (by omega) (by omega))) ?_
  refine Z4 ?_
  refine Zom ?_
  exact ⟨k+1,by omega,by omega,by simp only [h1];exact Y8,.refl _ _⟩
 ·have hkk:k=xs.length:=by simp at hc;omega
  subst hkk
  rw [List.take_length]
  refine Zi0 ?_
  refine Zie ?_
  refine Zi4 ?_
  refine Z8 ?_
  refine ao1 (by decide) (qbv (ys:=(bs.drop n).map q15) rfl (Bd.some rfl rfl) Y22 (q11 _) (by rw [List.map_drop])) ?_
  refine Zi2 ?_
  refine ao2 Y21 (q1a (sz:=1) (v:=.pl _) (r':=[.pl ((bs.drop n).map q15),.bool bad]) rfl hF rfl rfl rfl rfl rfl (Nat.le_of_ble_eq_true rfl) rfl) ?_
  refine Z5i ?_
  refine Z1v ?_
  exact qc8 hB (q2n rfl .nil) rfl ⟨rfl,rfl⟩ rfl (by simp) (HBel.set hB.heap _ _ Y1i)
theorem qez:∀ (j:Nat) (r:List UInt8),q5o (j+1) r=q5o j r++[(q51 ((r.drop (4 * j)).take 4):Int)]
 | 0,r=>by simp [q5o]
 | j+1,r=>by
  rw [q5o,qez j (r.drop 4),q5o,List.drop_drop,List.cons_append,show 4+4 * j=4 * (j+1) by omega]
def subT (b:List UInt8):AV:=match qxe b with
 | some (s,l)=>.tup [.agg (q1k s),.pl (l.map eI),.bool true]
 | none=>.tup [.agg (q1k q2h),.pl [],.bool false]
set_option maxHeartbeats 0 in
theorem qni (b:List UInt8) (hl:b.length≤9000000000000000000) (H:qf):AC Tryz.prog 36 [.pl (b.map q15)] H (Ret (subT b) H):=by
 refine AC.body (N:=60) [.cell 2 23,.tmp 3,.tmp 4] Tryz.func36 rfl rfl rfl (Nat.le_of_ble_eq_true rfl) fun B hB=>?_
 refine Z2 ?_
 refine Zos ?_
 refine Z3d ?_
 refine Z1p ?_
 refine Z78 ?_
 refine Z1e ?_
 refine qm (G:=Nat) (fun m=>m≤17∧qxe b=qxz b (17-m) m) (fun m=>[(0,.pl (b.map q15)),(2,.pt (Lid H.length 0) 0 0 0),(5,.int .i64 (m:Int))]) (fun _=>H++[⟨0,7,[q1k q2h]⟩]) (fun m=>17-m) 0 ⟨by decide,rfl⟩ Y8 (.inl rfl) ?_
 rintro m ⟨hm,i2⟩
 refine Znx ?_
 refine Z9 ?_
 refine qa rfl (fun hc=>?_) (fun hc=>?_)
 ·have hm16:m≤16:=by simp at hc;omega
  clear hc
  rw [show 17-m=(16-m)+1 by omega,qxz] at i2
  by_cases h4:4 * m+1≤b.length
  ·obtain ⟨p,hp⟩:∃ p,b.length-4 * m-1=p:=⟨_,rfl⟩
   have hpl:p<b.length:=by omega
   have hr:(b.map q15)[p]?=some (q15 (b.getD p 0)):=by
    rw [List.getElem?_map,List.getElem?_eq_getElem hpl,List.getD_eq_getElem?_getD,List.getElem?_eq_getElem hpl];rfl
   have hsub:qci b m=(decide ((b.getD p 0).toNat=m)&&decide ((q25 (b.take p)).2=0)):=by
    rw [qci,hp,decide_eq_true h4,Bool.true_and]
   have hcc:=(b.getD p 0).toNat_lt
   generalize b.getD p 0=c at *
   refine Z7a ?_
   refine Zp4 ?_
   refine ao1 (by decide) (q3e (r:=((b.length-4 * m:Nat):Int)) rfl rfl (by rw [List.length_map,show (b.length:Int)-((4 * m:Nat):Int)=((b.length-4 * m:Nat):Int) by omega];exact qd (by omega) (by omega))) ?_
   refine ao1 (by decide) (q3e (r:=(p:Int)) rfl rfl (by rw [show ((b.length-4 * m:Nat):Int)-1=(p:Int) by omega];exact qd (by omega) (by omega))) ?_
   refine Za ?_
   refine qn 31 (.bool (!decide (c.toNat=m))) ?_ ?_
   ·refine Zw ?_
    refine qb rfl rfl (fun hg2=>?_) (fun hg2=>?_)
    ·refine Z5m ?_
     exact qe (Out.mk (by (refine congrArg AV.bool ?_;(clear hB i2 hsub hr;(simp_all;omega)))) Yb)
    ·refine Z99 ?_
     refine Zj ?_
     refine Zdn ?_
     refine Zfe ?_
     refine q1c rfl rfl (by decide) (qp (r:=(c.toNat:Int)) rfl (qd (by omega) (by omega))) ?_
     refine Zj ?_
     refine Zla ?_
     refine Zr ?_
     exact qe (Out.mk (by (refine congrArg AV.bool ?_;(clear hB i2 hsub hr;grind))) Yb)
   refine Z1 ?_
   refine qa rfl (fun hc=>?_) (fun hc=>?_)
   ·have hne:¬ c.toNat=m:=by simpa using hc
    rw [hsub,decide_eq_false hne,Bool.false_and,if_neg (by decide)] at i2
    refine Z11 ?_
    refine Zp5 ?_
    refine Za ?_
    exact ⟨m+1,by omega,⟨by omega,by rw [show 17-(m+1)=16-m by omega];exact i2⟩,Y8,.inl rfl⟩
   have hcm:c.toNat=m:=by simpa using hc
   clear hc
   rw [hsub,decide_eq_true hcm,Bool.true_and] at i2
   have cs:=fun H=>qhv (b.take p) H
   have hv:qyh b m=((q25 (b.take p)).1,q5o m (b.drop (b.length-4 * m))):=by rw [qyh,hp]
   rw [hv] at i2
   generalize q25 (b.take p)=q at *
   obtain ⟨s,e⟩:=q
   simp only at i2 cs
   refine Zau ?_
   refine ao1 (by decide) (q6r (ys:=(b.take p).map q15) rfl (Bd.some rfl rfl) Y22 (q11 _) Y1p) ?_
   refine Zp6 ?_
   refine Zhl ?_
   refine Zos ?_
   refine Zoy ?_
   refine Z4 ?_
   refine Zb1 ?_
   refine Z8r ?_
   refine qa rfl (fun hc=>?_) (fun hc=>?_)
   ·have he:e≠0:=by simpa using hc
    rw [decide_eq_false he,if_neg (by decide)] at i2
    refine Z11 ?_
    refine Zp5 ?_
    refine Za ?_
    exact ⟨m+1,by omega,⟨by omega,by rw [show 17-(m+1)=16-m by omega];exact i2⟩,Y8,Fit.loc hB (G:=[⟨0,7,[q1k s]⟩]) rfl Y1 (fun a ha=>by simp only [List.mem_singleton] at ha;subst ha;intro r hr;simp only [List.mem_singleton] at hr;subst hr;rfl)⟩
   have he:e=0:=by simpa using hc
   clear hc
   subst he
   rw [if_pos (decide_eq_true rfl)] at i2
   rw [subT,i2]
   obtain ⟨rest,hrest⟩:∃ r,b.drop (b.length-4 * m)=r:=⟨_,rfl⟩
   have hrl:rest.length=4 * m:=by rw [← hrest,List.length_drop];omega
   rw [hrest]
   refine Zau ?_
   refine ao1 (by decide) (q20 (r:=((b.length-4 * m:Nat):Int)) rfl rfl (by rw [show (p:Int)+1=((b.length-4 * m:Nat):Int) by omega];exact qd (by omega) (by omega))) ?_
   refine ao1 (by decide) (qbv (ys:=rest.map q15) rfl (Bd.some rfl rfl) (by simp) (q11 _) (by rw [← hrest,List.map_drop])) ?_
   refine ao1 (by decide) (V1.up (q3g (cs:=[_,.bool _]) rfl)) ?_
   refine ao2 Y1o (q8v (sz:=2) (v:=.agg _) rfl rfl rfl rfl (by decide) rfl) ?_
   refine Zni ?_
   refine Z3m ?_
   refine q1v (k:=3) 10 1 rfl (by decide) rfl ?_
   refine q16 ?_
   refine Z2d ?_
   refine Z8q ?_
   refine Z1d ?_
   refine qm (G:=Nat) (fun j=>j≤m) (fun j=>[(0,.pl (b.map q15)),(2,.pt (Lid H.length 0) 0 0 0),(7,.pt (Lid H.length 1) 0 0 0),(9,.pt (Lid H.length 2) 0 0 0),(10,.sl (Lid H.length 3) j 0 j j),(47,.int .i64 (m:Int)),(48,.int .i64 (j:Int))]) (fun j=>H++[⟨0,7,[q1k q2h]⟩,⟨0,7,[q1k s]⟩,⟨0,2,[[.pl ((rest.drop (4 * j)).map q15),.bool false]]⟩,⟨j,1,(q5o j rest).map eI⟩]) (fun j=>m-j) 0 (Nat.zero_le _) Y8 (.inl rfl) ?_
   intro j hj
   have hjl:=q7i j rest
   refine Z43 ?_
   refine qa rfl (fun hc=>?_) (fun hc=>?_)
   ·have hjm:j<m:=by simpa using hc
    have cn:=fun H id hid=>qbd (rest.drop (4 * j)) false 4 (by decide) H id 0 hid
    have hge:¬ (rest.drop (4 * j)).length<4:=by rw [List.length_drop];omega
    rw [rnV,rnL,rnB,if_neg hge,if_neg hge,if_neg hge,List.drop_drop] at cn
    have hsn:=qez j rest
    have hx:=q92 4 ((rest.drop (4 * j)).take 4) Ys
    generalize q51 ((rest.drop (4 * j)).take 4)=x at *
    refine Z8t ?_
    refine Zhz ?_
    refine ao2 Y1o (V2.callm (k:=2) (cn _ (Lid H.length 2) (lk rfl rfl)) rfl rfl) ?_
    refine ao1 (by decide) (qp (r:=(x:Int)) rfl (qd (by omega) (by omega))) ?_
    refine ao2 Y1o (q5e (sz:=1) (v:=.int .i64 (x:Int)) (cs:=[.int .i64 (x:Int)]) rfl (by decide) (by decide) rfl rfl rfl rfl rfl) ?_
    refine ao2 Y1o (q46 rfl rfl rfl rfl rfl (Src.pl (ys:=[[.int .i64 (x:Int)]]) rfl Yi) rfl Y22 (by simp) Y22 Y22) ?_
    refine Z8x ?_
    refine Zmi ?_
    refine Z2 ?_
    refine ao1 (by decide) (q20 (r:=((j+1:Nat):Int)) rfl rfl (qd (by omega) (by omega))) ?_
    refine Z4e ?_
    refine ⟨j+1,by omega,by omega,Y8,.inl ?_⟩
    rw [hsn,List.take_of_length_le Y22,show 4 * (j+1)=4 * j+4 by omega]
    simp
   ·have hjm:j=m:=by simp at hc;omega
    subst hjm
    refine Z37 ?_
    refine Z8s ?_
    refine Zoy ?_
    refine Z8w ?_
    refine Z1p ?_
    refine Z7f ?_
    refine Z1d ?_
    refine qr (ys:=(q5o j rest).map eI) 3 rfl rfl rfl rfl Yk (by simp [hjl]) (qd4 0 _) ?_
    refine q2y ?_
    exact Znl
  ·have hsub:qci b m=false:=by rw [qci,decide_eq_false h4];rfl
   rw [hsub,if_neg (by decide)] at i2
   refine Z7a ?_
   refine Zp4 ?_
   refine ao1 (by decide) (q3e (r:=(b.length:Int)-((4 * m:Nat):Int)) rfl rfl (by rw [List.length_map];exact qd (by omega) (by omega))) ?_
   refine ao1 (by decide) (q3e (r:=(b.length:Int)-((4 * m:Nat):Int)-1) rfl rfl (qd (by omega) (by omega))) ?_
   refine Za ?_
   refine qn 31 (.bool true) ?_ ?_
   ·refine Zw ?_
    refine qb rfl rfl (fun hg2=>?_) (fun hg2=>?_)
    ·refine Z5m ?_
     exact Z10
    ·exfalso;simp at hg2;omega
   refine Z1 ?_
   refine qa rfl (fun hc=>?_) (fun hc=>?_)
   ·refine Z11 ?_
    refine Zp5 ?_
    refine Za ?_
    exact ⟨m+1,by omega,⟨by omega,by rw [show 17-(m+1)=16-m by omega];exact i2⟩,Y8,.inl rfl⟩
   ·simp at hc
 ·have hm17:m=17:=by simp at hc;omega
  subst hm17
  rw [show 17-17=0 from rfl,qxz] at i2
  rw [subT,i2]
  refine Z2 ?_
  refine Zox ?_
  refine Zoy ?_
  refine Z3d ?_
  refine Z1p ?_
  refine Zdu ?_
  refine Z1d ?_
  refine q26 3 rfl ?_
  refine q2y ?_
  exact Znl
def fin (o:OOp) (left:List UInt8) (bad:Bool):OOp×Int:=if (bad||decide (0<left.length)||!q4i o)=true then (op0,3) else (o,0)
theorem qeh (o:OOp) (l:List UInt8):fin o l true=(op0,3):=rfl
theorem qo8 {o:OOp} {l:List UInt8} {bad:Bool} (h:0<l.length):fin o l bad=(op0,3):=by
 rw [fin,decide_eq_true h,if_pos (by simp)]
theorem quc (o:OOp):fin o [] false=qpd o:=by
 rw [fin,qpd]
 cases q4i o<;>rfl
theorem qvs {o:OOp} {l:List UInt8} (h:l=[]):fin o l false=qpd o:=by subst h;exact quc o
theorem q127 {o:OOp} {l:List UInt8} {bad:Bool} (h:q4i o=false):fin o l bad=(op0,3):=by
 rw [fin,h,if_pos (by simp)]
theorem q13d {c:UInt8} {r:List UInt8} (hc:c.toNat=1):q23 (c :: r)=match qxe r with
  | none=>fin ⟨1,q2h,[],0,0,0,[]⟩ [] true
  | some x=>fin ⟨1,x.1,x.2,0,0,0,[]⟩ [] false:=by
 rw [q23,if_neg (by simp),List.getD_cons_zero,if_pos hc,List.drop_succ_cons,List.drop_zero]
 cases qxe r with
 | none=>rfl
 | some x=>simp only [quc]
theorem q11z {c:UInt8} {r:List UInt8} (hc:c.toNat=2∨c.toNat=5):q23 (c :: r)=fin ⟨c.toNat,q2h,[],(rnV r 4:Int),(rnV (rnL r 4) 4:Int),0,[]⟩ (rnL (rnL r 4) 4) (rnB (rnL r 4) 4 (rnB r 4 false)):=by
 rw [q23,if_neg (by simp),List.getD_cons_zero,if_neg (by omega),if_pos hc]
 by_cases h8:r.length=8
 ·rw [if_neg (by simp [h8])]
  have e1:¬ r.length<4:=by omega
  have e2:¬ (r.drop 4).length<4:=by rw [List.length_drop];omega
  rw [rnV,rnV,rnL,rnL,rnB,rnB,if_neg e1,if_neg e1,if_neg e1,if_neg e2,if_neg e2,if_neg e2]
  rw [qvs (List.drop_of_length_le Y18)]
  rw [List.drop_succ_cons,List.drop_zero,show List.drop 5 (c :: r)=r.drop 4 from rfl,List.take_of_length_le (l:=r.drop 4) Y18]
 ·rw [if_pos Y22]
  by_cases e1:r.length<4
  ·have:rnB (rnL r 4) 4 (rnB r 4 false)=true:=by rw [rnL,if_pos e1,rnB,if_pos (by decide)]
   rw [this,qeh]
  ·have hL:rnL r 4=r.drop 4:=if_neg e1
   rw [hL]
   by_cases e2:(r.drop 4).length<4
   ·rw [show rnB (r.drop 4) 4 (rnB r 4 false)=true from if_pos e2,qeh]
   ·rw [qo8 (by rw [rnL,if_neg e2,List.length_drop];rw [List.length_drop] at e2 ⊢;omega)]
theorem q13u {c:UInt8} {r:List UInt8} (hc:c.toNat=3):q23 (c :: r)=fin ⟨3,q2h,[],0,0,IntKind.i64.wrap (rnV r 8:Int),[]⟩ (rnL r 8) (rnB r 8 false):=by
 rw [q23,if_neg (by simp),List.getD_cons_zero,if_neg (by omega),if_neg (by omega),if_pos hc]
 by_cases h8:r.length=8
 ·rw [if_neg (by simp [h8])]
  have e1:¬ r.length<8:=by omega
  rw [rnV,rnL,rnB,if_neg e1,if_neg e1,if_neg e1,qvs (List.drop_of_length_le (by omega)),List.drop_succ_cons,List.drop_zero,List.take_of_length_le (by omega)]
 ·rw [if_pos Y22]
  by_cases e1:r.length<8
  ·rw [show rnB r 8 false=true from if_pos e1,qeh]
  ·rw [qo8 (by rw [rnL,if_neg e1,List.length_drop];omega)]
theorem q13k {c:UInt8} {r:List UInt8} (hc:c.toNat=4):q23 (c :: r)=fin ⟨4,q2h,[],0,0,IntKind.i64.wrap (rnV r 8:Int),(q27 (rnL r 8)).1⟩ [] (rnB r 8 false||decide ((q27 (rnL r 8)).2≠0)):=by
 rw [q23,if_neg (by simp),List.getD_cons_zero,if_neg (by omega),if_neg (by omega),if_neg (by omega),if_pos hc,show List.drop 9 (c :: r)=r.drop 8 from rfl,List.drop_succ_cons,List.drop_zero]
 by_cases e1:r.length<8
 ·rw [if_pos (.inl Y22),show rnB r 8 false=true from if_pos e1,Bool.true_or,qeh]
 ·rw [rnV,rnL,rnB,if_neg e1,if_neg e1,if_neg e1,Bool.false_or]
  by_cases e2:(q27 (r.drop 8)).2=0
  ·rw [if_neg (by simp [e2];omega),decide_eq_false (by simp [e2]),quc]
  ·rw [if_pos (.inr e2),decide_eq_true e2,qeh]
theorem q115 {c:UInt8} {r:List UInt8} (h:c.toNat≠1∧c.toNat≠2∧c.toNat≠5∧c.toNat≠3∧c.toNat≠4):q23 (c :: r)=fin ⟨c.toNat,q2h,[],0,0,0,[]⟩ r false:=by
 rw [q23,if_neg (by simp),List.getD_cons_zero,if_neg h.1,if_neg (by omega),if_neg (by omega),if_neg (by omega),q127]
 unfold q4i
 simp only
 rw [if_neg (by omega),if_neg (by omega),if_neg (by omega),if_neg (by omega)]
def zOp:List AV:=[.int .i64 0,.int .i64 0,.int .i64 0,.int .i64 0,.str ⟨#[]⟩,.bool false,.int .i64 0,.int .i64 0,.nsl,.int .i64 0,.int .i64 0,.int .i64 0,.nsl]
structure ROp (H M : qf) (p q : Nat) (o : OOp) (left : List UInt8) (bad : Bool) : Prop where
 pre:∃ s,M=H++s
 out:M[Lid H.length 0]?=some ⟨0,13,[zOp]⟩
 op:M[p]?=some ⟨0,13,[eOp o]⟩
 rd:M[q]?=some ⟨0,2,[[.pl (left.map q15),.bool bad]]⟩
 hp:Lid H.length 0<p
 hq:Lid H.length 0<q
 ne:p≠q
theorem ROp.setP {H M:qf} {p q:Nat} {o o':OOp} {left:List UInt8} {bad:Bool} (h:ROp H M p q o left bad):ROp H (M.set p ⟨0,13,[eOp o']⟩) p q o' left bad:=by
 obtain ⟨s,hs⟩:=h.pre
 have h0:Lid H.length 0=H.length:=rfl
 have h1:=h.hp
 refine ⟨⟨s.set (p-H.length) _,by rw [hs,List.set_append_right _ _ (by omega)]⟩,?_,List.getElem?_set_self (List.getElem?_eq_some_iff.1 h.op).1,?_,h.hp,h.hq,h.ne⟩
 ·rw [List.getElem?_set_ne (by omega)];exact h.out
 ·rw [List.getElem?_set_ne h.ne];exact h.rd
theorem ROp.setQ {H M:qf} {p q:Nat} {o:OOp} {left left':List UInt8} {bad bad':Bool} (h:ROp H M p q o left bad):ROp H (M.set q ⟨0,2,[[.pl (left'.map q15),.bool bad']]⟩) p q o left' bad':=by
 obtain ⟨s,hs⟩:=h.pre
 have h0:Lid H.length 0=H.length:=rfl
 have h1:=h.hq
 refine ⟨⟨s.set (q-H.length) _,by rw [hs,List.set_append_right _ _ (by omega)]⟩,?_,?_,List.getElem?_set_self (List.getElem?_eq_some_iff.1 h.rd).1,h.hp,h.hq,h.ne⟩
 ·rw [List.getElem?_set_ne (by omega)];exact h.out
 ·rw [List.getElem?_set_ne h.ne.symm];exact h.op
theorem ROp.app {H M L:qf} {p q:Nat} {o:OOp} {left:List UInt8} {bad:Bool} (h:ROp H M p q o left bad):ROp H (M++L) p q o left bad:=by
 obtain ⟨s,hs⟩:=h.pre
 exact ⟨⟨s++L,by rw [hs,List.append_assoc]⟩,lkF h.out,lkF h.op,lkF h.rd,h.hp,h.hq,h.ne⟩
theorem qmq (o:OOp) (H:qf):AC Tryz.prog 9 [.agg (eOp o)] H (Ret (.bool (decide (o.needs.length≤20)&&decide (o.set.length≤60))) H):=by
 refine AC.body (N:=13) [.tmp 2] Tryz.func9 rfl rfl rfl (Nat.le_of_ble_eq_true rfl) fun B hB=>?_
 refine Z3t ?_
 refine Z2j ?_
 refine qn 2 (.bool (decide (o.needs.length≤20)&&decide (o.set.length≤60))) ?_ ?_
 ·refine Z3v ?_
  refine Z3x ?_
  refine Zi ?_
  refine qb rfl rfl (fun hg4=>?_) (fun hg4=>?_)
  ·refine Z6z ?_
   refine Z9a ?_
   refine Zy ?_
   exact Zo
  ·refine Z4n ?_
   exact Zo
 exact Z21
structure GRe where
 p:Nat
 q:Nat
 M:qf
structure GRf where
 o:OOp
 left:List UInt8
 bad:Bool
 M:qf
theorem qxq (b:List UInt8) (m:Nat):(qyh b m).2.length=m:=q7i _ _
theorem qu2 {c:UInt8} {r:List UInt8} (hc:c.toNat=1):∃ s l ok,subT r = .tup [.agg (q1k s),.pl (l.map eI),.bool ok]∧q23 (c :: r)=fin ⟨c.toNat,s,l,0,0,0,[]⟩ [] (!ok)∧l.length≤17:=by
 have h:=q13d (r:=r) hc
 rw [h,subT,hc]
 cases e:qxe r with
 | none=>exact ⟨q2h,[],false,rfl,rfl,by decide⟩
 | some x =>
  refine ⟨x.1,x.2,true,rfl,rfl,?_⟩
  obtain ⟨n,_,h2,_,h4⟩:=qjd 17 0 e
  rw [h4,qxq];omega
theorem q10k (r:List UInt8) (n:Nat):rnV r n<256 ^ n:=by
 rw [rnV]
 split
 ·exact Nat.pow_pos (by decide)
 ·exact q92 n _ Y19
theorem qmn (b:List UInt8):(q27 b).1.length≤1000000:=by
 by_cases h:(q27 b).2=0
 ·have:=qjb (qha h).1
  omega
 ·rw [q27] at h ⊢
  split
  ·simp
  ·rename_i hn
   rw [if_neg hn] at h
   split
   ·simp
   ·rename_i l r hr
    rw [hr] at h
    simp only at h
    split
    ·rename_i h0
     rw [if_pos h0] at h
     exact absurd rfl h
    ·simp
set_option maxHeartbeats 0 in
theorem qvm (b:List UInt8) (hl:b.length≤9000000) (H:qf):AC Tryz.prog 12 [.pl (b.map q15)] H (Ret (.tup [.agg (eOp (q23 b).1),.int .i64 (q23 b).2]) H):=by
 refine AC.body (N:=115) [.cell 2 26,.tmp 3] Tryz.func12 rfl rfl rfl (Nat.le_of_ble_eq_true rfl) fun B hB=>?_
 refine Z2 ?_
 refine Z5d ?_
 refine Z4 ?_
 refine Z78 ?_
 refine Z6a ?_
 refine Z16 ?_
 refine qa rfl (fun hc=>?_) (fun hc=>?_)
 ·have hb:b=[]:=by
   cases b with
   | nil=>rfl
   | cons x t=>simp at hc;omega
  rw [show q23 b=(op0,3) by rw [hb];rfl]
  refine Z2 ?_
  refine Zp7 ?_
  refine Z5r ?_
  exact Zdv
 obtain ⟨c,r,rfl⟩:∃ c r,b=c :: r:=by
  cases b with
  | nil=>simp at hc
  | cons c r=>exact ⟨c,r,rfl⟩
 clear hc
 have hrl:r.length≤9000000:=by simp at hl;omega
 have hc0:((c :: r).map q15)[(0:Int).toNat]?=some (q15 c):=rfl
 have hcc:=c.toNat_lt
 refine Z1 ?_
 refine q9b (G:=GRe) (fun g=>ROp H g.M g.p g.q ⟨c.toNat,q2h,[],0,0,0,[]⟩ r false) (fun g=>[(2,.pt (Lid H.length 0) 0 0 0),(4,.pt g.p 0 0 0),(5,.pt g.q 0 0 0)]) (fun g=>g.M++[]) ?_ ?_
 ·refine Z1 ?_
  refine Z9j ?_
  refine Z6i ?_
  refine Zp8 ?_
  refine Zp9 ?_
  refine Zpa ?_
  refine aq0 4 rfl Y1v (by decide) (fun _=>V1.up (q3g (cs:=[.int _ _,.int _ _,.int _ _,.int _ _,.str _,.bool _,.int _ _,.int _ _,_,.int _ _,.int _ _,.int _ _,_]) rfl)) ?_
  refine Zpb ?_
  refine aq0 6 rfl Y1v (by decide) (fun _=>qbv (l:=1) (ys:=r.map q15) rfl (Bd.some rfl rfl) (by simp) (q11 _) rfl) ?_
  refine aq0 7 rfl Y1v (by decide) (fun _=>V1.up (q3g (cs:=[_,.bool _]) rfl)) ?_
  refine qpl [8,9] Y1v (by simp) Y1f ?_
  simp only [List.forall_mem_cons,List.not_mem_nil,false_implies,implies_true,and_true]
  refine ⟨?_,?_⟩
  ·refine Zpc ?_
   refine aqs 9 rfl Y1v Y1f Y1o (q38 (sz:=13) rfl (by decide) rfl) ?_
   refine Zpd ?_
   refine Zpe ?_
   refine Z1l ?_
   try dsimp only [List.length_cons,List.length_nil,Nat.reduceAdd,AV.up,put,AV.cells,List.cons_append,List.nil_append,List.set_cons_zero,List.set_cons_succ]
   exact q1u ⟨Lid H.length 2,Lid H.length 1,_⟩ ⟨⟨_,rfl⟩,lk rfl rfl,lk rfl rfl,lk rfl rfl,by simp [Lid],by simp [Lid],by simp [Lid]⟩ Y8 (.inl (List.append_nil _).symm)
  ·refine aat rfl Y1o (q38 (sz:=13) rfl (by decide) rfl) ?_
   refine qpl [8,10] Y1v (by simp) Y1f ?_
   simp only [List.forall_mem_cons,List.not_mem_nil,false_implies,implies_true,and_true]
   refine ⟨?_,?_⟩
   ·refine Zpc ?_
    refine Zpd ?_
    refine Zpe ?_
    refine Z1l ?_
    try dsimp only [List.cons_append,List.nil_append,List.length_cons,List.length_nil,Nat.reduceAdd,AV.up,put,AV.cells,List.set_cons_zero,List.set_cons_succ]
    exact q1u ⟨Lid H.length 1,Lid H.length 2,_⟩ ⟨⟨_,rfl⟩,lk rfl rfl,lk rfl rfl,lk rfl rfl,by simp [Lid],by simp [Lid],by simp [Lid]⟩ Y8 (.inl (List.append_nil _).symm)
   ·refine aat rfl Y21 (q2c (sz:=13) rfl rfl rfl rfl rfl rfl rfl rfl (Nat.le_of_ble_eq_true rfl)) ?_
    refine aqs 8 rfl Y1v Y1f Y1o (q8v (sz:=2) (v:=.agg _) rfl rfl rfl rfl (by decide) rfl) ?_
    refine Zpe ?_
    refine Z1l ?_
    try dsimp only [List.cons_append,List.nil_append,List.length_cons,List.length_nil,Nat.reduceAdd,List.set_cons_zero,List.set_cons_succ,AV.up,put,AV.cells]
    exact q1u ⟨Lid H.length 1,Lid H.length 2,_⟩ ⟨⟨_,rfl⟩,lk rfl rfl,lk rfl rfl,lk rfl rfl,by simp [Lid],by simp [Lid],by simp [Lid]⟩ Y8 (.inl (List.append_nil _).symm)
 clear hc0
 rintro ⟨p,q,M⟩ hI
 simp only at hI ⊢
 have hF:=hI.op
 have hF1:=hI.rd
 refine Z2 ?_
 refine Zi1 ?_
 refine ao1 (by decide) (qh (v:=.int _ _) rfl (lkF hF) rfl rfl rfl) ?_
 refine Z3y ?_
 refine Z96 ?_
 refine q9b (G:=GRf) (fun g=>ROp H g.M p q g.o g.left g.bad∧q23 (c :: r)=fin g.o g.left g.bad∧g.o.needs.length≤1000000∧g.o.set.length≤1000000) (fun g=>[(2,.pt (Lid H.length 0) 0 0 0),(4,.pt p 0 0 0),(5,.pt q 0 0 0)]) (fun g=>g.M++[]) ?_ ?_
 ·refine Z4p ?_
  refine qa rfl (fun hc=>?_) (fun hc=>?_)
  ·have hk:c.toNat=1:=by simp at hc;omega
   clear hc
   obtain ⟨s,l,ok,e1,e2,e3⟩:=qu2 (r:=r) hk
   have cs:=fun H=>qni r (by omega) H
   rw [e1] at cs
   refine Zi0 ?_
   refine Zpf ?_
   refine Zpg ?_
   refine Zph ?_
   refine Zp6 ?_
   refine Z7l ?_
   refine Zi6 ?_
   refine Z5y ?_
   refine Zos ?_
   refine Zoy ?_
   refine Z3p ?_
   refine Z1p ?_
   try dsimp only [Nat.reduceAdd,put,List.length_nil,List.nil_append,List.set_cons_zero]
   have hI1:=hI.setP (o':=⟨c.toNat,s,[],0,0,0,[]⟩)
   have hI2:=hI1.setP (o':=⟨c.toNat,s,l,0,0,0,[]⟩)
   have hI3:=hI2.setQ (left':=r) (bad':=!ok)
   have hI4:=hI3.setQ (left':=[]) (bad':=!ok)
   refine Zi0 ?_
   refine Zhz ?_
   refine Z36 ?_
   refine Z3g ?_
   refine Zh ?_
   refine Z19 ?_
   refine Zi1 ?_
   refine ao2 Y21 (q1a (sz:=7) (v:=.agg (q1k s)) (r':=eOp ⟨c.toNat,s,[],0,0,0,[]⟩) rfl hF rfl rfl rfl rfl rfl (Nat.le_of_ble_eq_true rfl) rfl) ?_
   refine Zpi ?_
   refine ao2 Y21 (q1a (sz:=1) (v:=.pl (l.map eI)) (r':=eOp ⟨c.toNat,s,l,0,0,0,[]⟩) rfl hI1.op rfl rfl rfl rfl rfl (Nat.le_of_ble_eq_true rfl) rfl) ?_
   refine Zpj ?_
   refine Zpk ?_
   refine ao2 Y21 (q1a (sz:=1) (v:=.bool (!ok)) (r':=[.pl (r.map q15),.bool (!ok)]) rfl hI2.rd rfl rfl rfl rfl rfl (Nat.le_of_ble_eq_true rfl) rfl) ?_
   refine Zpl ?_
   refine Zpm ?_
   refine ao2 Y21 (qbn (sz:=1) (v:=.pl []) (r':=[.pl [],.bool (!ok)]) rfl hI3.rd rfl rfl rfl rfl rfl (Nat.le_of_ble_eq_true rfl) rfl) ?_
   refine Z5i ?_
   refine Z1 ?_
   exact q1u ⟨⟨c.toNat,s,l,0,0,0,[]⟩,[],!ok,_⟩ ⟨hI4.app,e2,by simp only;omega,by simp⟩ Y8 (.inl (List.append_nil _).symm)
  have hk1:¬ c.toNat=1:=by simp at hc;omega
  clear hc
  refine Z4p ?_
  refine q3x ([(2,.pt (Lid H.length 0) 0 0 0),(4,.pt p 0 0 0),(5,.pt q 0 0 0),(25,.int .i64 (c.toNat:Int)),(49,.bool (decide (c.toNat=2∨c.toNat=5)))]) (M++[]) ?_ ?_
  ·refine Z1 ?_
   refine qa rfl (fun hc=>?_) (fun hc=>?_)
   ·have hk:c.toNat=2:=by simp at hc;omega
    rw [hc]
    refine Z1 ?_
    refine ⟨?_,.inl rfl⟩
    rw [show decide (c.toNat=2∨c.toNat=5)=true from decide_eq_true (.inl hk)]
    exact Y8
   ·have hk:¬ c.toNat=2:=by simp at hc;omega
    refine q16 ?_
    refine Z95 ?_
    refine ⟨?_,.inl rfl⟩
    rw [show decide (c.toNat=2∨c.toNat=5)=((c.toNat:Int) == 5) by rw [Bool.eq_iff_iff];simp [hk];omega]
    exact Y8
  refine Z1 ?_
  refine qa rfl (fun hc=>?_) (fun hc=>?_)
  ·have hk:c.toNat=2∨c.toNat=5:=of_decide_eq_true hc
   clear hc
   have e2:=q11z (r:=r) hk
   have v1:=q10k r 4
   have v2:=q10k (rnL r 4) 4
   have hI1:=hI.setQ (left':=rnL r 4) (bad':=rnB r 4 false)
   have hI2:=hI1.setP (o':=⟨c.toNat,q2h,[],(rnV r 4:Int),0,0,[]⟩)
   have hI3:=hI2.setQ (left':=rnL (rnL r 4) 4) (bad':=rnB (rnL r 4) 4 (rnB r 4 false))
   have hI4:=hI3.setP (o':=⟨c.toNat,q2h,[],(rnV r 4:Int),(rnV (rnL r 4) 4:Int),0,[]⟩)
   refine Zi0 ?_
   refine ao2 Y1o (V2.callF (qbd r false 4 (by decide) _ q 0 (lkF hI.rd)) rfl hI.rd) ?_
   refine ao1 (by decide) (qp (r:=(rnV r 4:Int)) rfl (qd (by omega) (by omega))) ?_
   refine Zpi ?_
   refine ao2 Y21 (q1a (sz:=1) (v:=.int .i64 (rnV r 4:Int)) (r':=eOp ⟨c.toNat,q2h,[],(rnV r 4:Int),0,0,[]⟩) rfl hI1.op rfl rfl rfl rfl rfl (Nat.le_of_ble_eq_true rfl) rfl) ?_
   refine Z5i ?_
   refine Zi0 ?_
   refine ao2 Y1o (V2.callF (qbd (rnL r 4) (rnB r 4 false) 4 (by decide) _ q 0 (lkF hI2.rd)) rfl hI2.rd) ?_
   refine ao1 (by decide) (qp (r:=(rnV (rnL r 4) 4:Int)) rfl (qd (by omega) (by omega))) ?_
   refine ao1 (by decide) (qc rfl (lkF hI3.op) rfl (by decide)) ?_
   refine ao2 Y21 (q1a (sz:=1) (v:=.int .i64 (rnV (rnL r 4) 4:Int)) (r':=eOp ⟨c.toNat,q2h,[],(rnV r 4:Int),(rnV (rnL r 4) 4:Int),0,[]⟩) rfl hI3.op rfl rfl rfl rfl rfl (Nat.le_of_ble_eq_true rfl) rfl) ?_
   refine Z5i ?_
   refine Z1 ?_
   exact q1u ⟨_,_,_,_⟩ ⟨hI4,e2,by simp,by simp⟩ Y8 (.inl rfl)
  have hk2:¬ (c.toNat=2∨c.toNat=5):=of_decide_eq_false hc
  clear hc
  refine Z4p ?_
  refine qa rfl (fun hc=>?_) (fun hc=>?_)
  ·have hk:c.toNat=3:=by simp at hc;omega
   clear hc
   have e2:=q13u (r:=r) hk
   rw [show (3:Int)=(c.toNat:Int) by omega] at e2
   have hI1:=hI.setQ (left':=rnL r 8) (bad':=rnB r 8 false)
   have hI2:=hI1.setP (o':=⟨c.toNat,q2h,[],0,0,IntKind.i64.wrap (rnV r 8:Int),[]⟩)
   refine Zid ?_
   refine Zpn ?_
   refine Zpo ?_
   refine Zpi ?_
   refine Zpp ?_
   refine Z5i ?_
   refine Z1 ?_
   exact q1u ⟨_,_,_,_⟩ ⟨hI2,e2,by simp,by simp⟩ Y8 (.inl rfl)
  have hk3:¬ c.toNat=3:=by simp at hc;omega
  clear hc
  refine Z4p ?_
  refine qa rfl (fun hc=>?_) (fun hc=>?_)
  ·have hk:c.toNat=4:=by simp at hc;omega
   clear hc
   have e2:=q13k (r:=r) hk
   rw [show (4:Int)=(c.toNat:Int) by omega] at e2
   have hI1:=hI.setQ (left':=rnL r 8) (bad':=rnB r 8 false)
   have hI2:=hI1.setP (o':=⟨c.toNat,q2h,[],0,0,IntKind.i64.wrap (rnV r 8:Int),[]⟩)
   refine Zi0 ?_
   refine Zpn ?_
   refine Zpo ?_
   refine Zpi ?_
   refine Zpp ?_
   refine Z5i ?_
   have cr:=fun H=>qlb (rnL r 8) H
   have hsl:=qmn (rnL r 8)
   generalize q27 (rnL r 8)=y at *
   obtain ⟨l,e⟩:=y
   simp only at cr e2 hsl
   refine Zi0 ?_
   refine Zpj ?_
   refine Zpk ?_
   refine ao1 (by decide) (qh (v:=.pl ((rnL r 8).map q15)) rfl (lkF hI2.rd) rfl rfl rfl) ?_
   refine Zpq ?_
   refine Zib ?_
   have hI3:=hI2.setP (o':=⟨c.toNat,q2h,[],0,0,IntKind.i64.wrap (rnV r 8:Int),l⟩)
   have hI4:=hI3.setQ (left':=rnL r 8) (bad':=rnB r 8 false||decide (e≠0))
   have hI5:=hI4.setQ (left':=[]) (bad':=rnB r 8 false||decide (e≠0))
   refine Zi0 ?_
   refine Zhz ?_
   refine Z3g ?_
   refine Zhz ?_
   refine Zpj ?_
   refine Zpk ?_
   refine ao1 (by decide) (qh (v:=.bool (rnB r 8 false)) rfl (lkF hI2.rd) rfl rfl rfl) ?_
   refine Zh ?_
   refine qb rfl rfl (fun hg7=>?_) (fun hg7=>?_)
   ·refine Z2u ?_
    refine Zm ?_
    refine Zpr ?_
    refine Zps ?_
    refine Zpl ?_
    refine Zpm ?_
    refine ao2 Y21 (q1a (sz:=1) (v:=.bool (rnB r 8 false||decide (e≠0))) (r':=[.pl ((rnL r 8).map q15),.bool (rnB r 8 false||decide (e≠0))]) rfl hI3.rd rfl rfl (congrArg AV.bool (by (rw [hg7];rfl))) rfl rfl (Nat.le_of_ble_eq_true rfl) rfl) ?_
    refine Zpt ?_
    refine Zpu ?_
    refine Zpv ?_
    refine Z9 ?_
    exact q1u ⟨_,_,_,_⟩ ⟨hI5,e2,by simp,by simp only;omega⟩ Y8 (.inl rfl)
   ·refine Zj ?_
    refine Zla ?_
    refine Zr ?_
    refine Zpr ?_
    refine Zps ?_
    refine Zpl ?_
    refine Zpm ?_
    refine ao2 Y21 (q1a (sz:=1) (v:=.bool (rnB r 8 false||decide (e≠0))) (r':=[.pl ((rnL r 8).map q15),.bool (rnB r 8 false||decide (e≠0))]) rfl hI3.rd rfl rfl (congrArg AV.bool (by (rw [hg7,Bool.false_or,Bool.eq_iff_iff];simp))) rfl rfl (Nat.le_of_ble_eq_true rfl) rfl) ?_
    refine Zpt ?_
    refine Zpu ?_
    refine Zpv ?_
    refine Z9 ?_
    exact q1u ⟨_,_,_,_⟩ ⟨hI5,e2,by simp,by simp only;omega⟩ Y8 (.inl rfl)
  have hk4:¬ c.toNat=4:=by simp at hc;omega
  refine Z1 ?_
  exact q1u ⟨_,_,_,_⟩ ⟨hI,q115 ⟨hk1,by omega,by omega,hk3,hk4⟩,by simp,by simp⟩ Y8 (.inl rfl)
 clear hF hF1 hI
 rintro ⟨o,left,bad,M2⟩ ⟨hI,e2,n1,n2⟩
 simp only at hI e2 n1 n2 ⊢
 have hF:=hI.op
 have hF1:=hI.rd
 obtain ⟨s,hs⟩:=hI.pre
 have hfin:∀ X,M2.set (Lid H.length 0) X++[]=H++s.set 0 X:=by
  intro X
  rw [hs,List.append_nil,List.set_append_right _ _ (by simp [Lid])]
  simp [Lid]
 have hsl:0<s.length:=by
  have:=(List.getElem?_eq_some_iff.1 hI.out).1
  rw [hs,List.length_append] at this
  have e:Lid H.length 0=H.length:=rfl
  omega
 have hlast:∀ X,(s.set 0 X)[0]?=some X:=fun X=>List.getElem?_set_self hsl
 rw [e2]
 refine Z1 ?_
 refine qn 112 (.bool (bad||decide (0<left.length)||!q4i o)) ?_ ?_
 ·refine Zhz ?_
  refine Zpf ?_
  refine Zpg ?_
  refine ao1 (by decide) (qh (v:=.bool _) rfl (lkF hF1) rfl rfl rfl) ?_
  refine Zh ?_
  refine qb rfl rfl (fun hg4=>?_) (fun hg4=>?_)
  ·refine Z48 ?_
   refine Z5k ?_
   refine Z5l ?_
   exact Zpw
  ·refine Zk6 ?_
   refine q1c rfl rfl (by decide) (qy rfl (lkF hF1) rfl) ?_
   refine Zpx ?_
   refine Zpy ?_
   refine Z9a ?_
   refine Z2y ?_
   refine Z2z ?_
   refine qb rfl rfl (fun hg12=>?_) (fun hg12=>?_)
   ·refine Z5l ?_
    exact Zpw
   ·refine q1c rfl rfl (by decide) (q1m rfl (lkF hF) rfl rfl rfl) ?_
    refine q5r rfl rfl (by decide) (V2.call (qou _ Y23 Y23 _) rfl) ?_
    refine Zh3 ?_
    exact Zpw
 refine Z1 ?_
 refine qa rfl (fun hc=>?_) (fun hc=>?_)
 ·rw [fin,if_pos hc]
  refine Z2 ?_
  refine Zp7 ?_
  refine ao2 Y21 (q1a (sz:=13) (v:=.agg (eOp op0)) (r':=eOp op0) rfl hI.out rfl rfl rfl rfl rfl (Nat.le_of_ble_eq_true rfl) rfl) ?_
  refine Z4 ?_
  refine Zdu ?_
  refine Z1 ?_
  rw [hfin]
  exact Zpz
 ·rw [fin,if_neg Y1u]
  refine Z2 ?_
  refine Zc2 ?_
  refine ao2 Y21 (q1a (sz:=13) (v:=.agg (eOp o)) (r':=eOp o) rfl hI.out rfl rfl rfl rfl rfl (Nat.le_of_ble_eq_true rfl) rfl) ?_
  refine Z4 ?_
  refine Z7f ?_
  refine Z1 ?_
  rw [hfin]
  exact Zpz
end Go.Av
namespace Go.Av
abbrev bs (l:List UInt8):ByteArray:=⟨l.toArray⟩
theorem q10a {a b:List UInt8}:bs a=bs b↔a=b:=by simp
section
variable {P : Program} {N : Nat} {env : Env} {H : qf} {ty : TypeId}
theorem q10g {x y:Operand} {t t':TypeId} {p q:List UInt8} (hx:aev env x = .str (bs p)) (hy:aev env y = .str (bs q)):V1 P N (.binOp .eql t x y t') ty env H (.bool (decide (p=q))):=by
 have:=q13j (P:=P) (N:=N) (H:=H) (ty:=ty) (t:=t) (t':=t') hx hy
 rwa [show decide (bs p=bs q)=decide (p=q) from decide_eq_decide.2 q10a] at this
theorem q10f {x y:Operand} {t t':TypeId} {p q:List UInt8} (hx:aev env x = .str (bs p)) (hy:aev env y = .str (bs q)):V1 P N (.binOp .neq t x y t') ty env H (.bool (!decide (p=q))):=by
 have:=qp5 (P:=P) (N:=N) (H:=H) (ty:=ty) (t:=t) (t':=t') hx hy
 rwa [show decide (bs p=bs q)=decide (p=q) from decide_eq_decide.2 q10a] at this
end
end Go.Av
namespace Go.Av
open Go.Proofs
theorem qsz (a b:Nat) (ha:a<65536) (hb:b<256):IntKind.i64.wrap (BitVec.ofInt IntKind.i64.bits ((a * 256:Nat):Int) ||| BitVec.ofInt IntKind.i64.bits (b:Int)).toNat=((a * 256+b:Nat):Int):=by
 show IntKind.i64.wrap (BitVec.ofInt IntKind.u64.bits ((a * 256:Nat):Int) ||| BitVec.ofInt IntKind.u64.bits ((b:Nat):Int)).toNat=_
 rw [BitVec.toNat_or,q8d _ (by omega),q8d _ (by omega)]
 have:a * 256 ||| b=a * 256+b:=by
  have h:=Nat.two_pow_add_eq_or_of_lt (i:=8) hb a
  rw [show (2:Nat) ^ 8 * a=a * 256 by omega] at h
  exact h.symm
 rw [this]
 exact qd (by omega) (by omega)
theorem qdu {n:Nat} (hn:n<65536):(two n).map q15=[[.int .u8 ((n / 256:Nat):Int)],[.int .u8 ((n % 256:Nat):Int)]]:=by
 rw [two,List.map_cons,List.map_cons,List.map_nil,q94 (by omega),show UInt8.ofNat n=UInt8.ofNat (n % 256) by rw [← UInt8.toNat_inj];simp,q94 (by omega)]
theorem qoe (a b:Nat):((a:Int).tmod (b:Int))=((a % b:Nat):Int):=by
 rw [Int.tmod_eq_emod_of_nonneg (by omega)];rfl
theorem q151 (n:Nat):(n:Int).fdiv (2 ^ min (8:Int).toNat IntKind.i64.bits)=((n / 256:Nat):Int):=by
 rw [show min (8:Int).toNat IntKind.i64.bits=8 from rfl,Int.fdiv_eq_ediv_of_nonneg _ (by decide)];rfl
theorem qlg (l:List UInt8) (H:qf) (hn:l.length≤100000000000000):AC Tryz.prog 63 [.pl (l.map q15)] H (Ret (.sl (Lid H.length 0) 0 0 l.length l.length) (H++[⟨0,1,l.map q15⟩])):=by
 refine AC.body (N:=8) [.tmp 2] Tryz.func63 rfl rfl rfl (Nat.le_of_ble_eq_true rfl) fun B hB=>?_
 refine Z3i ?_
 refine q6e rfl Y1o (qac rfl rfl _ _ _ _) ?_ (fun _ _ h=>h.elim)
 rintro _ _ ⟨nb,rfl,hnb,rfl⟩
 refine Z3k ?_
 refine qa rfl (fun hc=>?_) (fun hc=>?_)
 ·subst hc
  have hb:l=[]:=by
   cases l with
   | nil=>rfl
   | cons x b=>simp at hnb
  subst hb
  refine Z3f ?_
  refine Zbe ?_
  refine Z1d ?_
  refine Zbf ?_
  exact q2y (qag (G:=[]) hB (q2n rfl .nil) rfl rfl Y1q (by simp))
 ·refine Z2 ?_
  refine Zq0 ?_
  refine Z3g ?_
  refine ao2 Y1o (q6p (sz:=1) (bytes:=1) rfl (Src.pl rfl (q11 l)) rfl (by decide) Y22 Y22 rfl) ?_
  refine Zbg ?_
  refine Z1 ?_
  exact qag (G:=[]) hB (q2n rfl .nil) (congrArg (fun n=>AV.sl (Lid H.length 0) 0 0 n n) (show (l.map q15).length=l.length by simp)) (by simp) Y1q (by intro o ho r hr;simp only [List.mem_singleton] at ho;subst ho;exact q1g _ _ r hr)
theorem qa1 (l:List UInt8) (H:qf) (hn:l.length≤100000000000000):AC Tryz.prog 63 [.pl (l.map q15)] H (Ret (.pl (l.map q15)) H):=by
 refine AC.body (N:=8) [.tmp 2] Tryz.func63 rfl rfl rfl (Nat.le_of_ble_eq_true rfl) fun B hB=>?_
 refine Z3i ?_
 refine q6e rfl Y1o (qac rfl rfl _ _ _ _) ?_ (fun _ _ h=>h.elim)
 rintro _ _ ⟨nb,rfl,hnb,rfl⟩
 refine Z3k ?_
 refine qa rfl (fun hc=>?_) (fun hc=>?_)
 ·subst hc
  have hb:l=[]:=by
   cases l with
   | nil=>rfl
   | cons x b=>simp at hnb
  subst hb
  refine Z3n ?_
  exact q2y (q4u hB (q2n rfl .nil) rfl rfl)
 ·refine Z2 ?_
  refine Zq0 ?_
  refine Z3g ?_
  refine ao2 Y1o (q5h (sz:=1) (bytes:=1) rfl (Src.pl rfl (q11 l)) rfl (by decide) Y22 Y22 (q1g 0 l)) ?_
  exact Z3r
theorem qei (a b:List UInt8) (H:qf):AC Tryz.prog 47 [.pl (a.map q15),.pl (b.map q15)] H (Ret (.bool (decide (a=b))) H):=by
 refine AC.body (N:=10) [.tmp 4] Tryz.func47 rfl rfl rfl (Nat.le_of_ble_eq_true rfl) fun B hB=>?_
 refine Z1q ?_
 refine Z3h ?_
 refine Zq1 ?_
 refine Z3g ?_
 refine Zq1 ?_
 refine ao1 (by decide) (q10g rfl rfl) ?_
 exact Z1s
theorem qzz (n:Nat) (hn:n<65536) (H:qf):AC Tryz.prog 90 [.int .i64 (n:Int)] H (Ret (.sl (Lid H.length 0) 0 0 2 2) (H++[⟨0,1,(two n).map q15⟩])):=by
 rw [qdu hn]
 refine AC.body (N:=9) [.tmp 2] Tryz.func90 rfl rfl rfl (Nat.le_of_ble_eq_true rfl) fun B hB=>?_
 refine Z3f ?_
 refine Z11 ?_
 refine Zq2 ?_
 refine Zq3 ?_
 refine Z8 ?_
 refine Zq4 ?_
 refine ao2 Y1o (q7m (rows:=[[.int .u8 ((n / 256:Nat):Int)],[.int .u8 ((n % 256:Nat):Int)]]) rfl (by decide) (by decide) (by decide) rfl rfl (by simp) rfl) ?_
 refine Z8x ?_
 refine Zav ?_
 refine Z1 ?_
 exact qag (G:=[]) hB (q2n rfl .nil) rfl rfl Y1q (by intro o ho r hr;simp only [List.mem_singleton] at ho;subst ho;rw [← qdu hn] at hr;exact q1g _ _ r hr)
theorem qu1 (n:Nat) (hn:n<65536) (H:qf):AC Tryz.prog 90 [.int .i64 (n:Int)] H (Ret (.pl ((two n).map q15)) H):=by
 rw [qdu hn]
 refine AC.body (N:=9) [.tmp 2] Tryz.func90 rfl rfl rfl (Nat.le_of_ble_eq_true rfl) fun B hB=>?_
 refine Z3f ?_
 refine Z11 ?_
 refine Zq2 ?_
 refine Zq3 ?_
 refine Z8 ?_
 refine Zq4 ?_
 refine ao2 Y1o (qp1 (sz:=1) [[.int .u8 ((n / 256:Nat):Int)],[.int .u8 ((n % 256:Nat):Int)]] rfl (by decide) (by decide) (by decide) rfl rfl (by simp) rfl (by rw [← qdu hn];exact q1g 0 _)) ?_
 exact Z3r
theorem qwq {b:List UInt8} {k:Nat} {c:UInt8} (h:b[k]?=some c):qip (b.take (k+1))=chkS (qip (b.take k)) c:=by
 rw [qj h,qip,List.foldl_append];rfl
theorem qn9 (b:List UInt8):(qip b).1<251∧(qip b).2<251:=by
 have h:∀ (b:List UInt8) (q:Nat×Nat),q.1<251→q.2<251→(b.foldl chkS q).1<251∧(b.foldl chkS q).2<251:=by
  intro b
  induction b with
  | nil=>exact fun q h1 h2=>⟨h1,h2⟩
  | cons c b ih=>exact fun q h1 h2=>ih _ (Nat.mod_lt _ (by decide)) (Nat.mod_lt _ (by decide))
 exact h b (1,0) (by decide) (by decide)
set_option maxHeartbeats 0 in
theorem qkf (b:List UInt8) (hl:b.length≤9223372036854775807) (H:qf):AC Tryz.prog 91 [.pl (b.map q15)] H (Ret (.int .i64 (chk b:Int)) H):=by
 refine AC.body (N:=27) [.tmp 2] Tryz.func91 rfl rfl rfl (Nat.le_of_ble_eq_true rfl) fun B hB=>?_
 refine Z5 ?_
 refine Z2 ?_
 refine Z15 ?_
 refine Z7b ?_
 refine qm (G:=Nat) (fun k=>k≤b.length) (fun k=>[(0,.pl (b.map q15)),(3,.int .i64 ((qip (b.take k)).1:Int)),(4,.int .i64 ((qip (b.take k)).2:Int)),(7,.pl (b.map q15)),(8,.int .i64 (b.length:Int)),(9,.int .i64 (k:Int))]) (fun _=>H++[]) (fun k=>b.length-k) 0 (Nat.zero_le _) Y8 (Fit.refl _ _) ?_
 intro k hk
 refine Z43 ?_
 refine qa rfl (fun hc=>?_) (fun hc=>?_)
 ·have hlt:k<b.length:=by simpa using hc
  obtain ⟨c,hx,hxl⟩:=qo hlt
  have hr:=ql q15 hx
  have h1:=qn9 (b.take k)
  have h2:=qwq hx
  have h3:(qip (b.take (k+1))).1=((qip (b.take k)).1+c.toNat) % 251:=by rw [h2];rfl
  have h4:(qip (b.take (k+1))).2=((qip (b.take k)).2+((qip (b.take k)).1+c.toNat) % 251) % 251:=by rw [h2];rfl
  have hcc:=c.toNat_lt
  generalize hp:(qip (b.take k)).1=p at *
  generalize hq:(qip (b.take k)).2=q at *
  refine Zf8 ?_
  refine Z26 ?_
  refine ao1 (by decide) (qp (r:=(c.toNat:Int)) rfl (qd (by omega) (by omega))) ?_
  refine ao1 (by decide) (q20 (r:=((p+c.toNat:Nat):Int)) rfl rfl (qd (by omega) (by omega))) ?_
  refine ao1 (by decide) (qrt (r:=(((p+c.toNat) % 251:Nat):Int)) rfl rfl (by decide) (qoe _ 251)) ?_
  refine Z4 ?_
  generalize hp2:(p+c.toNat) % 251=p2 at *
  refine Z26 ?_
  refine ao1 (by decide) (q20 (r:=((q+p2:Nat):Int)) rfl rfl (qd (by omega) (by omega))) ?_
  refine ao1 (by decide) (qrt (r:=(((q+p2) % 251:Nat):Int)) rfl rfl (by decide) (qoe _ 251)) ?_
  refine Z4 ?_
  refine Zom ?_
  exact ⟨k+1,by omega,by omega,by simp only [h3,h4];exact Y8,.refl _ _⟩
 ·have:k=b.length:=by simp at hc;omega
  subst this
  rw [List.take_length]
  have h1:=qn9 b
  refine Z11 ?_
  refine ao1 (by decide) (quf (r:=(((qip b).2 * 256:Nat):Int)) rfl rfl (by decide) (by rw [show min (8:Int).toNat IntKind.i64.bits=8 from rfl];exact qd (by omega) (by omega))) ?_
  refine Z8 ?_
  refine ao1 (by decide) (o_or (r:=(((qip b).2 * 256+(qip b).1:Nat):Int)) rfl rfl (qsz _ _ (by omega) (by omega))) ?_
  exact Zc
theorem q10m (b:List UInt8):chk b<65536:=by
 have:=qn9 b
 unfold chk
 omega
set_option maxHeartbeats 0 in
theorem q12p (b e:List UInt8) (hl:b.length≤10000000000000) (he:e.length≤9223372036854775807) (H:qf):AC Tryz.prog 51 [.pl (b.map q15),.pl (e.map q15)] H (Ret (.tup [.pl ((q7b b e).1.map q15),.int .i64 (q7b b e).2]) H):=by
 refine AC.body (N:=31) [.tmp 4,.tmp 5] Tryz.func51 rfl rfl rfl (Nat.le_of_ble_eq_true rfl) fun B hB=>?_
 refine Zhf ?_
 refine Z3h ?_
 refine ao2 Y1o (V2.callo (qlg b _ (by omega)) rfl rfl) ?_
 refine Zbg ?_
 refine Z1 ?_
 refine qn 17 (.bool (!okE e)) ?_ ?_
 ·refine Z6c ?_
  refine Zv ?_
  refine qb rfl rfl (fun hg3=>?_) (fun hg3=>?_)
  ·refine Z5l ?_
   exact Zq5
  ·refine Z9b ?_
   refine Z2y ?_
   refine Zr ?_
   exact Zq5
 refine Z1 ?_
 refine qa rfl (fun hc=>?_) (fun hc=>?_)
 ·have hk:okE e=false:=by simpa using hc
  rw [show q7b b e=(b,1) by rw [q7b,hk];rfl]
  refine Zhh ?_
  try dsimp only
  refine Z1d ?_
  refine qr (ys:=b.map q15) 4 rfl rfl rfl rfl Yn (by simp) (q1g 0 _) ?_
  exact Zhj
 have hk:okE e=true:=by simpa using hc
 clear hc
 have hke:1≤e.length∧e.length≤4096:=by simpa [okE] using hk
 rw [show q7b b e=(b++q3l e,0) by rw [q7b,hk];rfl]
 refine Z6a ?_
 refine ao2 Y1o (V2.callo (qzz e.length (by omega) _) (by show [AV.int .i64 ((List.map q15 e).length:Int)]=_;rw [List.length_map]) rfl) ?_
 refine Z3g ?_
 refine ao2 Y1o (qcy (bs:=two e.length) (cs:=e) (en:=q15) rfl rfl rfl (Src.pl rfl (q11 _)) rfl (by simp [two];omega) (by simp [two];omega)) ?_
 refine Z8x ?_
 try dsimp only [List.length_cons,List.length_nil,Nat.reduceAdd,put,List.cons_append,List.nil_append,List.set_cons_succ,List.set_cons_zero]
 refine Z1 ?_
 refine qr (ys:=(two e.length++e).map q15) 7 rfl rfl rfl rfl Yn (by simp) (q1g 0 _) ?_
 generalize hm:two e.length++e=m
 have hml:m.length=e.length+2:=by rw [← hm,List.length_append,q12e];omega
 refine Zb3 ?_
 refine Z3g ?_
 refine ao2 Y1o (qcy (bs:=b) (cs:=m) (en:=q15) rfl rfl rfl (Src.pl rfl (q11 _)) rfl (by omega) (by omega)) ?_
 refine Z3g ?_
 refine ao2 Y1o (V2.call (qkf m (by omega) _) rfl) ?_
 refine ao2 Y1o (V2.call (qu1 (chk m) (q10m m) _) rfl) ?_
 refine ao2 Y1o (qcy (bs:=b++m) (cs:=two (chk m)) (en:=q15) rfl rfl rfl (Src.pl rfl (q11 _)) rfl (by simp [two];omega) (by simp [two];omega)) ?_
 refine Z8w ?_
 refine Z4 ?_
 refine Zns ?_
 rw [show b++q3l e=b++m++two (chk m) by rw [q3l,hm,List.append_assoc]]
 refine Z1d ?_
 refine qr (ys:=(b++m++two (chk m)).map q15) 4 rfl rfl rfl rfl Yn (by simp) (q1g 0 _) ?_
 exact Zhj
theorem q106 {P:Program} {N:Nat} {env:Env} {H:qf} {ty t e:TypeId} {x:Operand} {lo hi:Option Operand} {xs ys:List (List AV)} {l h sz:Nat} {agg:Bool} [hu:SlI P t e] [TyI P e agg sz] (hx:aev env x = .pl xs) (hl:Bd env lo 0 l) (hh:Bd env hi xs.length h) (h1:l≤h) (h2:h≤xs.length) (hsz:∀ r∈xs,r.length=sz) (hy:(xs.drop l).take (h-l)=ys) :
  V1 P N (.slice t x lo hi Option.none) ty env H (.pl ys):=by
 have:=qay (P:=P) (N:=N) (env:=env) (H:=H) (ty:=ty) (t:=t) (e:=e) (agg:=agg) hx hl hh h1 h2 hsz
 rwa [hy] at this
abbrev eB (e:List UInt8):List AV:=[.pl (e.map q15)]
theorem q10j (l:List (List UInt8)):∀ r∈l.map eB,r.length=1:=q52 (e:=eB) (n:=1) (fun _=>rfl) l
theorem q108 (n:Nat) (l:List (List UInt8)):∀ r∈l.map eB,AV.bels n r=true:=q5a (e:=eB) (fun _=>rfl) l
theorem q132 (c d:UInt8) (r:List UInt8):hd (c :: d :: r)=c.toNat * 256+d.toNat:=rfl
set_option maxHeartbeats 0 in
theorem qxk (b:List UInt8) (hl:b.length≤9000000000000000000) (H:qf):AC Tryz.prog 56 [.pl (b.map q15)] H (Ret (.tup [.pl ((q31 b).1.map q15),.int .i64 ((q31 b).2:Int)]) H):=by
 refine AC.body (N:=54) [.tmp 2,.tmp 3] Tryz.func56 rfl rfl rfl (Nat.le_of_ble_eq_true rfl) fun B hB=>?_
 refine Zhf ?_
 refine Z6a ?_
 refine Z1f ?_
 refine qa rfl (fun hc=>?_) (fun hc=>?_)
 ·have h2:b.length<2:=by simp at hc;omega
  rw [show q31 b=([],0) from q6h (by omega)]
  refine Zhf ?_
  try dsimp only
  refine Z1d ?_
  exact Zo9
 have h2:2≤b.length:=by simp at hc;omega
 clear hc
 obtain ⟨c,d,r,rfl⟩:∃ c d r,b=c :: d :: r:=by
  match b,h2 with
  | c :: d :: r,_=>exact ⟨c,d,r,rfl⟩
 have hc0:((c :: d :: r).map q15)[(0:Int).toNat]?=some (q15 c):=rfl
 have hc1:((c :: d :: r).map q15)[(1:Int).toNat]?=some (q15 d):=rfl
 have hcl:=c.toNat_lt
 have hdl:=d.toNat_lt
 have hhd:=q132 c d r
 refine Z1h ?_
 refine Z6i ?_
 refine Zp8 ?_
 refine Zp9 ?_
 refine Zpa ?_
 refine aq0 4 rfl Y1v (by decide) (fun _=>quf (r:=((c.toNat * 256:Nat):Int)) rfl rfl (by decide) (by rw [show min (8:Int).toNat IntKind.i64.bits=8 from rfl];exact qd (by omega) (by omega))) ?_
 refine Zpb ?_
 refine aqp 6 rfl Y1v (by decide) (fun G=>q5d rfl rfl (by decide) hc1 rfl) ?_
 refine aqp 7 rfl Y1v (by decide) (fun G=>q2m (v:=.int _ _) rfl hc1 rfl) ?_
 refine aq0 8 rfl Y1v (by decide) (fun _=>qp (r:=(d.toNat:Int)) rfl (qd (by omega) (by omega))) ?_
 refine aq0 9 rfl Y1v (by decide) (fun _=>o_or (r:=((c.toNat * 256+d.toNat:Nat):Int)) rfl rfl (qsz _ _ (by omega) (by omega))) ?_
 refine aq0 10 rfl Y1v (by decide) (fun _=>qx (v:=.int _ _) rfl) ?_
 refine Z1l ?_
 rw [← hhd]
 have hn:hd (c :: d :: r)<65536:=by omega
 clear hhd hcl hdl hc0 hc1
 generalize hb:c :: d :: r=b at *
 have hN:=show isN b=(decide (2≤b.length)&&decide (1≤hd b)&&decide (hd b≤4096)&&decide (2+hd b+2≤b.length)&&decide (two (chk (b.take (2+hd b)))=(b.drop (2+hd b)).take 2)) from rfl
 have hNx:=show q31 b=if isN b then ((b.take (2+hd b)).drop 2,2+hd b+2) else ([],0) from rfl
 generalize hd b=n at *
 refine Z11 ?_
 refine ao1 (by decide) (q20 (r:=((2+n:Nat):Int)) rfl rfl (by rw [show (2:Int)+(n:Int)=((2+n:Nat):Int) by omega];exact qd (by omega) (by omega))) ?_
 refine Za ?_
 refine q1n 47 (.bool (!isN b)) ?_ ?_
 ·refine Z1g ?_
  refine Z7h ?_
  refine aq0 1 rfl Y1v (by decide) (fun _=>qzd rfl rfl) ?_
  refine Z7p ?_
  refine q13 (g:=23) rfl (fun hg2=>?_) (fun hg2=>?_)
  ·refine q17 (g:=23) 3 rfl Y1v (by decide) rfl rfl rfl ?_
   refine q17 (g:=23) 4 rfl Y1v (by decide) rfl rfl rfl ?_
   refine Z7r ?_
   refine Zq6 ?_
   refine Zq7 ?_
   refine Zq8 ?_
   refine Zq9 ?_
   refine Zqa ?_
   refine Zqb ?_
   refine Zke ?_
   refine Zkf ?_
   refine Zqc ?_
   refine Zqd ?_
   refine Zqe ?_
   refine Zqf ?_
   refine Zqg ?_
   refine Zqh ?_
   refine Zqi ?_
   refine Zqj ?_
   refine Zqk ?_
   refine Zql ?_
   refine Zqm ?_
   refine Zqn ?_
   refine Za9 ?_
   exact Zqo
  ·refine q2s (g:=23) 3 rfl Y1v (by decide) rfl rfl (fun _=>qk (v:=.int _ _) rfl) ?_
   refine q2s (g:=23) 4 rfl Y1v (by decide) rfl rfl (fun _=>qxh rfl rfl) ?_
   refine Z7x ?_
   refine Zq6 ?_
   refine q13 (g:=27) rfl (fun hg6=>?_) (fun hg6=>?_)
   ·refine Zq7 ?_
    refine Zq8 ?_
    refine Zq9 ?_
    refine Zqa ?_
    refine Zqb ?_
    refine Zke ?_
    refine Zkf ?_
    refine Zqc ?_
    refine Zqd ?_
    refine Zqe ?_
    refine Zqf ?_
    refine Zqg ?_
    refine Zqh ?_
    refine Zqi ?_
    refine Zqj ?_
    refine Zqk ?_
    refine Zql ?_
    refine Zqm ?_
    refine Zqn ?_
    refine Za9 ?_
    exact Zqo
   ·refine q2s (g:=27) 7 rfl Y1v (by decide) rfl rfl (fun _=>qk (v:=.pl _) rfl) ?_
    refine q2x (g:=27) 8 rfl Y1v (by decide) rfl rfl (fun G=>qdg rfl) ?_
    refine q2s (g:=27) 9 rfl Y1v (by decide) rfl rfl (fun _=>qk (v:=.int _ _) rfl) ?_
    refine q2s (g:=27) 10 rfl Y1v (by decide) rfl rfl (fun _=>q20 (r:=((2+n+2:Nat):Int)) rfl rfl (qd (by omega) (by omega))) ?_
    refine q2s (g:=27) 11 rfl Y1v (by decide) rfl rfl (fun _=>qzd rfl rfl) ?_
    refine Zky ?_
    refine Zkf ?_
    refine q13 (g:=34) rfl (fun hg13=>?_) (fun hg13=>?_)
    ·refine Zqc ?_
     refine Zqd ?_
     refine Zqe ?_
     refine Zqf ?_
     refine Zqg ?_
     refine Zqh ?_
     refine Zqi ?_
     refine Zqj ?_
     refine Zqk ?_
     refine Zql ?_
     refine Zqm ?_
     refine Zqn ?_
     refine Za9 ?_
     exact Zqo
    ·refine q2s (g:=34) 14 rfl Y1v (by decide) rfl rfl (fun _=>qk (v:=.pl _) rfl) ?_
     refine q2s (g:=34) 15 rfl Y1v (by decide) rfl rfl (fun _=>qk (v:=.int _ _) rfl) ?_
     refine q2s (g:=34) 16 rfl Y1v (by decide) rfl rfl (fun _=>q6r (ys:=(b.take (2+n)).map q15) rfl (Bd.some rfl rfl) (by simp at hg13 ⊢;omega) (q11 _) Y1p) ?_
     refine qct (g:=34) 17 rfl Y1v (by decide) rfl rfl (fun _=>V2.call (qkf (b.take (2+n)) Y22 _) rfl) ?_
     refine qct (g:=34) 18 rfl Y1v (by decide) rfl rfl (fun _=>V2.call (qu1 (chk (b.take (2+n))) (q10m _) _) rfl) ?_
     refine q2s (g:=34) 19 rfl Y1v (by decide) rfl rfl (fun _=>qk (v:=.pl _) rfl) ?_
     refine q2s (g:=34) 20 rfl Y1v (by decide) rfl rfl (fun _=>qk (v:=.int _ _) rfl) ?_
     refine q2s (g:=34) 21 rfl Y1v (by decide) rfl rfl (fun _=>qk (v:=.int _ _) rfl) ?_
     refine q2s (g:=34) 22 rfl Y1v (by decide) rfl rfl (fun _=>q20 (r:=((2+n+2:Nat):Int)) rfl rfl (qd (by omega) (by omega))) ?_
     refine q2s (g:=34) 23 rfl Y1v (by decide) rfl rfl (fun _=>q106 (l:=2+n) (h:=2+n+2) (ys:=((b.drop (2+n)).take 2).map q15) rfl (Bd.some rfl rfl) (Bd.some rfl rfl) (by omega) (by simp at hg13 ⊢;omega) (q11 _) (by rw [List.map_take,List.map_drop,Nat.add_sub_cancel_left])) ?_
     refine qct (g:=34) 24 rfl Y1v (by decide) rfl rfl (fun _=>V2.call (qei _ _ _) rfl) ?_
     refine q2s (g:=34) 25 rfl Y1v (by decide) rfl rfl (fun _=>qa2 rfl) ?_
     refine Zaq ?_
     exact Zqo
 refine Z1 ?_
 refine qa rfl (fun hc=>?_) (fun hc=>?_)
 ·have hk:isN b=false:=by simpa using hc
  rw [hNx,hk]
  refine Z3e ?_
  refine Zho ?_
  exact Zo9
 have hk:isN b=true:=by simpa using hc
 rw [hNx,if_pos hk]
 rw [hk] at hN
 simp only [eq_comm (a:=true),Bool.and_eq_true,decide_eq_true_eq] at hN
 obtain ⟨⟨⟨⟨_,n1⟩,n2⟩,n3⟩,_⟩:=hN
 refine Zau ?_
 refine ao1 (by decide) (q106 (l:=2) (h:=2+n) (ys:=((b.take (2+n)).drop 2).map q15) rfl (Bd.some rfl rfl) (Bd.some rfl rfl) (by omega) Y22 (q11 _) (by rw [List.map_drop,List.map_take,List.drop_take])) ?_
 refine ao2 Y1o (V2.call (qa1 ((b.take (2+n)).drop 2) _ Y22) rfl) ?_
 refine Z8 ?_
 refine ao1 (by decide) (q20 (r:=((2+n+2:Nat):Int)) rfl rfl (qd (by omega) (by omega))) ?_
 refine Zi9 ?_
 try dsimp only [put]
 refine Z1 ?_
 exact Z5b
structure GRd where
 k:Nat
 out:List (List UInt8)
set_option maxHeartbeats 0 in
theorem q90 (b:List UInt8) (hl:b.length≤1000000000000) (H:qf):AC Tryz.prog 22 [.pl (b.map q15)] H (Ret (.tup [.pl ((q2j b).1.map eB),.int .i64 ((q2j b).2:Int)]) H):=by
 refine AC.body (N:=26) [.tmp 2,.tmp 3] Tryz.func22 rfl rfl rfl (Nat.le_of_ble_eq_true rfl) fun B hB=>?_
 refine Zhf ?_
 refine Z3m ?_
 refine Zny ?_
 refine q16 ?_
 refine Z4 ?_
 refine Zbr ?_
 refine Z1d ?_
 refine qm (G:=GRd) (fun g=>g.k≤b.length∧q2j b=(g.out++(q2j (b.drop g.k)).1,g.k+(q2j (b.drop g.k)).2)∧g.out.length≤g.k) (fun g=>[(0,.pl (b.map q15)),(4,.sl (Lid H.length 0) g.out.length 0 g.out.length g.out.length),(5,.int .i64 (g.k:Int))]) (fun g=>H++[⟨g.out.length,1,g.out.map eB⟩]) (fun g=>b.length-g.k) ⟨0,[]⟩ ⟨Nat.zero_le _,by simp,Nat.le_refl _⟩ Y8 (.inl rfl) ?_
 rintro ⟨k,out⟩ ⟨i1,i2,i3⟩
 simp only at i1 i2 i3 ⊢
 have cn:=fun H=>qxk (b.drop k) Y22 H
 have hq:=qio (b.drop k)
 have hq2:=qdo (b:=b.drop k)
 generalize q31 (b.drop k)=q at *
 obtain ⟨e,m⟩:=q
 simp only at cn hq hq2
 refine Zau ?_
 refine ao1 (by decide) (qbv (ys:=(b.drop k).map q15) rfl (Bd.some rfl rfl) Y22 (q11 _) (by rw [List.map_drop])) ?_
 refine Zqp ?_
 refine Zia ?_
 try dsimp only [put]
 refine Z17 ?_
 refine qa rfl (fun hc=>?_) (fun hc=>?_)
 ·have hm:m=0:=by simpa using hc
  rw [if_pos hm] at hq
  rw [hq] at i2
  rw [i2]
  simp only [List.append_nil,Nat.add_zero]
  refine Z8u ?_
  refine Z8w ?_
  refine Zho ?_
  refine qr (ys:=out.map eB) 2 rfl rfl rfl rfl Yn (by simp) (q108 0 _) ?_
  exact Zhj
 have hm:m≠0:=by simpa using hc
 rw [if_neg hm] at hq
 have hml:=hq2 hm
 rw [List.length_drop] at hml
 rw [List.drop_drop] at hq
 refine Z8t ?_
 refine Z3g ?_
 refine ao2 Y1o (q5e (sz:=1) (v:=.pl (e.map q15)) (cs:=eB e) rfl (by decide) (by decide) rfl rfl rfl rfl rfl) ?_
 refine ao2 Y1o (q46 rfl rfl rfl rfl rfl (Src.pl (ys:=[eB e]) rfl (q10j [e])) rfl (by simp) (by simp) Y22 Y22) ?_
 refine Z8x ?_
 refine Zmp ?_
 refine Z26 ?_
 refine ao1 (by decide) (q20 (r:=((k+m:Nat):Int)) rfl rfl (qd (by omega) (by omega))) ?_
 refine Za ?_
 refine ⟨⟨k+m,out++[e]⟩,by simp only;omega,⟨by simp only;omega,?_,by simp only [List.length_append,List.length_cons,List.length_nil];omega⟩,by simp only [List.length_append,List.length_cons,List.length_nil];exact Y8,Fit.loc hB (G:=[]) ?_ Y1 (fun a ha=>?_)⟩
 ·simp only
  rw [i2,hq]
  simp [Nat.add_assoc]
 ·rw [List.take_of_length_le (by simp)]
  simp
 ·simp only [List.mem_singleton] at ha
  subst ha
  exact q108 _ (out++[e])
theorem qzv (b:List UInt8) (hl:b.length≤1000000000000) (H:qf):AC Tryz.prog 25 [.pl (b.map q15)] H (Ret (.pl ((b.take (q2j b).2).map q15)) H):=by
 have h1:(q2j b).2≤b.length:=by
  obtain ⟨_,h,h2,_⟩:=q7h b
  have:=congrArg List.length h2
  rw [List.length_append,← h] at this
  omega
 refine AC.body (N:=14) [.tmp 2] Tryz.func25 rfl rfl rfl (Nat.le_of_ble_eq_true rfl) fun B hB=>?_
 refine Z3i ?_
 refine ao2 Y1o (V2.call (q90 b hl _) rfl) ?_
 refine Zia ?_
 try dsimp only [put]
 refine Zau ?_
 refine ao1 (by decide) (q6r (ys:=(b.take (q2j b).2).map q15) rfl (Bd.some rfl rfl) Y22 (q11 _) Y1p) ?_
 refine ao2 Y1o (V2.call (qa1 (b.take (q2j b).2) _ Y22) rfl) ?_
 exact Z3r
set_option maxHeartbeats 0 in
theorem qls (a b:List Thing) (H:qf) (ha:a.length≤1000000000):AC Tryz.prog 55 [.pl (a.map qq),.pl (b.map qq)] H (Ret (.bool (decide (a=b))) H):=by
 refine AC.body (N:=26) [.tmp 4] Tryz.func55 rfl rfl rfl (Nat.le_of_ble_eq_true rfl) fun B hB=>?_
 refine Z6f ?_
 refine qa rfl (fun hc=>?_) (fun hc=>?_)
 ·have hne:a.length≠b.length:=by simp at hc;omega
  have he:decide (a=b)=false:=decide_eq_false (fun e=>hne (by rw [e]))
  rw [he]
  exact Z4g
 have hl:a.length=b.length:=by simp at hc;omega
 clear hc
 refine Z1e ?_
 refine qm (G:=Nat) (fun k=>k≤a.length∧a.take k=b.take k) (fun k=>[(0,.pl (a.map qq)),(1,.pl (b.map qq)),(5,.int .i64 (k:Int))]) (fun _=>H++[]) (fun k=>a.length-k) 0 ⟨Nat.zero_le _,by simp⟩ Y8 (Fit.refl _ _) ?_
 rintro k ⟨hk,ht⟩
 refine Z6h ?_
 refine qa rfl (fun hc=>?_) (fun hc=>?_)
 ·have hlt:k<a.length:=by simpa using hc
  obtain ⟨x,hx,_⟩:=qo hlt
  obtain ⟨y,hy,_⟩:=qo (l:=b) (k:=k) (by omega)
  have hr1:=ql qq hx
  have hr2:=ql qq hy
  clear hc
  refine Z1h ?_
  refine Z6j ?_
  refine Zqq ?_
  refine Zqr ?_
  refine Z6n ?_
  refine Zqs ?_
  refine Zqt ?_
  refine aq0 8 rfl Y1v (by decide) (fun _=>qnr (us:=qbc x) (vs:=qbc y) (b:=decide (x=y)) rfl rfl rfl rfl Y24 (q9x _ _)) ?_
  refine Z1m ?_
  refine qa rfl (fun hc=>?_) (fun hc=>?_)
  ·have hne:x≠y:=by simpa using hc
   have he:decide (a=b)=false:=decide_eq_false (fun e=>hne Yq)
   rw [he]
   exact Z4g
  ·have he:x=y:=by simpa using hc
   subst he
   refine Z6s ?_
   refine ⟨k+1,by omega,⟨by omega,?_⟩,Y8,.refl _ _⟩
   rw [qj hx,qj hy,ht]
 ·have:k=a.length:=by simp at hc;omega
  subst this
  have he:decide (a=b)=true:=decide_eq_true Yl
  rw [he]
  exact Z4g
set_option maxHeartbeats 0 in
theorem qv5 (a b:Held) (H:qf) (ha:a.things.length≤1000000):AC Tryz.prog 104 [.agg (qi a),.agg (qi b)] H (Ret (.bool (decide (a=b))) H):=by
 have he:decide (a=b)=(a.id == b.id&&a.frm == b.frm&&a.tto == b.tto&&decide (a.things=b.things)):=by
  cases a;cases b;simp [Bool.beq_eq_decide_eq];grind
 rw [he]
 refine AC.body (N:=31) [.tmp 4] Tryz.func104 rfl rfl rfl (Nat.le_of_ble_eq_true rfl) fun B hB=>?_
 refine Zbv ?_
 refine Zbu ?_
 refine Z6u ?_
 refine qn 4 (.bool (a.id == b.id&&a.frm == b.frm&&a.tto == b.tto&&decide (a.things=b.things))) ?_ ?_
 ·refine Z6v ?_
  refine Z4q ?_
  refine qb rfl rfl (fun hg5=>?_) (fun hg5=>?_)
  ·refine Z6x ?_
   refine qb rfl rfl (fun hg12=>?_) (fun hg12=>?_)
   ·refine Z6x ?_
    refine qb rfl rfl (fun hg19=>?_) (fun hg19=>?_)
    ·refine Z70 ?_
     refine q5r rfl rfl (by decide) (V2.call (q8y a.things b.things _ (by omega)) rfl) ?_
     refine Zn ?_
     exact Z71
    ·refine Z4k ?_
     exact Z71
   ·refine Z73 ?_
    exact Z71
  ·refine Z75 ?_
   exact Z71
 exact Z21
set_option maxHeartbeats 0 in
theorem qqq (a b:List Held) (H:qf) (ha:HW a):AC Tryz.prog 58 [.pl (a.map qi),.pl (b.map qi)] H (Ret (.bool (decide (a=b))) H):=by
 have hal:=ha.1
 refine AC.body (N:=27) [.tmp 4] Tryz.func58 rfl rfl rfl (Nat.le_of_ble_eq_true rfl) fun B hB=>?_
 refine Z6f ?_
 refine qa rfl (fun hc=>?_) (fun hc=>?_)
 ·have hne:a.length≠b.length:=by simp at hc;omega
  have he:decide (a=b)=false:=decide_eq_false (fun e=>hne (by rw [e]))
  rw [he]
  exact Z4g
 have hl:a.length=b.length:=by simp at hc;omega
 clear hc
 refine Z1e ?_
 refine qm (G:=Nat) (fun k=>k≤a.length∧a.take k=b.take k) (fun k=>[(0,.pl (a.map qi)),(1,.pl (b.map qi)),(5,.int .i64 (k:Int))]) (fun _=>H++[]) (fun k=>a.length-k) 0 ⟨Nat.zero_le _,by simp⟩ Y8 (Fit.refl _ _) ?_
 rintro k ⟨hk,ht⟩
 refine Z6h ?_
 refine qa rfl (fun hc=>?_) (fun hc=>?_)
 ·have hlt:k<a.length:=by simpa using hc
  obtain ⟨x,hx,hxl⟩:=qo hlt
  obtain ⟨y,hy,_⟩:=qo (l:=b) (k:=k) (by omega)
  have hr1:=ql qi hx
  have hr2:=ql qi hy
  have hxw:=ha.2 x hxl
  clear hc
  refine Z1h ?_
  refine Z6j ?_
  refine Zqq ?_
  refine Zqr ?_
  refine Z6n ?_
  refine Zqs ?_
  refine Zqt ?_
  refine q8b 8 rfl Y1v (by decide) (fun _=>V2.call (qv5 x y _ (by omega)) rfl) ?_
  refine Zqu ?_
  refine Z1m ?_
  refine qa rfl (fun hc=>?_) (fun hc=>?_)
  ·have hne:x≠y:=by simpa using hc
   have he:decide (a=b)=false:=decide_eq_false (fun e=>hne Yq)
   rw [he]
   exact Z4g
  ·have he:x=y:=by simpa using hc
   subst he
   refine Z6s ?_
   refine ⟨k+1,by omega,⟨by omega,?_⟩,Y8,.refl _ _⟩
   rw [qj hx,qj hy,ht]
 ·have:k=a.length:=by simp at hc;omega
  subst this
  have he:decide (a=b)=true:=decide_eq_true Yl
  rw [he]
  exact Z4g
set_option maxHeartbeats 0 in
theorem qs0 (a b:List Job) (H:qf) (ha:JW a):AC Tryz.prog 57 [.pl (a.map qv),.pl (b.map qv)] H (Ret (.bool (decide (a=b))) H):=by
 have hal:=ha.1
 refine AC.body (N:=27) [.tmp 4] Tryz.func57 rfl rfl rfl (Nat.le_of_ble_eq_true rfl) fun B hB=>?_
 refine Z6f ?_
 refine qa rfl (fun hc=>?_) (fun hc=>?_)
 ·have hne:a.length≠b.length:=by simp at hc;omega
  have he:decide (a=b)=false:=decide_eq_false (fun e=>hne (by rw [e]))
  rw [he]
  exact Z4g
 have hl:a.length=b.length:=by simp at hc;omega
 clear hc
 refine Z1e ?_
 refine qm (G:=Nat) (fun k=>k≤a.length∧a.take k=b.take k) (fun k=>[(0,.pl (a.map qv)),(1,.pl (b.map qv)),(5,.int .i64 (k:Int))]) (fun _=>H++[]) (fun k=>a.length-k) 0 ⟨Nat.zero_le _,by simp⟩ Y8 (Fit.refl _ _) ?_
 rintro k ⟨hk,ht⟩
 refine Z6h ?_
 refine qa rfl (fun hc=>?_) (fun hc=>?_)
 ·have hlt:k<a.length:=by simpa using hc
  obtain ⟨x,hx,hxl⟩:=qo hlt
  obtain ⟨y,hy,_⟩:=qo (l:=b) (k:=k) (by omega)
  have hr1:=ql qv hx
  have hr2:=ql qv hy
  have hxw:=ha.2 x hxl
  clear hc
  refine Z1h ?_
  refine Z6j ?_
  refine Zqq ?_
  refine Zqr ?_
  refine Z6n ?_
  refine Zqs ?_
  refine Zqt ?_
  refine q8b 8 rfl Y1v (by decide) (fun _=>V2.call (qqr x y _ (by omega)) rfl) ?_
  refine Zqu ?_
  refine Z1m ?_
  refine qa rfl (fun hc=>?_) (fun hc=>?_)
  ·have hne:x≠y:=by simpa using hc
   have he:decide (a=b)=false:=decide_eq_false (fun e=>hne Yq)
   rw [he]
   exact Z4g
  ·have he:x=y:=by simpa using hc
   subst he
   refine Z6s ?_
   refine ⟨k+1,by omega,⟨by omega,?_⟩,Y8,.refl _ _⟩
   rw [qj hx,qj hy,ht]
 ·have:k=a.length:=by simp at hc;omega
  subst this
  have he:decide (a=b)=true:=decide_eq_true Yl
  rw [he]
  exact Z4g
set_option maxHeartbeats 0 in
theorem qgq (a b:Inst) (H:qf) (ha:RI a):AC Tryz.prog 23 [.agg (q1j a),.agg (q1j b)] H (Ret (.bool (decide (a=b))) H):=by
 have n1:=ha.iw.graph
 have n2:=ha.iw.health
 have n3:=ha.iw.lease
 have n4:=ha.jw
 have n5:=ha.iw.table
 have he:decide (a=b)=(decide (a.graph=b.graph)&&decide (a.health=b.health)&&decide (a.lease=b.lease)&&a.til == b.til&&a.now == b.now&&a.policy == b.policy&&a.depth == b.depth&&decide (a.jobs=b.jobs)&&decide (a.table=b.table)):=by
  cases a;cases b;simp [Bool.beq_eq_decide_eq];grind
 rw [he]
 refine AC.body (N:=66) [.tmp 4] Tryz.func23 rfl rfl rfl (Nat.le_of_ble_eq_true rfl) fun B hB=>?_
 refine Zfg ?_
 refine Zff ?_
 refine Z6u ?_
 refine qn 4 (.bool (decide (a.graph=b.graph)&&decide (a.health=b.health)&&decide (a.lease=b.lease)&&a.til == b.til&&a.now == b.now&&a.policy == b.policy&&a.depth == b.depth&&decide (a.jobs=b.jobs)&&decide (a.table=b.table))) ?_ ?_
 ·refine Z3v ?_
  refine Z3v ?_
  refine Zqv ?_
  refine Zh ?_
  refine qb rfl rfl (fun hg5=>?_) (fun hg5=>?_)
  ·refine Z70 ?_
   refine q5r rfl rfl (by decide) (V2.call (q8y a.health b.health _ (by omega)) rfl) ?_
   refine Z2q ?_
   refine qb rfl rfl (fun hg12=>?_) (fun hg12=>?_)
   ·refine Z70 ?_
    refine q5r rfl rfl (by decide) (V2.call (q8y a.lease b.lease _ (by omega)) rfl) ?_
    refine Z2q ?_
    refine qb rfl rfl (fun hg19=>?_) (fun hg19=>?_)
    ·refine Z6x ?_
     refine qb rfl rfl (fun hg26=>?_) (fun hg26=>?_)
     ·refine Z6x ?_
      refine qb rfl rfl (fun hg33=>?_) (fun hg33=>?_)
      ·refine Z6x ?_
       refine qb rfl rfl (fun hg40=>?_) (fun hg40=>?_)
       ·refine Z6x ?_
        refine qb rfl rfl (fun hg47=>?_) (fun hg47=>?_)
        ·refine Z70 ?_
         refine q5r rfl rfl (by decide) (V2.call (qs0 a.jobs b.jobs _ n4) rfl) ?_
         refine Z2q ?_
         refine qb rfl rfl (fun hg54=>?_) (fun hg54=>?_)
         ·refine Z70 ?_
          refine q5r rfl rfl (by decide) (V2.call (qqq a.table b.table _ n5) rfl) ?_
          refine Zn ?_
          exact Zqw
         ·refine Z4k ?_
          exact Zqw
        ·refine Z73 ?_
         exact Zqw
       ·refine Z75 ?_
        exact Zqw
      ·refine Z76 ?_
       exact Zqw
     ·refine Z74 ?_
      refine Z75 ?_
      exact Zqw
    ·refine Z74 ?_
     refine Z76 ?_
     exact Zqw
   ·refine Z74 ?_
    refine Z74 ?_
    refine Z75 ?_
    exact Zqw
  ·refine Z74 ?_
   refine Z74 ?_
   refine Z76 ?_
   exact Zqw
 exact Z21
abbrev q35 (s:Seat):List AV:=[.pl (s.graph.map qq),.int .i64 s.policy,.int .i64 s.depth,.pl (s.log.map q15)]++q1j s.inst
set_option maxHeartbeats 0 in
theorem qdz (g:List Thing) (p d:Int) (hl:g.length≤1000000) (H:qf):AC Tryz.prog 15 [.pl (g.map qq),.int .i64 p,.int .i64 d] H (Ret (.tup [.agg (q35 (q6x g p d).1),.int .i64 (q6x g p d).2]) H):=by
 refine AC.body (N:=27) [.cell 6 47,.tmp 7] Tryz.func15 rfl rfl rfl (Nat.le_of_ble_eq_true rfl) fun B hB=>?_
 refine Z2 ?_
 refine Z5d ?_
 refine Z4 ?_
 refine Zqx ?_
 refine Zqy ?_
 refine q12 (qpz _ _ _ _ Y23) rfl (by decide) ?_
 refine Zhl ?_
 refine Zh0 ?_
 refine Zh6 ?_
 refine Z7o ?_
 refine Z8r ?_
 refine qa rfl (fun hc=>?_) (fun hc=>?_)
 ·have h0:(qby g p d).2≠0:=by simpa using hc
  rw [q6x,if_pos h0]
  refine Z2 ?_
  refine Zqz ?_
  refine Z8 ?_
  refine Z5r ?_
  exact Zdv
 ·have h0:¬ (qby g p d).2≠0:=by simpa using hc
  rw [q6x,if_neg h0]
  refine Z1 ?_
  refine Zof ?_
  try dsimp only
  refine Z6i ?_
  refine q8b 1 rfl Y1v (by decide) (fun _=>V2.call (q62 _ _ Y23) rfl) ?_
  refine Z94 ?_
  refine Zbo ?_
  refine aqr 4 rfl Y1v (by decide) (fun G hG=>q1m rfl (lk rfl hG) rfl rfl rfl) ?_
  refine aq0 5 rfl Y1v (by decide) (fun _=>V1.up (q3g (cs:=[_,.int _ _,.int _ _,_,_,_,_,.int _ _,_,_,.int _ _,.int _ _,.int _ _]) rfl)) ?_
  refine aqs 6 rfl Y1v Y17 Y21 (q2c (sz:=13) rfl rfl rfl rfl rfl rfl rfl rfl (Nat.le_of_ble_eq_true rfl)) ?_
  refine aq0 7 rfl Y1v (by decide) (fun _=>qx (v:=.int _ _) rfl) ?_
  refine Zhx ?_
  exact Zdv
structure SW (s : Seat) : Prop where
 graph:s.graph.length≤1000000
 log:s.log.length≤10000000
 iw:IW s.inst
 jw:JW s.inst.jobs
set_option maxHeartbeats 0 in
theorem qma (s:Seat) (hw:SW s) (H:qf):AC Tryz.prog 50 [.agg (q35 s)] H (Ret (.agg (q35 s)) H):=by
 have w1:=hw.graph
 have w2:=hw.log
 refine AC.body (N:=16) [.cell 2 47] Tryz.func50 rfl rfl rfl (Nat.le_of_ble_eq_true rfl) fun B hB=>?_
 refine Z3t ?_
 refine Z5d ?_
 refine qe ?_
 try dsimp only [List.cons_append,List.nil_append,put,AV.cells,List.length_cons,List.length_nil,Nat.reduceAdd]
 refine Z1 ?_
 refine Z83 ?_
 refine Z9k ?_
 refine Zih ?_
 refine q8b 2 rfl Y1v (by decide) (fun _=>V2.call (q62 s.graph _ w1) rfl) ?_
 refine Zii ?_
 refine Zij ?_
 refine q8b 5 rfl Y1v (by decide) (fun _=>V2.call (qa1 s.log _ (by omega)) rfl) ?_
 refine Zik ?_
 refine aqp 7 rfl Y1v (by decide) (fun G=>q6g (cs:=[_,_,_,_,_,_,_,_,_]) rfl (lk rfl rfl) rfl rfl rfl rfl) ?_
 refine q8b 8 rfl Y1v (by decide) (fun _=>V2.call (qlt s.inst _ hw.iw hw.jw) rfl) ?_
 refine Zil ?_
 refine Zim ?_
 refine Zin ?_
 refine Zio ?_
 refine Zip ?_
 refine Ziq ?_
 refine Zgz ?_
 refine Zh7 ?_
 refine qe ?_
 refine Z5t ?_
 exact Zdr
structure GSt where
 x:Inst
 e:Int
set_option maxHeartbeats 0 in
theorem qus (i:Inst) (o:OOp) (hw:RI i) (h20:i.jobs.length<999999) (hn:o.needs.length≤1000000) (hs:o.set.length≤1000000) (H:qf):ACT Tryz.prog KD 52 [.agg (q1j i),.agg (eOp o)] H (Ret (.tup [.agg (q1j (q4l i o).1),.int .i64 (q4l i o).2.1,.int .i64 (q4l i o).2.2]) H):=by
 refine ACT.body (N:=67) [.cell 4 45,.tmp 5,.tmp 6] Tryz.func52 rfl rfl rfl (Nat.le_of_ble_eq_true rfl) fun B hB=>?_
 refine Zfg ?_
 refine Z3s ?_
 refine Zh0 ?_
 refine Z15 ?_
 refine Z5e ?_
 refine Z37 ?_
 refine Zh0 ?_
 refine Zh6 ?_
 refine Z7o ?_
 refine Z4o ?_
 refine Z3y ?_
 refine Z96 ?_
 refine q9b (G:=GSt) (fun g=>q4l i o=(g.x,0,g.e)) (fun g=>[(KT,KD.av),(2,.pt (Lid H.length 0) 0 0 0),(3,.pt (Lid H.length 1) 0 0 0),(4,.pt (Lid H.length 2) 0 0 0),(7,.pt (Lid H.length 3) 0 0 0),(8,.int .i64 g.e)]) (fun g=>H++[⟨0,9,[q1j i]⟩,⟨0,13,[eOp o]⟩,⟨0,9,[z9]⟩,⟨0,9,[q1j g.x]⟩]) ?_ ?_
 ·refine Z4p ?_
  refine qa rfl (fun hc=>?_) (fun hc=>?_)
  ·have hk:o.kind=1:=by simpa using hc
   have e:q4l i o=q3k i o.spec o.needs:=by rw [q4l,if_pos hk]
   rw [e]
   refine Z37 ?_
   refine Z2k ?_
   refine Zmt ?_
   refine Z3v ?_
   refine ao2 Y1o (V2.callT (qme i o.spec o.needs _ hw h20 hn) rfl rfl) ?_
   refine Z7k ?_
   refine Z14 ?_
   refine Z14 ?_
   refine Zh5 ?_
   refine Z15 ?_
   refine Zr0 ?_
   refine Z1 ?_
   exact Znl
  have hk1:¬ o.kind=1:=by simpa using hc
  refine Z4p ?_
  refine qa rfl (fun hc=>?_) (fun hc=>?_)
  ·have hk:o.kind=2:=by simpa using hc
   refine q16 ?_
   refine Z36 ?_
   refine Z6v ?_
   refine ao2 Y1o (V2.callT (q125 i o.id o.what _ hw (by omega)) rfl rfl) ?_
   refine Zhl ?_
   refine Zh6 ?_
   refine Zr0 ?_
   refine Z1 ?_
   exact q1u ⟨_,_⟩ (by rw [q4l,if_neg hk1,if_pos hk]) Y8 (.inl rfl)
  have hk2:¬ o.kind=2:=by simpa using hc
  refine Z4p ?_
  refine qa rfl (fun hc=>?_) (fun hc=>?_)
  ·have hk:o.kind=3:=by simpa using hc
   refine q16 ?_
   refine Z36 ?_
   refine Z2m ?_
   refine ao2 Y1o (V2.callT (qu5 i o.at_ _ hw (by omega)) rfl rfl) ?_
   refine Zhl ?_
   refine Zh6 ?_
   refine Zr0 ?_
   refine Z1 ?_
   exact q1u ⟨_,_⟩ (by rw [q4l,if_neg hk1,if_neg hk2,if_pos hk]) Y8 (.inl rfl)
  have hk3:¬ o.kind=3:=by simpa using hc
  refine Z4p ?_
  refine qa rfl (fun hc=>?_) (fun hc=>?_)
  ·have hk:o.kind=4:=by simpa using hc
   refine q16 ?_
   refine Z36 ?_
   refine Z3v ?_
   refine Z2m ?_
   refine ao2 Y1o (V2.callT (qtk i o.set o.at_ _ hw (by omega) hs) rfl rfl) ?_
   refine Zhl ?_
   refine Zh6 ?_
   refine Zr0 ?_
   refine Z1 ?_
   exact q1u ⟨_,_⟩ (by rw [q4l,if_neg hk1,if_neg hk2,if_neg hk3,if_pos hk]) Y8 (.inl rfl)
  have hk4:¬ o.kind=4:=by simpa using hc
  refine Z4p ?_
  refine qa rfl (fun hc=>?_) (fun hc=>?_)
  ·have hk:o.kind=5:=by simpa using hc
   refine q16 ?_
   refine Z36 ?_
   refine Z6v ?_
   refine ao2 Y1o (V2.callT (quu i o.id o.what _ hw (by omega)) rfl rfl) ?_
   refine Zhl ?_
   refine Zh6 ?_
   refine Zr0 ?_
   refine Z1 ?_
   exact q1u ⟨_,_⟩ (by rw [q4l,if_neg hk1,if_neg hk2,if_neg hk3,if_neg hk4,if_pos hk]) Y8 (.inl rfl)
  have hk5:¬ o.kind=5:=by simpa using hc
  refine Z1 ?_
  exact q1u ⟨_,_⟩ (by rw [q4l,if_neg hk1,if_neg hk2,if_neg hk3,if_neg hk4,if_neg hk5]) Y8 (.inl rfl)
 rintro ⟨x,e⟩ hx
 simp only at hx ⊢
 rw [hx]
 refine Z37 ?_
 refine Z8 ?_
 refine Zh5 ?_
 exact Znm
set_option maxHeartbeats 0 in
theorem qes (s:Seat) (o:OOp) (hw:SW s) (hr:RI s.inst) (h20:s.inst.jobs.length<999999) (hn:o.needs.length≤1000000) (hs:o.set.length≤1000000) (H:qf):ACT Tryz.prog KD 18 [.agg (q35 s),.agg (eOp o)] H (Ret (.tup [.agg (q35 (sdo s o).1),.int .i64 (sdo s o).2.1,.int .i64 (sdo s o).2.2]) H):=by
 have w2:=hw.log
 refine ACT.body (N:=53) [.cell 4 47,.tmp 5,.tmp 6] Tryz.func18 rfl rfl rfl (Nat.le_of_ble_eq_true rfl) fun B hB=>?_
 refine Z3t ?_
 refine Z3s ?_
 refine Z5d ?_
 refine Z15 ?_
 refine Zr1 ?_
 refine Z37 ?_
 refine ao2 Y1o (V2.call (qma s hw _) rfl) ?_
 refine ao2 Y21 (qi2 rfl rfl rfl rfl rfl rfl rfl rfl (Nat.le_of_ble_eq_true rfl) rfl rfl) ?_
 refine qe ?_
 refine Zl5 ?_
 refine Z37 ?_
 refine ao2 Y1o (V2.call (qok o hn hs _) rfl) ?_
 refine Zia ?_
 try dsimp only [put]
 refine Z11 ?_
 refine Z27 ?_
 refine qe ?_
 cases hm:q4i o with
 | false =>
  rw [show qfe o=([],1) by rw [qfe,hm];rfl,show sdo s o=(s,0,1) by rw [sdo,if_pos hm]]
  refine Z1 ?_
  refine qa rfl (fun hc=>?_) (fun hc=>?_)
  ·refine Z37 ?_
   refine Z8 ?_
   refine Z5q ?_
   exact Znm
  ·simp at hc
 | true =>
  have hob:=(q93 hm).2
  have cl:=fun H=>q12p s.log (q2o o) (by omega) (by omega) H
  have hD:sdo s o=if 1048576<(q7b s.log (q2o o)).1.length then (s,0,4) else if (q4l s.inst o).2.2≠0 then (s,0,(q4l s.inst o).2.2) else ({ s with inst:=(q4l s.inst o).1,log:=(q7b s.log (q2o o)).1 },(q4l s.inst o).2.1,0):=by
   rw [sdo,if_neg (by rw [hm];decide)]
  rw [show qfe o=(q2o o,0) by rw [qfe,hm];rfl]
  refine Z1 ?_
  refine qa rfl (fun hc=>?_) (fun hc=>?_)
  ·simp at hc
  clear hc
  generalize q7b s.log (q2o o)=a at *
  obtain ⟨l,e⟩:=a
  simp only at hD cl
  refine Z3w ?_
  refine Z3g ?_
  refine ao2 Y1o (V2.call (cl _) rfl) ?_
  refine Zib ?_
  refine Z6a ?_
  refine Z2c ?_
  refine qa rfl (fun hc=>?_) (fun hc=>?_)
  ·have h1:1048576<l.length:=by simp at hc;omega
   rw [hD,if_pos h1]
   refine Zh7 ?_
   exact Znm
  have h1:¬ 1048576<l.length:=by simp at hc;omega
  rw [if_neg h1] at hD
  clear hc
  have cs:=fun H=>qus s.inst o hr h20 hn hs H
  generalize q4l s.inst o=x at *
  obtain ⟨i,id,f⟩:=x
  simp only at hD cs
  refine Z2 ?_
  refine Z2k ?_
  refine ao1 (by decide) (q6g (cs:=[_,_,_,_,_,_,_,_,_]) rfl (lk rfl rfl) rfl rfl rfl rfl) ?_
  refine Z36 ?_
  refine Zr2 ?_
  refine Zhl ?_
  refine Z14 ?_
  refine Zh0 ?_
  refine Zh5 ?_
  refine Z15 ?_
  try dsimp only [Nat.reduceAdd,put,List.length_cons,List.length_nil,List.cons_append,List.nil_append,List.set_cons_zero,List.set_cons_succ]
  refine Z8r ?_
  refine qa rfl (fun hc=>?_) (fun hc=>?_)
  ·have h2:f≠0:=by simpa using hc
   rw [hD,if_pos h2]
   refine Z37 ?_
   refine Z8 ?_
   refine Z5q ?_
   exact Znm
  ·have h2:¬ f≠0:=by simpa using hc
   rw [hD,if_neg h2]
   refine Z37 ?_
   refine Z3g ?_
   refine Z2k ?_
   refine ao2 Y21 (q1i (sz:=9) (v:=.agg _) (r':=[_,_,_,_,_,_,_,_,_,_,_,_,_]) rfl rfl rfl rfl rfl rfl rfl rfl (Nat.le_of_ble_eq_true rfl) rfl) ?_
   refine Z2k ?_
   refine Z5g ?_
   refine Z5i ?_
   refine Z37 ?_
   refine Z8 ?_
   refine Z5q ?_
   exact Znm
set_option maxHeartbeats 0 in
theorem q7r (a b:List Int) (hl:a.length≤1000000) (H:qf):AC Tryz.prog 44 [.pl (a.map eI),.pl (b.map eI)] H (Ret (.bool (decide (a=b))) H):=by
 refine AC.body (N:=26) [.tmp 4] Tryz.func44 rfl rfl rfl (Nat.le_of_ble_eq_true rfl) fun B hB=>?_
 refine Z6f ?_
 refine qa rfl (fun hc=>?_) (fun hc=>?_)
 ·have hne:¬ a.length=b.length:=by simp at hc;omega
  rw [show decide (a=b)=false from decide_eq_false fun e=>hne (by rw [e])]
  exact Z4g
 have hlen:a.length=b.length:=by simp at hc;omega
 clear hc
 refine Z7b ?_
 refine qm (G:=Nat) (fun k=>k≤a.length∧a.take k=b.take k) (fun k=>[(0,.pl (a.map eI)),(1,.pl (b.map eI)),(12,.int .i64 (a.length:Int)),(13,.int .i64 (k:Int))]) (fun _=>H++[]) (fun k=>a.length-k) 0 ⟨Nat.zero_le _,rfl⟩ Y8 (Fit.refl _ _) ?_
 rintro k ⟨hk,ht⟩
 refine Z43 ?_
 refine qa rfl (fun hc=>?_) (fun hc=>?_)
 ·have hlt:k<a.length:=by simpa using hc
  obtain ⟨x,hx,hxl⟩:=qo hlt
  obtain ⟨y,hy,hyl⟩:=qo (show k<b.length by omega)
  have hr:=ql eI hx
  have hr1:=ql eI hy
  clear hc
  refine Z1v ?_
  refine Z1g ?_
  refine Z6j ?_
  refine Z6k ?_
  refine Z6l ?_
  refine Z6n ?_
  refine Z6o ?_
  refine Z6p ?_
  refine Z6q ?_
  refine Z1m ?_
  refine qa rfl (fun hc=>?_) (fun hc=>?_)
  ·have hne:x≠y:=by simpa using hc
   rw [show decide (a=b)=false from decide_eq_false fun e=>hne Yr]
   exact Z4g
  ·have he:x=y:=by simpa using hc
   subst he
   refine Zom ?_
   refine ⟨k+1,by omega,⟨by omega,?_⟩,Y8,.refl _ _⟩
   rw [qj hx,qj hy,ht]
 ·have:k=a.length:=by simp at hc;omega
  subst this
  rw [show decide (a=b)=true from decide_eq_true Yj]
  exact Z4g
theorem qrk (a b:Held) (H:qf) (ha:a.things.length≤1000000):AC Tryz.prog 43 [.agg (qi a),.agg (qi b)] H (Ret (.bool (decide (a=b))) H):=by
 have he:decide (a=b)=(a.id == b.id&&a.frm == b.frm&&a.tto == b.tto&&decide (a.things=b.things)):=by
  cases a;cases b;simp [Bool.beq_eq_decide_eq];grind
 rw [he]
 refine AC.body (N:=31) [.tmp 4] Tryz.func43 rfl rfl rfl (Nat.le_of_ble_eq_true rfl) fun B hB=>?_
 refine Zbv ?_
 refine Zbu ?_
 refine Z6u ?_
 refine qn 4 (.bool (a.id == b.id&&a.frm == b.frm&&a.tto == b.tto&&decide (a.things=b.things))) ?_ ?_
 ·refine Z6v ?_
  refine Z4q ?_
  refine qb rfl rfl (fun hg5=>?_) (fun hg5=>?_)
  ·refine Z6x ?_
   refine qb rfl rfl (fun hg12=>?_) (fun hg12=>?_)
   ·refine Z6x ?_
    refine qb rfl rfl (fun hg19=>?_) (fun hg19=>?_)
    ·refine Z70 ?_
     refine q5r rfl rfl (by decide) (V2.call (q7r a.things b.things ha _) rfl) ?_
     refine Zn ?_
     exact Zr3
    ·refine Z4k ?_
     exact Zr3
   ·refine Z73 ?_
    exact Zr3
  ·refine Z75 ?_
   exact Zr3
 exact Z21
set_option maxHeartbeats 0 in
theorem qi0 (a b:List Thing) (hl:a.length≤1000000) (H:qf):AC Tryz.prog 46 [.pl (a.map qq),.pl (b.map qq)] H (Ret (.bool (decide (a=b))) H):=by
 refine AC.body (N:=26) [.tmp 4] Tryz.func46 rfl rfl rfl (Nat.le_of_ble_eq_true rfl) fun B hB=>?_
 refine Z6f ?_
 refine qa rfl (fun hc=>?_) (fun hc=>?_)
 ·have hne:¬ a.length=b.length:=by simp at hc;omega
  rw [show decide (a=b)=false from decide_eq_false fun e=>hne (by rw [e])]
  exact Z4g
 have hlen:a.length=b.length:=by simp at hc;omega
 clear hc
 refine Z7b ?_
 refine qm (G:=Nat) (fun k=>k≤a.length∧a.take k=b.take k) (fun k=>[(0,.pl (a.map qq)),(1,.pl (b.map qq)),(12,.int .i64 (a.length:Int)),(13,.int .i64 (k:Int))]) (fun _=>H++[]) (fun k=>a.length-k) 0 ⟨Nat.zero_le _,rfl⟩ Y8 (Fit.refl _ _) ?_
 rintro k ⟨hk,ht⟩
 refine Z43 ?_
 refine qa rfl (fun hc=>?_) (fun hc=>?_)
 ·have hlt:k<a.length:=by simpa using hc
  obtain ⟨x,hx,hxl⟩:=qo hlt
  obtain ⟨y,hy,hyl⟩:=qo (show k<b.length by omega)
  have hr:=ql qq hx
  have hr1:=ql qq hy
  clear hc
  refine Z1v ?_
  refine Z1g ?_
  refine Z6j ?_
  refine Z6k ?_
  refine aqp 3 rfl Y1v (by decide) (fun G=>q5c rfl hr rfl) ?_
  refine Z6n ?_
  refine Z6o ?_
  refine aqp 7 rfl Y1v (by decide) (fun G=>q5c rfl hr1 rfl) ?_
  refine aq0 8 rfl Y1v (by decide) (fun _=>qnr (us:=qbc x) (vs:=qbc y) rfl rfl rfl rfl Y24 (q9x _ _)) ?_
  refine Z1m ?_
  refine qa rfl (fun hc=>?_) (fun hc=>?_)
  ·have hne:x≠y:=by simpa using hc
   rw [show decide (a=b)=false from decide_eq_false fun e=>hne Yr]
   exact Z4g
  ·have he:x=y:=by simpa using hc
   subst he
   refine Zom ?_
   refine ⟨k+1,by omega,⟨by omega,?_⟩,Y8,.refl _ _⟩
   rw [qj hx,qj hy,ht]
 ·have:k=a.length:=by simp at hc;omega
  subst this
  rw [show decide (a=b)=true from decide_eq_true Yj]
  exact Z4g
set_option maxHeartbeats 0 in
theorem qs8 (a b:Job) (H:qf) (ha:a.needs.length≤1000000):AC Tryz.prog 45 [.agg (qv a),.agg (qv b)] H (Ret (.bool (decide (a=b))) H):=by
 have he:decide (a=b)=(a.id == b.id&&decide (a.spec=b.spec)&&a.state == b.state&&a.came == b.came&&a.frm == b.frm&&a.tto == b.tto&&decide (a.needs=b.needs)):=by
  cases a;cases b;simp [Bool.beq_eq_decide_eq];grind
 rw [he]
 refine AC.body (N:=52) [.tmp 4] Tryz.func45 rfl rfl rfl (Nat.le_of_ble_eq_true rfl) fun B hB=>?_
 refine Z3t ?_
 refine Z3s ?_
 refine Z6u ?_
 refine qn 4 (.bool (a.id == b.id&&decide (a.spec=b.spec)&&a.state == b.state&&a.came == b.came&&a.frm == b.frm&&a.tto == b.tto&&decide (a.needs=b.needs))) ?_ ?_
 ·refine Z6v ?_
  refine Z4q ?_
  refine qb rfl rfl (fun hg5=>?_) (fun hg5=>?_)
  ·refine Z2n ?_
   refine Z4x ?_
   refine Z2n ?_
   refine Z4x ?_
   refine Z6w ?_
   refine Z2q ?_
   refine qb rfl rfl (fun hg12=>?_) (fun hg12=>?_)
   ·refine Z6x ?_
    refine qb rfl rfl (fun hg19=>?_) (fun hg19=>?_)
    ·refine Z6x ?_
     refine qb rfl rfl (fun hg26=>?_) (fun hg26=>?_)
     ·refine Z6x ?_
      refine qb rfl rfl (fun hg33=>?_) (fun hg33=>?_)
      ·refine Z6x ?_
       refine qb rfl rfl (fun hg40=>?_) (fun hg40=>?_)
       ·refine Z70 ?_
        refine q5r rfl rfl (by decide) (V2.call (q7r a.needs b.needs ha _) rfl) ?_
        refine Zn ?_
        exact Zr3
       ·refine Z4k ?_
        exact Zr3
      ·refine Z73 ?_
       exact Zr3
     ·refine Z75 ?_
      exact Zr3
    ·refine Z76 ?_
     exact Zr3
   ·refine Z74 ?_
    refine Z75 ?_
    exact Zr3
  ·refine Z74 ?_
   refine Z76 ?_
   exact Zr3
 exact Z21
set_option maxHeartbeats 0 in
theorem qdm (F:Nat) [FnI Tryz.prog F] (a b:List Job) (hF:∀ x∈a,∀ y H,AC Tryz.prog F [.agg (qv x),.agg (qv y)] H (Ret (.bool (decide (x=y))) H)) (hl:a.length≤1000000) (H:qf):AC Tryz.prog 48 [.pl (a.map qv),.pl (b.map qv),.fn (.func F) [] []] H (Ret (.bool (decide (a=b))) H):=by
 refine AC.body (N:=32) [.tmp 6] Tryz.func48 rfl rfl rfl (Nat.le_of_ble_eq_true rfl) fun B hB=>?_
 refine Z6f ?_
 refine qa rfl (fun hc=>?_) (fun hc=>?_)
 ·have hne:¬ a.length=b.length:=by simp at hc;omega
  rw [show decide (a=b)=false from decide_eq_false fun e=>hne (by rw [e])]
  exact Z4g
 have hlen:a.length=b.length:=by simp at hc;omega
 clear hc
 refine Z7b ?_
 refine qm (G:=Nat) (fun k=>k≤a.length∧a.take k=b.take k) (fun k=>[(0,.pl (a.map qv)),(1,.pl (b.map qv)),(2,.fn (.func F) [] []),(15,.pl (a.map qv)),(16,.int .i64 (a.length:Int)),(17,.int .i64 (k:Int))]) (fun _=>H++[]) (fun k=>a.length-k) 0 ⟨Nat.zero_le _,rfl⟩ Y8 (Fit.refl _ _) ?_
 rintro k ⟨hk,ht⟩
 refine Z43 ?_
 refine qa rfl (fun hc=>?_) (fun hc=>?_)
 ·have hlt:k<a.length:=by simpa using hc
  obtain ⟨x,hx,hxl⟩:=qo hlt
  obtain ⟨y,hy,hyl⟩:=qo (show k<b.length by omega)
  have hr:=ql qv hx
  have hr1:=ql qv hy
  clear hc
  refine Z9e ?_
  refine Z5d ?_
  refine Z3 ?_
  refine Z5q ?_
  refine Z9h ?_
  refine Zau ?_
  refine Zr4 ?_
  refine Zr5 ?_
  refine Zfi ?_
  refine Zb2 ?_
  refine Z1u ?_
  refine Z36 ?_
  refine Z36 ?_
  refine Zr6 ?_
  refine Zl7 ?_
  refine qa rfl (fun hc=>?_) (fun hc=>?_)
  ·have hne:x≠y:=by simpa using hc
   rw [show decide (a=b)=false from decide_eq_false fun e=>hne Yr]
   exact Z4g
  ·have he:x=y:=by simpa using hc
   subst he
   refine Zom ?_
   refine ⟨k+1,by omega,⟨by omega,?_⟩,Y8,Fit.loc hB (G:=[⟨0,13,[qv x]⟩,⟨0,13,[qv x]⟩]) rfl Y1 (fun a ha=>by cases ha)⟩
   rw [qj hx,qj hy,ht]
 ·have:k=a.length:=by simp at hc;omega
  subst this
  rw [show decide (a=b)=true from decide_eq_true Yj]
  exact Z4g
set_option maxHeartbeats 0 in
theorem qcs (F:Nat) [FnI Tryz.prog F] (a b:List Held) (hF:∀ x∈a,∀ y H,AC Tryz.prog F [.agg (qi x),.agg (qi y)] H (Ret (.bool (decide (x=y))) H)) (hl:a.length≤1000000) (H:qf):AC Tryz.prog 49 [.pl (a.map qi),.pl (b.map qi),.fn (.func F) [] []] H (Ret (.bool (decide (a=b))) H):=by
 refine AC.body (N:=32) [.tmp 6] Tryz.func49 rfl rfl rfl (Nat.le_of_ble_eq_true rfl) fun B hB=>?_
 refine Z6f ?_
 refine qa rfl (fun hc=>?_) (fun hc=>?_)
 ·have hne:¬ a.length=b.length:=by simp at hc;omega
  rw [show decide (a=b)=false from decide_eq_false fun e=>hne (by rw [e])]
  exact Z4g
 have hlen:a.length=b.length:=by simp at hc;omega
 clear hc
 refine Z7b ?_
 refine qm (G:=Nat) (fun k=>k≤a.length∧a.take k=b.take k) (fun k=>[(0,.pl (a.map qi)),(1,.pl (b.map qi)),(2,.fn (.func F) [] []),(15,.pl (a.map qi)),(16,.int .i64 (a.length:Int)),(17,.int .i64 (k:Int))]) (fun _=>H++[]) (fun k=>a.length-k) 0 ⟨Nat.zero_le _,rfl⟩ Y8 (Fit.refl _ _) ?_
 rintro k ⟨hk,ht⟩
 refine Z43 ?_
 refine qa rfl (fun hc=>?_) (fun hc=>?_)
 ·have hlt:k<a.length:=by simpa using hc
  obtain ⟨x,hx,hxl⟩:=qo hlt
  obtain ⟨y,hy,hyl⟩:=qo (show k<b.length by omega)
  have hr:=ql qi hx
  have hr1:=ql qi hy
  clear hc
  refine Z9e ?_
  refine Z77 ?_
  refine Z3 ?_
  refine Zc4 ?_
  refine Z9h ?_
  refine Zau ?_
  refine Zr4 ?_
  refine Zr5 ?_
  refine Zfk ?_
  refine Zb2 ?_
  refine Z1u ?_
  refine Z36 ?_
  refine Z36 ?_
  refine Zr6 ?_
  refine Zl7 ?_
  refine qa rfl (fun hc=>?_) (fun hc=>?_)
  ·have hne:x≠y:=by simpa using hc
   rw [show decide (a=b)=false from decide_eq_false fun e=>hne Yr]
   exact Z4g
  ·have he:x=y:=by simpa using hc
   subst he
   refine Zom ?_
   refine ⟨k+1,by omega,⟨by omega,?_⟩,Y8,Fit.loc hB (G:=[⟨0,4,[qi x]⟩,⟨0,4,[qi x]⟩]) rfl Y1 (fun a ha=>by cases ha)⟩
   rw [qj hx,qj hy,ht]
 ·have:k=a.length:=by simp at hc;omega
  subst this
  rw [show decide (a=b)=true from decide_eq_true Yj]
  exact Z4g
end Go.Av
namespace Go.Av
deriving instance DecidableEq for Inst
deriving instance DecidableEq for Seat
def q89 (s:Seat):List OOp→List Seat
 | []=>[s]
 | o :: os=>s :: q89 (sdo s o).1 os
def stl (s:Seat):List OOp→Seat
 | []=>s
 | o :: os=>stl (sdo s o).1 os
theorem qjw:∀ (os:List OOp) (s:Seat),(q89 s os).length=os.length+1
 | [],_=>rfl
 | o :: os,s=>by rw [q89,List.length_cons,qjw os,List.length_cons]
theorem qgx (o:OOp):∀ (os:List OOp) (s:Seat),q89 s (os++[o])=q89 s os++[(sdo (stl s os) o).1]
 | [],_=>rfl
 | p :: os,s=>by rw [List.cons_append,q89,qgx o os,q89,stl];rfl
theorem Tr.stl {s t:Seat} {os:List OOp} (h:Tr s os t):stl s os=t:=by
 induction h with
 | nil=>rfl
 | cons h _ ih=>exact ih
theorem qe6 {t:Seat}:∀ {os:List OOp} {s:Seat},Tr s os t→∀ {i:Nat} {u:Seat},(q89 s os)[i]?=some u→Tr s (os.take i) u
 | [],s,_,0,u,hu=>by obtain rfl:=Option.some.inj hu;exact .nil _
 | [],s,_,i+1,u,hu=>by cases hu
 | o :: os,s,h,0,u,hu=>by obtain rfl:=Option.some.inj hu;exact .nil _
 | o :: os,s,h,i+1,u,hu=>by
  cases h with
  | cons h r=>exact .cons h (qe6 r hu)
theorem Tr.grow {s t:Seat} {os:List OOp} (h:Tr s os t):t.log.length≤s.log.length+1104 * os.length:=by
 induction h with
 | nil=>simp
 | @cons s t o os h _ ih =>
  rcases qd5 s o with e | e
  ·exact absurd h e.1
  ·have hk:=(q93 e.2.1).2
   have he:=q4w (q2o o)
   rw [e.2.2.2.2] at ih
   simp only [List.length_append] at ih
   rw [List.length_cons]
   omega
theorem ql0 {g:List Thing} {p d:Int}:(q6x g p d).2=(qby g p d).2:=by
 unfold q6x
 split
 ·rfl
 ·rename_i h;simp only;omega
theorem qvt (g:List Thing) (p d:Int):(qby g p d).2=0∨(qby g p d).2=1:=by
 unfold qby
 split
 ·exact .inr rfl
 ·exact .inl rfl
theorem qt5 {s:Seat} {o:OOp} (h:(sdo s o).2.2≠0):(sdo s o).1=s:=by
 rcases qd5 s o with e | e
 ·rw [e.2]
 ·exact absurd e.1 h
theorem qfd (b:List UInt8):(q23 b).1.needs.length≤20∧(q23 b).1.set.length≤1000000:=by
 rcases qwe b with h | h
 ·have h1:=(q75 (b:=b) (o:=(q23 b).1) Yv).1
  have hp:=(q75 (b:=b) (o:=(q23 b).1) Yv).2.2
  unfold q4i at h1
  unfold q9r at hp
  rcases qnz (q75 (b:=b) (o:=(q23 b).1) Yv).1 with e | e | e | e | e
  ·rw [if_pos e] at h1 hp
   simp only [Bool.and_eq_true,decide_eq_true_eq] at h1
   rw [← hp] at h1 ⊢
   simp only at h1 ⊢
   exact ⟨by omega,by simp⟩
  ·rw [if_neg (by omega),if_pos (.inl e)] at hp
   rw [← hp];exact ⟨by simp,by simp⟩
  ·rw [if_neg (by omega),if_neg (by omega),if_pos e] at hp
   rw [← hp];exact ⟨by simp,by simp⟩
  ·rw [if_neg (by omega),if_neg (by omega),if_neg (by omega),if_pos e] at h1
   rw [if_neg (by omega),if_neg (by omega),if_neg (by omega)] at hp
   simp only [Bool.and_eq_true] at h1
   have:=qjb h1.2
   rw [← hp];exact ⟨by simp,by simp only;omega⟩
  ·rw [if_neg (by omega),if_pos (.inr e)] at hp
   rw [← hp];exact ⟨by simp,by simp⟩
 ·rw [h];exact ⟨by decide,by decide⟩
end Go.Av
namespace Go.Av
open Go.Proofs
theorem qzi (a b:Seat):decide (a=b)=((decide (a.graph=b.graph)&&a.policy == b.policy&&a.depth == b.depth&&decide (a.log=b.log))&&(decide (a.inst.graph=b.inst.graph)&&decide (a.inst.health=b.inst.health)&&decide (a.inst.lease=b.inst.lease)&&a.inst.til == b.inst.til&&a.inst.now == b.inst.now&&a.inst.policy == b.inst.policy&&a.inst.depth == b.inst.depth)&&decide (a.inst.jobs=b.inst.jobs)&&decide (a.inst.table=b.inst.table)):=by
 obtain ⟨g,p,d,l,i⟩:=a
 obtain ⟨g2,p2,d2,l2,i2⟩:=b
 obtain ⟨a1,a2,a3,a4,a5,a6,a7,a8,a9⟩:=i
 obtain ⟨b1,b2,b3,b4,b5,b6,b7,b8,b9⟩:=i2
 simp only [Seat.mk.injEq,Inst.mk.injEq,Bool.beq_eq_decide_eq]
 rw [Bool.eq_iff_iff]
 simp only [Bool.and_eq_true,decide_eq_true_eq,beq_iff_eq]
 grind
structure GSm where
 p:Nat
 q:Nat
 M:qf
set_option maxHeartbeats 0 in
theorem qef (a b:Seat) (hw:SW a) (H:qf):AC Tryz.prog 17 [.agg (q35 a),.agg (q35 b)] H (Ret (.bool (decide (a=b))) H):=by
 have w1:=hw.graph
 have w2:=hw.iw.graph
 have w3:=hw.iw.health
 have w4:=hw.iw.lease
 have w5:=hw.iw.jobs
 have w6:=hw.iw.table.1
 have w7:=hw.iw.table.2
 have w8:=hw.jw.2
 rw [qzi]
 refine AC.body (N:=108) [.tmp 4] Tryz.func17 rfl rfl rfl (Nat.le_of_ble_eq_true rfl) fun B hB=>?_
 refine Zr8 ?_
 refine Z3s ?_
 refine Z3s ?_
 refine Z1p ?_
 refine Zr1 ?_
 refine Zr8 ?_
 refine Zr9 ?_
 refine qe ?_
 refine Zr8 ?_
 refine Zr9 ?_
 refine qe ?_
 refine Zr7 ?_
 refine q9b (G:=GSm) (fun g=>g.M[g.p]?=some ⟨0,9,[q1j a.inst]⟩∧g.M[g.q]?=some ⟨0,9,[q1j b.inst]⟩∧g.M[Lid H.length 0]?=some ⟨0,13,[q35 a]⟩∧g.M[Lid H.length 1]?=some ⟨0,13,[q35 b]⟩∧∃ s,g.M=H++s) (fun g=>[(2,.pt (Lid H.length 0) 0 0 0),(3,.pt (Lid H.length 1) 0 0 0),(5,.fn (.func 43) [] []),(6,.fn (.func 45) [] []),(7,.pt g.p 0 0 0),(8,.pt g.q 0 0 0)]) (fun g=>g.M++[]) ?_ ?_
 ·refine Zr7 ?_
  refine Z81 ?_
  try dsimp only [List.take_succ_cons,List.take_zero,List.cons_append,List.nil_append]
  refine Z9k ?_
  refine Zra ?_
  refine Zno ?_
  refine aqp 3 rfl Y1v (by decide) (fun G=>q6g (cs:=[_,_,_,_,_,_,_,_,_]) rfl (lk rfl rfl) rfl rfl rfl rfl) ?_
  refine qpl [4,5] Y1v (by simp) Y1f ?_
  simp only [List.forall_mem_cons,List.not_mem_nil,false_implies,implies_true,and_true]
  refine ⟨?_,?_⟩
  ·refine Zrb ?_
   refine aqs 5 rfl Y1v Y1f Y1o (q38 (sz:=9) rfl (by decide) rfl) ?_
   refine Zrc ?_
   refine Zrd ?_
   refine Z1l ?_
   refine Zre ?_
   exact q1u ⟨Lid H.length 2,Lid H.length 3,_⟩ ⟨lk rfl rfl,lk rfl rfl,lk rfl rfl,lk rfl rfl,⟨_,rfl⟩⟩ Y8 (.inl (List.append_nil _).symm)
  ·refine Zrb ?_
   refine aqs 4 rfl Y1v Y1f Y1o (q38 (sz:=9) rfl (by decide) rfl) ?_
   refine Zrc ?_
   refine Zrd ?_
   refine Z1l ?_
   refine Zre ?_
   exact q1u ⟨Lid H.length 3,Lid H.length 2,_⟩ ⟨lk rfl rfl,lk rfl rfl,lk rfl rfl,lk rfl rfl,⟨_,rfl⟩⟩ Y8 (.inl (List.append_nil _).symm)
 rintro ⟨p,q,M⟩ ⟨hF,hF1,hF2,hF3,s,hs⟩
 simp only at hF hF1 hF2 hF3 hs ⊢
 refine Zr7 ?_
 refine qn 9 (.bool (decide (a.graph=b.graph)&&a.policy == b.policy&&a.depth == b.depth&&decide (a.log=b.log))) ?_ ?_
 ·refine Zp3 ?_
  refine ao1 (by decide) (qh (v:=.pl _) rfl (lkF hF2) rfl rfl rfl) ?_
  refine ao1 (by decide) (qc rfl (lkF hF3) rfl (by decide)) ?_
  refine ao1 (by decide) (qh (v:=.pl _) rfl (lkF hF3) rfl rfl rfl) ?_
  refine Zrf ?_
  refine Zh ?_
  refine qb rfl rfl (fun hg5=>?_) (fun hg5=>?_)
  ·refine Zrg ?_
   refine Zrh ?_
   refine Zri ?_
   refine Zrj ?_
   refine Z4v ?_
   refine qb rfl rfl (fun hg12=>?_) (fun hg12=>?_)
   ·refine Zrg ?_
    refine Zrh ?_
    refine Zri ?_
    refine Zrj ?_
    refine Z4v ?_
    refine qb rfl rfl (fun hg19=>?_) (fun hg19=>?_)
    ·refine Zrg ?_
     refine q1c rfl rfl (by decide) (qh (v:=.pl _) rfl (lkF hF2) rfl rfl rfl) ?_
     refine Zri ?_
     refine q1c rfl rfl (by decide) (qh (v:=.pl _) rfl (lkF hF3) rfl rfl rfl) ?_
     refine q5r rfl rfl (by decide) (V2.call (qei _ _ _) rfl) ?_
     refine Zn ?_
     exact Zrk
    ·refine Z4k ?_
     exact Zrk
   ·refine Z73 ?_
    exact Zrk
  ·refine Z75 ?_
   exact Zrk
 refine Zr7 ?_
 refine qn 10 (.bool (decide (a.inst.graph=b.inst.graph)&&decide (a.inst.health=b.inst.health)&&decide (a.inst.lease=b.inst.lease)&&a.inst.til == b.inst.til&&a.inst.now == b.inst.now&&a.inst.policy == b.inst.policy&&a.inst.depth == b.inst.depth)) ?_ ?_
 ·refine Zi5 ?_
  refine Zpg ?_
  refine Zph ?_
  refine Zrf ?_
  refine Zh ?_
  refine qb rfl rfl (fun hg5=>?_) (fun hg5=>?_)
  ·refine Zk8 ?_
   refine Zrl ?_
   refine Zpx ?_
   refine Zpy ?_
   refine Zrm ?_
   refine Z2q ?_
   refine qb rfl rfl (fun hg12=>?_) (fun hg12=>?_)
   ·refine Zk8 ?_
    refine Zrl ?_
    refine Zpx ?_
    refine Zpy ?_
    refine Zrm ?_
    refine Z2q ?_
    refine qb rfl rfl (fun hg19=>?_) (fun hg19=>?_)
    ·refine Zk8 ?_
     refine Zrn ?_
     refine Zpx ?_
     refine Zro ?_
     refine Z4v ?_
     refine qb rfl rfl (fun hg26=>?_) (fun hg26=>?_)
     ·refine Zk8 ?_
      refine Zrn ?_
      refine Zpx ?_
      refine Zro ?_
      refine Z4v ?_
      refine qb rfl rfl (fun hg33=>?_) (fun hg33=>?_)
      ·refine Zk8 ?_
       refine Zrn ?_
       refine Zpx ?_
       refine Zro ?_
       refine Z4v ?_
       refine qb rfl rfl (fun hg40=>?_) (fun hg40=>?_)
       ·refine Zk8 ?_
        refine Zrn ?_
        refine Zpx ?_
        refine Zro ?_
        refine Z4r ?_
        refine Zn ?_
        exact Zrk
       ·refine Z4k ?_
        exact Zrk
      ·refine Z73 ?_
       exact Zrk
     ·refine Z75 ?_
      exact Zrk
    ·refine Z76 ?_
     exact Zrk
   ·refine Z74 ?_
    refine Z75 ?_
    exact Zrk
  ·refine Z74 ?_
   refine Z76 ?_
   exact Zrk
 generalize (decide (a.graph=b.graph)&&a.policy == b.policy&&a.depth == b.depth&&decide (a.log=b.log))=x1
 generalize (decide (a.inst.graph=b.inst.graph)&&decide (a.inst.health=b.inst.health)&&decide (a.inst.lease=b.inst.lease)&&a.inst.til == b.inst.til&&a.inst.now == b.inst.now&&a.inst.policy == b.inst.policy&&a.inst.depth == b.inst.depth)=x2
 refine Zr7 ?_
 refine qn 4 (.bool (x1&&x2&&decide (a.inst.jobs=b.inst.jobs)&&decide (a.inst.table=b.inst.table))) ?_ ?_
 ·refine Z31 ?_
  refine qb rfl rfl (fun hg1=>?_) (fun hg1=>?_)
  ·refine Z32 ?_
   refine Z2q ?_
   refine qb rfl rfl (fun hg4=>?_) (fun hg4=>?_)
   ·refine Zk8 ?_
    refine Zrl ?_
    refine Zpx ?_
    refine Zpy ?_
    refine Zdm ?_
    refine q5r rfl rfl (by decide) (V2.call (qdm 45 a.inst.jobs b.inst.jobs (fun x hx y H=>qs8 x y H (w8 x hx)) w5 _) rfl) ?_
    refine Z2q ?_
    refine qb rfl rfl (fun hg12=>?_) (fun hg12=>?_)
    ·refine Zk8 ?_
     refine Zrl ?_
     refine Zpx ?_
     refine Zpy ?_
     refine Zdm ?_
     refine q5r rfl rfl (by decide) (V2.call (qcs 43 a.inst.table b.inst.table (fun x hx y H=>qrk x y H (w7 x hx)) w6 _) rfl) ?_
     refine Zn ?_
     exact Zrk
    ·refine Zc1 ?_
     exact Zrk
   ·refine Zo1 ?_
    refine Zc1 ?_
    exact Zrk
  ·refine Z1y ?_
   refine Zh ?_
   refine Zo1 ?_
   refine Zc1 ?_
   exact Zrk
 refine Zr7 ?_
 rw [hs,List.append_nil]
 exact Zb
theorem RI.look {w:Inst} (h:RI w):RI (q65 w):=h.broken.refuse.begin
theorem RI.submit {i:Inst} (h:RI i) (s:Spec) {needs:List Int} (hn:needs.length≤1000000) (hl:i.jobs.length<1000000):RI (q3k i s needs).1:=by
 unfold q3k
 split
 ·exact h
 ·split
  ·exact h
  ·exact (h.jobs (h.jw.add s i.now hn hl)).look
theorem RI.act {i:Inst} (h:RI i) (id what:Int):RI (ido i id what).1:=by
 unfold ido
 split
 ·exact h
 ·split
  ·exact h
  ·exact (h.wdo _ _ _).look
theorem RI.tick {i:Inst} (h:RI i) (now:Int):RI (q8t i now).1:=by
 unfold q8t
 split
 ·exact h
 ·rw [← qty]
  exact (h.tck now _).look
theorem RI.lent {i:Inst} (h:RI i) {l:List Int} (til:Int) (hl:l.length≤1000000):RI (q9h i l til).1:=by
 unfold q9h
 split
 ·exact h
 ·exact (h.lend til hl).look
theorem RI.marked {i:Inst} (h:RI i) (n how:Int):RI (q8a i n how).1:=by
 unfold q8a
 split
 ·exact h
 ·split
  ·exact h
  ·exact (h.mark n how).look
theorem qq1 (g:List Thing) (n:Int):(q6f g n).length≤g.length:=by
 unfold q6f
 split
 ·exact qae _ _
 ·simp
theorem q11x (g:List Thing) (p d:Int) (hl:g.length≤1000000):RI (qby g p d).1∧(qby g p d).1.jobs=[]:=by
 have hu:=qq1 g 0
 unfold qby
 split
 ·refine ⟨⟨⟨?_,?_,?_,?_,?_,?_⟩,?_,?_⟩,rfl⟩<;>simp [qq2]
 ·refine ⟨⟨⟨hl,by simpa using hl,Nat.le_trans hu hl,by simp,by simp,by simp⟩,by simp,by simp⟩,rfl⟩
theorem RI.step {i:Inst} (h:RI i) (o:OOp) (hn:o.needs.length≤1000000) (hs:o.set.length≤1000000) (hl:i.jobs.length<1000000):RI (q4l i o).1:=by
 unfold q4l
 split
 ·exact h.submit _ hn hl
 ·split
  ·exact h.act _ _
  ·split
   ·exact h.tick _
   ·split
    ·exact h.lent _ hs
    ·split
     ·exact h.marked _ _
     ·exact h
structure SG (s : Seat) : Prop where
 gs:GS s.inst
 ri:RI s.inst
 graph:s.graph.length≤1000000
 log:s.log.length≤1048576
theorem GS.jlen {i:Inst} (h:GS i):i.jobs.length≤64:=(jobs_iff.1 h.gj.ir.jobs).1
theorem SG.sw {s:Seat} (h:SG s):SW s:=⟨h.graph,by have:=h.log;omega,h.ri.iw,h.ri.jw⟩
theorem SG.do {s:Seat} (h:SG s) (o:OOp) (hn:o.needs.length≤1000000) (hs:o.set.length≤1000000):SG (sdo s o).1:=by
 have hj:=h.gs.jlen
 rcases qd5 s o with e | e
 ·rw [e.2];exact h
 ·rw [e.2.2.2.2]
  exact ⟨qw0 h.gs o,h.ri.step o hn hs (by omega),h.graph,by have:=e.2.2.1;simp only [List.length_append];exact this⟩
theorem SG.new {g:List Thing} {p d:Int} (h:(q6x g p d).2=0) (hl:g.length≤1000000):SG (q6x g p d).1:=by
 obtain ⟨e,h1⟩:=q91 h
 rw [e]
 exact ⟨qvc h1,(q11x g p d hl).1,hl,by simp⟩
theorem q13z (l:List (List UInt8)) {k:Nat} {x:List UInt8} (h:l[k]?=some x):(l.map eB)[k]?=some [.pl (x.map q15)]:=ql eB h
abbrev z13:List AV:=[.nsl,.int .i64 0,.int .i64 0,.nsl,.nsl,.nsl,.nsl,.int .i64 0,.nsl,.nsl,.int .i64 0,.int .i64 0,.int .i64 0]
theorem qvg {n:Nat} (b:Seat):∀ o∈([⟨0,13,[z13]⟩,⟨0,13,[q35 b]⟩]:qf),∀ r∈o.rows,AV.bels n r=true:=by
 intro o ho r hr
 simp only [List.mem_cons,List.not_mem_nil,or_false] at ho
 rcases ho with rfl | rfl<;>(simp only [List.mem_singleton] at hr;subst hr;rfl)
theorem q12y {α:Type} {l:List α} {k:Nat} {x:α} (h:l[k]?=some x):l.drop k=x :: l.drop (k+1):=by
 obtain ⟨h1,h2⟩:=List.getElem?_eq_some_iff.1 h
 rw [List.drop_eq_getElem_cons h1,h2]
theorem qf7:∀ es:List (List UInt8),es.length≤(q4m es).length
 | []=>Nat.zero_le _
 | e :: es=>by
  have:=qf7 es
  have:=q4w e
  rw [q6b,List.length_append,List.length_cons];omega
structure GRa where
 k:Nat
 s:Seat
set_option maxHeartbeats 0 in
theorem q9d (g:List Thing) (p d:Int) (b:List UInt8) (hl:g.length≤1000000) (hbl:b.length≤9000000) (H:qf):ACT Tryz.prog KD 21 [.pl (g.map qq),.int .i64 p,.int .i64 d,.pl (b.map q15)] H (Ret (.tup [.agg (q35 (q3r g p d b).1),.int .i64 (q3r g p d b).2]) H):=by
 have hsg:=fun h=>SG.new (g:=g) (p:=p) (d:=d) h hl
 have hr:=q8z (g:=g) (p:=p) (d:=d)
 have hre:(q6x g p d).2≠0→q3r g p d b=(qgf,(q6x g p d).2):=fun h=>by rw [q3r,if_pos h]
 have cn:=fun H=>qdz g p d hl H
 refine ACT.body (N:=61) [.cell 8 47,.tmp 9] Tryz.func21 rfl rfl rfl (Nat.le_of_ble_eq_true rfl) fun B hB=>?_
 refine Zr8 ?_
 refine Z5d ?_
 refine Z4 ?_
 refine Zqx ?_
 generalize q6x g p d=q at *
 obtain ⟨s0,e⟩:=q
 simp only at hsg hr hre cn
 refine Zr8 ?_
 refine Z3g ?_
 refine Z2d ?_
 refine Zqp ?_
 refine Zhn ?_
 refine Zrp ?_
 refine Zr8 ?_
 refine Z8 ?_
 refine Z27 ?_
 refine qe ?_
 refine Zr7 ?_
 refine qa rfl (fun hc=>?_) (fun hc=>?_)
 ·have he:e≠0:=by simpa using hc
  rw [hre he]
  refine Zr8 ?_
  refine Zqz ?_
  refine Z8 ?_
  refine Z5r ?_
  refine Zdu ?_
  refine Zr7 ?_
  exact Z5u
 have he:e=0:=by simpa using hc
 clear hc
 rw [hr he b]
 have hs0:=hsg he
 clear hr hre hsg cn
 have hes:∀ e∈(q2j b).1,e.length≤4096:=fun e he=>by
  have:=(q7h b).1 e he
  simp only [okE,Bool.and_eq_true,decide_eq_true_eq] at this
  omega
 have hrl:(q2j b).1.length≤9000000:=by
  obtain ⟨_,h1,h2,_⟩:=q7h b
  have h3:=congrArg List.length h2
  rw [List.length_append,← h1] at h3
  have:=qf7 (q2j b).1
  omega
 refine Zr8 ?_
 refine Z3g ?_
 refine q12 (q90 _ (by omega) _) rfl (by decide) ?_
 refine Zia ?_
 try dsimp only
 generalize (q2j b).1=es at *
 refine Zr8 ?_
 refine Z3g ?_
 refine Zaz ?_
 repeat (first | refine qej ?_ | refine qew ?_ | refine q7w ?_ | refine q7y ?_ | refine q61 ?_ | refine qa8 ?_ | refine q7v ?_ | refine q9u ?_ | refine q80 rfl ?_ | refine q83 ?_ | refine qa3 ?_ | refine qau ?_ | refine q7z ?_ | refine q9v ?_ | refine q7q ?_ | refine q2y ?_)
 refine q9b (G:=GRa) (fun g=>SG g.s∧q4p s0 es=g.s) (fun g=>[(8,.pt (Lid H.length 0) 0 0 0),(10,.pt (Lid H.length 1) 0 0 0)]) (fun g=>H++[⟨0,13,[z13]⟩,⟨0,13,[q35 g.s]⟩]) ?_ ?_
 ·repeat (first | refine qej ?_ | refine qew ?_ | refine q7w ?_ | refine q7y ?_ | refine q61 ?_ | refine qa8 ?_ | refine q7v ?_ | refine q9u ?_ | refine q80 rfl ?_ | refine q83 ?_ | refine qa3 ?_ | refine qau ?_ | refine qat ?_ | refine q7z ?_ | refine q9v ?_ | refine q7q ?_)
  refine qm (G:=GRa) (fun q=>q.k≤es.length∧SG q.s∧q4p s0 es=q4p q.s (es.drop q.k)) (fun q=>[(KT,KD.av),(8,.pt (Lid H.length 0) 0 0 0),(10,.pt (Lid H.length 1) 0 0 0),(36,.pl (es.map eB)),(37,.int .i64 (es.length:Int)),(38,.int .i64 (q.k:Int))]) (fun q=>H++[⟨0,13,[z13]⟩,⟨0,13,[q35 q.s]⟩]) (fun q=>es.length-q.k) ⟨0,s0⟩ ⟨Nat.zero_le _,hs0,rfl⟩ Y8 (.inl rfl) ?_
  rintro ⟨k,s⟩ ⟨i1,hs,i3⟩
  simp only at i1 hs i3 ⊢
  refine Zr8 ?_
  refine Zjd ?_
  refine Zr7 ?_
  refine qa rfl (fun hc=>?_) (fun hc=>?_)
  ·have hlt:k<es.length:=by simpa using hc
   clear hc
   obtain ⟨x,hx,hxl⟩:=qo hlt
   have hr:=q13z es hx
   have hxn:=hes x hxl
   have hst:q4p s (x :: es.drop (k+1))=if (q23 x).2≠0 then s else if (sdo s (q23 x).1).2.2≠0 then s else q4p (sdo s (q23 x).1).1 (es.drop (k+1)):=by rw [q4p]
   rw [q12y hx,hst] at i3
   have hro:=qfd x
   have cr:=fun H=>qvm x (by omega) H
   clear hst
   generalize q23 x=y at *
   obtain ⟨o,e1⟩:=y
   simp only at i3 hro cr
   refine Zr8 ?_
   refine Z44 ?_
   refine ao1 (by decide) (q2m (v:=.pl _) rfl hr rfl) ?_
   refine Zmj ?_
   refine Zr8 ?_
   refine Z3g ?_
   refine Zpq ?_
   refine Zhn ?_
   refine Zb1 ?_
   refine Zr8 ?_
   refine Z8 ?_
   refine Z27 ?_
   refine qe ?_
   refine Zr7 ?_
   refine qa rfl (fun hc=>?_) (fun hc=>?_)
   ·have h1:e1≠0:=by simpa using hc
    rw [if_pos h1] at i3
    refine Zr7 ?_
    exact q1u ⟨0,s⟩ ⟨hs,i3⟩ Y8 (Fit.loc hB (G:=[⟨0,13,[eOp o]⟩]) rfl Y1 (qvg _))
   have h1:e1=0:=by simpa using hc
   clear hc
   rw [if_neg (by omega)] at i3
   have hsd:=hs.do o (by omega) hro.2
   have cd:=fun H=>qes s o hs.sw hs.ri (by have:=hs.gs.jlen;omega) (by omega) hro.2 H
   generalize sdo s o=z at *
   obtain ⟨s2,id,e2⟩:=z
   simp only at i3 hsd cd
   refine Zr8 ?_
   refine Z36 ?_
   refine Z36 ?_
   refine ao2 Y1o (V2.callT (cd _) rfl rfl) ?_
   refine Zhl ?_
   refine Z14 ?_
   refine Zfi ?_
   refine Z15 ?_
   refine Zrp ?_
   refine Zr8 ?_
   refine Z8 ?_
   refine Z27 ?_
   refine qe ?_
   refine Zr7 ?_
   refine qa rfl (fun hc=>?_) (fun hc=>?_)
   ·have h2:e2≠0:=by simpa using hc
    rw [if_pos h2] at i3
    refine Zr7 ?_
    exact q1u ⟨0,s⟩ ⟨hs,i3⟩ Y8 (Fit.loc hB (G:=[⟨0,13,[eOp o]⟩,⟨0,13,[q35 s2]⟩]) rfl Y1 (qvg _))
   have h2:e2=0:=by simpa using hc
   clear hc
   rw [if_neg (by omega)] at i3
   refine Zr8 ?_
   refine Z36 ?_
   refine Z5q ?_
   refine qe ?_
   refine Z5s ?_
   refine Zr8 ?_
   refine Zok ?_
   refine Z8 ?_
   refine qe ?_
   refine Zr7 ?_
   exact ⟨⟨k+1,s2⟩,by simp only;omega,⟨by simp only;omega,hsd,i3⟩,Y8,Fit.loc hB (G:=[⟨0,13,[eOp o]⟩,⟨0,13,[q35 s2]⟩]) rfl Y1 (qvg _)⟩
  ·have:k=es.length:=by simp at hc;omega
   subst this
   rw [List.drop_length,q4p] at i3
   refine Zr7 ?_
   exact q1u ⟨0,s⟩ ⟨hs,i3⟩ Y8 (.inl rfl)
 rintro ⟨k,s⟩ ⟨hs,e2⟩
 simp only at hs e2 ⊢
 rw [e2]
 refine Zr8 ?_
 refine Z36 ?_
 refine Z5r ?_
 try dsimp only [List.cons_append,List.nil_append,put,List.set_cons_zero]
 refine Zr7 ?_
 exact Z5u
def g3:List Thing:=[⟨0,-1,ByteArray.empty⟩,⟨2,0,ByteArray.empty⟩,⟨3,1,ByteArray.empty⟩]
def aw1:Seat:=(q6x g3 1 0).1
def awo:OOp:=⟨1,⟨1,1,0,ByteArray.empty,false,5,0⟩,[],0,0,0,[]⟩
def aw2:Seat:=(sdo aw1 awo).1
def awt:OOp:=⟨3,q2h,[],0,0,5,[]⟩
theorem qva:(q6x g3 1 0).2=0:=by decide +kernel
theorem q10e:(sdo aw1 awo).2=(1,0):=by decide +kernel
theorem q14j:aw2.inst.table.length=1:=by decide +kernel
theorem q150:aw2.log.length≤1000:=by decide +kernel
theorem aw1_sg:SG aw1:=SG.new qva (by decide)
theorem aw2_sg:SG aw2:=aw1_sg.do awo (by decide) (by decide)
theorem q13s:qfe awt=([3,0,0,0,0,0,0,0,5],0):=by decide +kernel
theorem q102:q3r g3 1 0 aw2.log=(aw2,0):=by
 have h:Tr aw1 [awo] aw2:=.cons (by rw [q10e]) (.nil _)
 have:=qbb (g:=g3) (p:=1) (d:=0) qva h (more:=[]) Y1d
 rwa [List.append_nil] at this
set_option maxHeartbeats 0 in
theorem qno (H:qf):ACT Tryz.prog KD 8 [] H (Ret (.bool true) H):=by
 have c1:=fun H=>qdz g3 1 0 (by decide) H
 rw [qva,show (q6x g3 1 0).1=aw1 from rfl] at c1
 have c2:=fun H=>qes aw1 awo aw1_sg.sw aw1_sg.ri (by have:=aw1_sg.gs.jlen;omega) (by decide) (by decide) H
 rw [show (sdo aw1 awo).1=aw2 from rfl,q10e] at c2
 have c3:=fun H=>q9d g3 1 0 aw2.log (by decide) (by have:=q150;omega) H
 rw [q102] at c3
 have c4:=fun H=>qok awt (by decide) (by decide) H
 rw [q13s] at c4
 have c5:=fun H=>qef aw2 aw2 aw2_sg.sw H
 rw [decide_eq_true rfl] at c5
 have ht:=q14j
 have hb8:(([3,0,0,0,0,0,0,0,5]:List UInt8).map q15)[(8:Int).toNat]?=some (q15 5):=rfl
 refine ACT.body (N:=80) [.tmp 0] Tryz.func8 rfl rfl rfl (Nat.le_of_ble_eq_true rfl) fun B hB=>?_
 refine Zlb ?_
 refine Zrq ?_
 refine Zrq ?_
 refine Zrq ?_
 refine ao2 Y1o (qp1 (g3.map qq) rfl (by decide) (by decide) (by decide) rfl rfl (by simp [g3]) rfl (by simp [g3,AV.bels,AV.bel])) ?_
 refine Zmj ?_
 refine Zrr ?_
 refine Z3h ?_
 refine ao2 Y1o (V2.call (c1 _) rfl) ?_
 refine Zhn ?_
 refine Zrs ?_
 refine Z37 ?_
 refine Zox ?_
 refine Zp7 ?_
 refine Zrt ?_
 refine Zhl ?_
 refine Z14 ?_
 refine Z5q ?_
 refine Z15 ?_
 try dsimp only [List.cons_append,List.nil_append,AV.up,put,List.set_cons_zero]
 refine Z3h ?_
 refine Z3v ?_
 refine ao2 Y1o (V2.callT (c3 _) rfl rfl) ?_
 refine Zhn ?_
 refine Zru ?_
 refine Z2 ?_
 refine Zp7 ?_
 refine Z5w ?_
 refine Zia ?_
 refine Zrr ?_
 refine Z1 ?_
 refine qn 0 (.bool true) ?_ ?_
 ·refine Z57 ?_
  refine qb rfl rfl (fun hg2=>?_) (fun hg2=>?_)
  ·refine Zj ?_
   refine Z4v ?_
   refine qb rfl rfl (fun hg6=>?_) (fun hg6=>?_)
   ·refine Zj ?_
    refine Z4v ?_
    refine qb rfl rfl (fun hg10=>?_) (fun hg10=>?_)
    ·refine Zj ?_
     refine Z4v ?_
     refine qb rfl rfl (fun hg14=>?_) (fun hg14=>?_)
     ·refine Z4z ?_
      refine Z4z ?_
      refine q5r rfl rfl (by decide) (V2.call (c5 _) rfl) ?_
      refine Z2q ?_
      refine qb rfl rfl (fun hg19=>?_) (fun hg19=>?_)
      ·refine Z2n ?_
       refine Z6z ?_
       refine Z9a ?_
       refine Z4v ?_
       refine qb rfl rfl (fun hg26=>?_) (fun hg26=>?_)
       ·refine Zj ?_
        refine Z4v ?_
        refine qb rfl rfl (fun hg30=>?_) (fun hg30=>?_)
        ·refine Z9b ?_
         refine Z4v ?_
         refine qb rfl rfl (fun hg35=>?_) (fun hg35=>?_)
         ·refine Z99 ?_
          refine q1c rfl rfl (by decide) (q5d rfl rfl (by decide) hb8 rfl) ?_
          refine q1c rfl rfl (by decide) (q2m (v:=.int _ _) rfl hb8 rfl) ?_
          refine Z4r ?_
          refine Zn ?_
          exact Z10
         ·exact Zrv
        ·refine Z2s ?_
         exact Zrv
       ·exact Zrw
      ·refine Z72 ?_
       exact Zrw
     ·refine Z2s ?_
      refine Z72 ?_
      exact Zrw
    ·refine Z54 ?_
     refine Z72 ?_
     exact Zrw
   ·refine Z53 ?_
    refine Z54 ?_
    refine Z72 ?_
    exact Zrw
  ·refine Z53 ?_
   refine Z53 ?_
   refine Z54 ?_
   refine Z72 ?_
   exact Zrw
 exact Z21
set_option maxHeartbeats 0 in
theorem qr5 (a b:List (List UInt8)) (hl:a.length≤1000000000) (H:qf):AC Tryz.prog 27 [.pl (a.map eB),.pl (b.map eB)] H (Ret (.bool (decide (a=b))) H):=by
 refine AC.body (N:=28) [.tmp 4] Tryz.func27 rfl rfl rfl (Nat.le_of_ble_eq_true rfl) fun B hB=>?_
 refine Z6f ?_
 refine qa rfl (fun hc=>?_) (fun hc=>?_)
 ·have hne:¬ a.length=b.length:=by simp at hc;omega
  rw [show decide (a=b)=false from decide_eq_false fun e=>hne (by rw [e])]
  exact Z4g
 have hlen:a.length=b.length:=by simp at hc;omega
 clear hc
 refine Z1e ?_
 refine qm (G:=Nat) (fun k=>k≤a.length∧a.take k=b.take k) (fun k=>[(0,.pl (a.map eB)),(1,.pl (b.map eB)),(5,.int .i64 (k:Int))]) (fun _=>H++[]) (fun k=>a.length-k) 0 ⟨Nat.zero_le _,rfl⟩ Y8 (Fit.refl _ _) ?_
 rintro k ⟨hk,ht⟩
 refine Z6h ?_
 refine qa rfl (fun hc=>?_) (fun hc=>?_)
 ·have hlt:k<a.length:=by simpa using hc
  obtain ⟨x,hx,hxl⟩:=qo hlt
  obtain ⟨y,hy,hyl⟩:=qo (show k<b.length by omega)
  have hr:=ql eB hx
  have hr1:=ql eB hy
  clear hc
  refine Z1h ?_
  refine Z6j ?_
  refine Z6k ?_
  refine aqp 3 rfl Y1v (by decide) (fun G=>q2m (v:=.pl _) rfl hr rfl) ?_
  refine aq0 4 rfl Y1v (by decide) (fun _=>q4q (bs:=x) rfl) ?_
  refine Zpb ?_
  refine Zll ?_
  refine aqp 7 rfl Y1v (by decide) (fun G=>qz rfl rfl hr1 rfl) ?_
  refine aqp 8 rfl Y1v (by decide) (fun G=>q2m (v:=.pl _) rfl hr1 rfl) ?_
  refine aq0 9 rfl Y1v (by decide) (fun _=>q4q (bs:=y) rfl) ?_
  refine aq0 10 rfl Y1v (by decide) (fun _=>q10f (p:=x) (q:=y) rfl rfl) ?_
  refine Z1m ?_
  refine qa rfl (fun hc=>?_) (fun hc=>?_)
  ·have hne:x≠y:=by simpa using hc
   rw [show decide (a=b)=false from decide_eq_false fun e=>hne Yr]
   exact Z4g
  ·have he:x=y:=by simpa using hc
   subst he
   refine Z11 ?_
   refine Zok ?_
   refine Za ?_
   refine ⟨k+1,by omega,⟨by omega,?_⟩,Y8,.refl _ _⟩
   rw [qj hx,qj hy,ht]
 ·have:k=a.length:=by simp at hc;omega
  subst this
  rw [show decide (a=b)=true from decide_eq_true Yj]
  exact Z4g
theorem qts (a b:Seat):decide (a=b)=(decide (a.graph=b.graph)&&a.policy == b.policy&&a.depth == b.depth&&decide (a.log=b.log)&&decide (a.inst=b.inst)):=by
 obtain ⟨g,p,d,l,i⟩:=a
 obtain ⟨g2,p2,d2,l2,i2⟩:=b
 simp only [Seat.mk.injEq,Bool.beq_eq_decide_eq]
 rw [Bool.eq_iff_iff]
 simp only [Bool.and_eq_true,decide_eq_true_eq,beq_iff_eq]
 grind
set_option maxHeartbeats 0 in
theorem q8x (a b:Seat) (hg:a.graph.length≤1000000) (hr:RI a.inst) (H:qf):AC Tryz.prog 20 [.agg (q35 a),.agg (q35 b)] H (Ret (.bool (decide (a=b))) H):=by
 rw [qts]
 refine AC.body (N:=40) [.tmp 4] Tryz.func20 rfl rfl rfl (Nat.le_of_ble_eq_true rfl) fun B hB=>?_
 refine Z3t ?_
 refine Z3s ?_
 refine Z1p ?_
 refine Zr1 ?_
 refine Z1 ?_
 refine qn 4 (.bool (decide (a.graph=b.graph)&&a.policy == b.policy&&a.depth == b.depth&&decide (a.log=b.log)&&decide (a.inst=b.inst))) ?_ ?_
 ·refine Z3v ?_
  refine Z3v ?_
  refine Zqv ?_
  refine Zh ?_
  refine qb rfl rfl (fun hg5=>?_) (fun hg5=>?_)
  ·refine Z6x ?_
   refine qb rfl rfl (fun hg12=>?_) (fun hg12=>?_)
   ·refine Z6x ?_
    refine qb rfl rfl (fun hg19=>?_) (fun hg19=>?_)
    ·refine Z6z ?_
     refine q1c rfl rfl (by decide) (q4q (bs:=a.log) rfl) ?_
     refine Z6z ?_
     refine q1c rfl rfl (by decide) (q4q (bs:=b.log) rfl) ?_
     refine q1c rfl rfl (by decide) (q10g (p:=a.log) (q:=b.log) rfl rfl) ?_
     refine Z2q ?_
     refine qb rfl rfl (fun hg28=>?_) (fun hg28=>?_)
     ·refine Z2n ?_
      refine Zrx ?_
      refine Z2n ?_
      refine Zrx ?_
      refine q5r rfl rfl (by decide) (V2.call (qgq a.inst b.inst _ hr) rfl) ?_
      refine Zn ?_
      exact Zry
     ·refine Z4k ?_
      exact Zry
    ·refine Zq ?_
     refine Z73 ?_
     exact Zry
   ·refine Z72 ?_
    refine Zq ?_
    refine Z73 ?_
    exact Zry
  ·refine Z74 ?_
   refine Zq ?_
   refine Z73 ?_
   exact Zry
 exact Z21
theorem sw0:SW qgf:=⟨by decide,by decide,⟨by decide,by decide,by decide,by decide,by decide,by simp [qgf,qq2]⟩,by decide,by simp [qgf,qq2]⟩
theorem SG.may {s:Seat} (h:SG s) {o:OOp} (hm:q4i o=true):SG (sdo s o).1:=by
 have h2:=qfd (q2o o)
 rw [qbr hm] at h2
 rw [← qk2 hm]
 exact h.do _ (by have:=h2.1;simp only at this;omega) h2.2
theorem Tr.sg {s t:Seat} {os:List OOp} (h:Tr s os t) (hs:SG s):SG t:=by
 induction h with
 | nil=>exact hs
 | @cons s t o os h _ ih =>
  rcases qd5 s o with e | e
  ·exact absurd h e.1
  ·exact ih (hs.may e.2.1)
set_option maxHeartbeats 0 in
theorem qhy (g:List Thing) (p d:Int) (b:List UInt8) (H:qf):ACT Tryz.prog KD 7 [.pl (g.map qq),.int .i64 p,.int .i64 d,.pl (b.map q15)] H (Ret (.bool true) H):=by
 refine ACT.body (N:=120) [.tmp 8] Tryz.func7 rfl rfl rfl (Nat.le_of_ble_eq_true rfl) fun B hB=>?_
 refine Zlb ?_
 refine Zrz ?_
 refine Zl7 ?_
 refine qa rfl (fun hc=>?_) (fun hc=>?_)
 ·simp at hc
 clear hc
 refine Z6a ?_
 refine Z2c ?_
 refine qa rfl (fun hc=>?_) (fun hc=>?_)
 ·exact Z4g
 have hg:g.length≤40:=by simp at hc;omega
 clear hc
 refine Z3h ?_
 refine Z6c ?_
 refine ao1 (by decide) (q10y (r:=((min b.length 400:Nat):Int)) rfl rfl Y1b) ?_
 refine ao1 (by decide) (q6r (ys:=(b.take (min b.length 400)).map q15) rfl (Bd.some rfl rfl) Y1b (q11 _) Y1p) ?_
 refine Zmj ?_
 have hcl:(b.take (min b.length 400)).length≤400:=by rw [List.length_take];omega
 generalize b.take (min b.length 400)=c at *
 have cr:=fun H=>q9d g p d c (by omega) (by omega) H
 have cn:=fun H=>qpz g p d H (by omega)
 have hcode:=ql0 (g:=g) (p:=p) (d:=d)
 by_cases h:(q6x g p d).2=0
 case neg =>
  have hse:q3r g p d c=(qgf,(qby g p d).2):=by rw [q3r,if_pos h,hcode]
  rw [hcode] at h
  rw [hse] at cr
  generalize qby g p d=q at *
  obtain ⟨i,e⟩:=q
  simp only at cr cn h
  refine Zqy ?_
  refine Z3g ?_
  refine Zs0 ?_
  refine Zhn ?_
  refine Zrs ?_
  refine Zqy ?_
  refine Zqp ?_
  refine Zhl ?_
  refine Zh0 ?_
  refine Zh6 ?_
  refine Zb1 ?_
  refine Z1 ?_
  refine qn 50 (.bool true) ?_ ?_
  ·refine Z8 ?_
   refine Zmu ?_
   refine qb rfl rfl (fun hg2=>?_) (fun hg2=>?_)
   ·refine Z2u ?_
    refine Zm ?_
    exact Z10
   ·refine Zj ?_
    refine Zla ?_
    refine Zr ?_
    exact Zs1
  refine Z1 ?_
  refine qa rfl (fun hc=>?_) (fun hc=>?_)
  ·refine Z1 ?_
   refine qn 8 (.bool true) ?_ ?_
   ·refine Z2d ?_
    refine Z4q ?_
    refine qb rfl rfl (fun hg3=>?_) (fun hg3=>?_)
    ·refine Z4z ?_
     refine q1c rfl rfl (by decide) (V1.up (q3g (cs:=[_,.int _ _,.int _ _,_,_,_,_,.int _ _,_,_,.int _ _,.int _ _,.int _ _]) rfl)) ?_
     refine q5r rfl rfl (by decide) (V2.call (qef qgf qgf sw0 _) rfl) ?_
     refine Zn ?_
     exact Z10
    ·refine Z20 ?_
     exact Zs1
   exact Z21
  ·cases hc
 obtain ⟨os,k,hk,e1,tr,q50,hlog,hread,hself⟩:=qmf h c
 obtain ⟨gl1,gl2⟩:=qqp (b:=c) k
 rw [← hlog] at gl1 gl2
 have he:q3r g p d c=((q3r g p d c).1,0):=by rw [q8z h]
 have hsg:=tr.sg (SG.new h (by omega))
 have hcode2:(qby g p d).2=0:=by rw [← hcode];exact h
 have hgl:(c.take (q2j c).2).length=(q2j c).2:=by
  obtain ⟨_,h1,h2,_⟩:=q7h c
  have h3:=congrArg List.length h2
  rw [List.length_append,← h1] at h3
  rw [List.length_take];omega
 rw [he] at cr
 generalize (q3r g p d c).1=t at *
 clear he hcode e1 tr hlog
 generalize hq:qby g p d=q at *
 obtain ⟨i,e⟩:=q
 simp only at cn hcode2
 subst hcode2
 clear hq
 have hsw:=hsg.sw
 have hlg:=hsg.log
 refine Zqy ?_
 refine Z3g ?_
 refine Zs0 ?_
 refine Zhn ?_
 refine Zrs ?_
 refine Zqy ?_
 refine Zqp ?_
 refine Zhl ?_
 refine Zh0 ?_
 refine Zh6 ?_
 refine Zb1 ?_
 refine Z1 ?_
 refine qn 50 (.bool false) ?_ ?_
 ·refine Z8 ?_
  refine Zmu ?_
  refine qb rfl rfl (fun hg2=>?_) (fun hg2=>?_)
  ·refine Z2u ?_
   refine Zm ?_
   exact qe (Out.mk (by (refine congrArg AV.bool ?_;(clear hB cr cn;(simp_all;done)))) Yb)
  ·refine Zj ?_
   refine Zla ?_
   refine Zr ?_
   exact Z10
 refine Z1 ?_
 refine qa rfl (fun hc=>?_) (fun hc=>?_)
 ·cases hc
 clear hc
 refine Z3h ?_
 refine ao2 Y1o (V2.call (qzv c (by omega) _) rfl) ?_
 refine Z3q ?_
 have cs:=fun H=>q9d g p d t.log (by omega) (by omega) H
 rw [hself] at cs
 have cl1:=fun H=>q90 t.log (by omega) H
 rw [hread] at cl1
 have cl2:=fun H=>q90 c (by omega) H
 have hk2:((q2j c).1.take k).length=k:=by rw [List.length_take];omega
 have hrl:(q2j c).1.length≤1000000:=by
  obtain ⟨_,h1,h2,_⟩:=q7h c
  have h3:=congrArg List.length h2
  rw [List.length_append,← h1] at h3
  have:=qf7 (q2j c).1
  omega
 generalize c.take (q2j c).2=gd at *
 generalize q2j c=m at *
 obtain ⟨ml,mn⟩:=m
 simp only at cl1 cl2 hk2 hk hrl gl1 hgl
 refine Z1 ?_
 refine q1n 84 (.bool false) ?_ ?_
 ·refine Z83 ?_
  refine Z9k ?_
  refine Zih ?_
  refine Zj7 ?_
  refine Zj0 ?_
  refine aqp 4 rfl Y1v (by decide) (fun G=>qdg rfl) ?_
  refine aq0 5 rfl Y1v (by decide) (fun _=>qxh rfl rfl) ?_
  refine Zq6 ?_
  refine q13 (g:=67) rfl (fun hg6=>?_) (fun hg6=>?_)
  ·refine q17 (g:=67) 7 rfl Y1v (by decide) rfl rfl rfl ?_
   refine q17 (g:=67) 8 rfl Y1v (by decide) rfl rfl rfl ?_
   refine q17 (g:=67) 9 rfl Y1v (by decide) rfl rfl rfl ?_
   refine q17 (g:=67) 10 rfl Y1v (by decide) rfl rfl rfl ?_
   refine q17 (g:=67) 11 rfl Y1v (by decide) rfl rfl rfl ?_
   refine q17 (g:=67) 12 rfl Y1v (by decide) rfl rfl rfl ?_
   refine q17 (g:=67) 13 rfl Y1v (by decide) rfl rfl rfl ?_
   refine q17 (g:=67) 14 rfl Y1v (by decide) rfl rfl rfl ?_
   refine q17 (g:=67) 15 rfl Y1v (by decide) rfl rfl rfl ?_
   refine q17 (g:=67) 16 rfl Y1v (by decide) rfl rfl rfl ?_
   refine Zcl ?_
   refine Zcm ?_
   refine Zs2 ?_
   refine Zs3 ?_
   refine Zs4 ?_
   refine Zs5 ?_
   refine Zs6 ?_
   exact q1y Y1v Y1f (Out.mk (by (refine congrArg AV.bool ?_;(clear hB cr cn cs cl1 cl2 hsg hsw;(exfalso;simp at *;omega)))) Yb)
  ·refine q2s (g:=67) 7 rfl Y1v (by decide) rfl rfl (fun _=>qk (v:=.pl _) rfl) ?_
   refine q2x (g:=67) 8 rfl Y1v (by decide) rfl rfl (fun G=>qc rfl (lk rfl rfl) rfl (by decide)) ?_
   refine q2x (g:=67) 9 rfl Y1v (by decide) rfl rfl (fun G=>qh (v:=.pl _) rfl (lk rfl rfl) rfl rfl rfl) ?_
   refine q2x (g:=67) 10 rfl Y1v (by decide) rfl rfl (fun G=>qdg rfl) ?_
   refine q2s (g:=67) 11 rfl Y1v (by decide) rfl rfl (fun _=>q6r (ys:=t.log.map q15) rfl (Bd.some rfl rfl) (by rw [List.length_map,List.length_map];omega) (q11 _) (by rw [List.length_map,← List.map_take,gl2])) ?_
   refine q2s (g:=67) 12 rfl Y1v (by decide) rfl rfl (fun _=>q4q (bs:=t.log) rfl) ?_
   refine q2x (g:=67) 13 rfl Y1v (by decide) rfl rfl (fun G=>qc rfl (lk rfl rfl) rfl (by decide)) ?_
   refine q2x (g:=67) 14 rfl Y1v (by decide) rfl rfl (fun G=>qh (v:=.pl _) rfl (lk rfl rfl) rfl rfl rfl) ?_
   refine q2s (g:=67) 15 rfl Y1v (by decide) rfl rfl (fun _=>q4q (bs:=t.log) rfl) ?_
   refine q2s (g:=67) 16 rfl Y1v (by decide) rfl rfl (fun _=>q10f (p:=t.log) (q:=t.log) rfl rfl) ?_
   refine Zcy ?_
   refine Zcm ?_
   refine q13 (g:=79) rfl (fun hg18=>?_) (fun hg18=>?_)
   ·refine Zs2 ?_
    refine Zs3 ?_
    refine Zs4 ?_
    refine Zs5 ?_
    refine Zs6 ?_
    exact Zs7
   ·refine q2x (g:=79) 19 rfl Y1v (by decide) rfl rfl (fun G=>qc rfl (lk rfl rfl) rfl (by decide)) ?_
    refine q2x (g:=79) 20 rfl Y1v (by decide) rfl rfl (fun G=>q6g (cs:=[_,_,_,_,_,_,_,_,_]) rfl (lk rfl rfl) rfl rfl rfl rfl) ?_
    refine qct (g:=79) 21 rfl Y1v (by decide) rfl rfl (fun _=>V2.call (qgn t.inst _ hsw.iw) rfl) ?_
    refine q2s (g:=79) 22 rfl Y1v (by decide) rfl rfl (fun _=>qa2 rfl) ?_
    refine aq0 23 rfl Y1v (by decide) (fun _=>q1r (v:=.bool _) rfl rfl) ?_
    exact Zs7
 refine Z1 ?_
 refine qa rfl (fun hc=>?_) (fun hc=>?_)
 ·cases hc
 clear hc
 refine Zqy ?_
 refine Z3v ?_
 refine Zr2 ?_
 refine Zhn ?_
 refine Zru ?_
 refine Z3w ?_
 refine Zs8 ?_
 refine Zib ?_
 refine Z3h ?_
 refine Zs9 ?_
 refine Zia ?_
 try dsimp only [put]
 refine Z1 ?_
 refine qn 8 (.bool true) ?_ ?_
 ·refine Z57 ?_
  refine qb rfl rfl (fun hg2=>?_) (fun hg2=>?_)
  ·refine Z4z ?_
   refine Z4z ?_
   refine q5r rfl rfl (by decide) (V2.call (qef t t hsw _) rfl) ?_
   refine Z2q ?_
   refine qb rfl rfl (fun hg7=>?_) (fun hg7=>?_)
   ·refine Z99 ?_
    refine Z99 ?_
    refine Z9b ?_
    refine q1c rfl rfl (by decide) (q6r (ys:=(ml.take k).map eB) rfl (Bd.some rfl rfl) (by rw [List.length_map,List.length_map];omega) (q10j _) (by rw [List.length_map,hk2,List.map_take])) ?_
    refine q5r rfl rfl (by decide) (V2.call (qr5 (ml.take k) (ml.take k) (by omega) _) rfl) ?_
    refine Zn ?_
    exact qe (Out.mk (by (refine congrArg AV.bool ?_;(clear hB cr cn cs cl1 cl2 hsg hsw;(simp;done)))) Yb)
   ·refine Zc1 ?_
    exact Zsa
  ·refine Z2s ?_
   refine Zc1 ?_
   exact Zsa
 exact Z21
end Go.Av
namespace Go.Av
open Go.RowKit
theorem qnd {P:Program} {w:World} {K:Know} {f:FuncId} {avs:List AV} {us:List Value} {bb:Bool} (h:ACT P K f avs [] (Ret (.bool bb) [])) (hk:Kn K [] w) (hv:All2 (VR (own []) w []) avs us):Calls P f us.toArray w fun e w'=>e = .returned (.bool bb)∧Below w.heap.size w w':=by
 refine (h [] w us.toArray hk ⟨rfl,fun _ _ _ h=>by simp at h,fun _ _ _ _ _ h=>by simp at h⟩ hv.vrs).mono fun e w'=>?_
 rintro ⟨o,H',S',⟨rfl,rfl⟩,ho,hh,hx⟩
 cases ho with
 | ret hb =>
  cases hb
  exact ⟨rfl,hx.os,hx.tape,hx.output,hx.stp.size,fun k hk=>(hx.stp.old k hk (by rintro ⟨i,s,hs,_⟩;simp at hs)).2⟩
theorem qwb {P:Program} {W:World} {name:String} {k:IntKind} {zs:List Int} {g:Nat} {K:Know} (hg:P.globalNamed name=some g) (hz:zs≠[]) (hK:K=⟨g,zs.map fun z=>Value.int k z⟩) (h:Lib.TabIs P W name k zs):Kn K [] W:=by
 subst hK
 have hc:∀ j v,(zs.map fun z=>Value.int k z)[j]?=some v→W.cell? ⟨g,j,none⟩=some v:=by
  intro j v hj
  have:=World.var?_cell hg h j
  rw [this]
  simpa using hj
 have hx:∃ ty fz,W.heap[g]?=some (Obj.cells (zs.map fun z=>Value.int k z).toArray ty fz):=by
  unfold Lib.TabIs World.var? at h
  rw [hg] at h
  simp only [Option.bind_some] at h
  split at h
  ·rename_i cs ty fz e
   obtain rfl:=Option.some.inj h
   exact ⟨ty,fz,e⟩
  ·cases h
 refine ⟨by rintro ⟨i,s,hs,_⟩;simp at hs,?_,hc,hx⟩
 clear hx
 cases zs with
 | nil=>exact absurd rfl hz
 | cons z zs =>
  have h0:=hc 0 _ rfl
  show g<W.heap.size
  rcases Nat.lt_or_ge g W.heap.size with h1 | h1
  ·exact h1
  ·exfalso
   simp [World.cell?,Array.getElem?_eq_none h1] at h0
end Go.Av
namespace Go.Av
open Go.Proofs Go.Proofs.YtpidemmdmmgalaaGreatDoor
open Go.RowKit
theorem qf9 {α:Type} {e:α→List AV} {p:α→Prop}:∀ {rows:List (List AV)},(∀ r∈rows,∃ x:α,r=e x∧p x)→∃ l:List α,rows=l.map e∧∀ x∈l,p x
 | [],_=>⟨[],rfl,(fun _ h=>nomatch h)⟩
 | r :: rows,h=>by
  obtain ⟨x,rfl,hx⟩:=h r List.mem_cons_self
  obtain ⟨l,rfl,hl⟩:=qf9 fun r hr=>h r (List.mem_cons_of_mem _ hr)
  refine ⟨x :: l,rfl,fun y hy=>?_⟩
  rcases List.mem_cons.1 hy with rfl | hy
  ·exact hx
  ·exact hl y hy
theorem qtg {r:List AV} (h:qs3 Tryz.prog 5 [3,3,9] r):∃ x:Thing,r=qq x∧x.tag.size≤9223372036854775807:=by
 obtain ⟨a0,r,rfl,h0,h⟩:=q2w h
 obtain ⟨a1,r,rfl,h1,h⟩:=q2w h
 obtain ⟨a2,r,rfl,h2,h⟩:=q2w h
 obtain rfl:=qi3 h
 obtain ⟨i0,rfl,_⟩:=q2l (UdI.ud (P:=Tryz.prog) (t:=3)) h0
 obtain ⟨i1,rfl,_⟩:=q2l (UdI.ud (P:=Tryz.prog) (t:=3)) h1
 obtain ⟨i2,rfl,hs⟩:=qos (UdI.ud (P:=Tryz.prog) (t:=9)) h2
 exact ⟨⟨i0,i1,i2⟩,rfl,hs⟩
theorem qcr {a:AV} (h:q47 Tryz.prog 6 40 a):∃ l:List Thing,a = .pl (l.map qq)∧∀ x∈l,x.tag.size≤9223372036854775807:=by
 have hts:q57 Tryz.prog (5+1) 74=some [3,3,9]:=by kernel_rfl
 obtain ⟨rows,rfl,_,h3⟩:=qi6 (SlI.ud (P:=Tryz.prog) (t:=40)) hts h
 obtain ⟨l,rfl,hl⟩:=qf9 (e:=qq) (rows:=rows) fun r hr=>qtg (h3 r hr)
 exact ⟨l,rfl,hl⟩
theorem qkv (n:Nat) (hts:q57 Tryz.prog (n+1+1) 3=some [3]) {a:AV} (h:q47 Tryz.prog (n+1+1) 24 a):∃ l:List Int,a = .pl (l.map eI):=by
 obtain ⟨rows,rfl,_,h3⟩:=qi6 (SlI.ud (P:=Tryz.prog) (t:=24)) hts h
 obtain ⟨l,rfl⟩:=qig (e:=eI) (rows:=rows) fun r hr=>by
  have h:=h3 r hr
  obtain ⟨a1,r,rfl,h1,h⟩:=q2w h
  obtain rfl:=qi3 h
  obtain ⟨i1,rfl,_⟩:=q2l (UdI.ud (P:=Tryz.prog) (t:=3)) h1
  exact ⟨i1,rfl⟩
 exact ⟨l,rfl⟩
theorem q128 (n:Nat) (hts:q57 Tryz.prog (n+1+1) 3=some [3]) {r:List AV} (h:qs3 Tryz.prog (n+1+1) [3,3,3,3,9,4,2,3,24,3,3,2,24] r):∃ x:OOp,r=eOp x∧x.spec.tag.size≤9223372036854775807:=by
 obtain ⟨a0,r,rfl,h0,h⟩:=q2w h
 obtain ⟨a1,r,rfl,h1,h⟩:=q2w h
 obtain ⟨a2,r,rfl,h2,h⟩:=q2w h
 obtain ⟨a3,r,rfl,h3,h⟩:=q2w h
 obtain ⟨a4,r,rfl,h4,h⟩:=q2w h
 obtain ⟨a5,r,rfl,h5,h⟩:=q2w h
 obtain ⟨a6,r,rfl,h6,h⟩:=q2w h
 obtain ⟨a7,r,rfl,h7,h⟩:=q2w h
 obtain ⟨a8,r,rfl,h8,h⟩:=q2w h
 obtain ⟨a9,r,rfl,h9,h⟩:=q2w h
 obtain ⟨a10,r,rfl,h10,h⟩:=q2w h
 obtain ⟨a11,r,rfl,h11,h⟩:=q2w h
 obtain ⟨a12,r,rfl,h12,h⟩:=q2w h
 obtain rfl:=qi3 h
 obtain ⟨i0,rfl,_⟩:=q2l (UdI.ud (P:=Tryz.prog) (t:=3)) h0
 obtain ⟨i1,rfl,_⟩:=q2l (UdI.ud (P:=Tryz.prog) (t:=3)) h1
 obtain ⟨i2,rfl,_⟩:=q2l (UdI.ud (P:=Tryz.prog) (t:=3)) h2
 obtain ⟨i3,rfl,_⟩:=q2l (UdI.ud (P:=Tryz.prog) (t:=3)) h3
 obtain ⟨i4,rfl,hs⟩:=qos (UdI.ud (P:=Tryz.prog) (t:=9)) h4
 obtain ⟨i5,rfl⟩:=qtz (UdI.ud (P:=Tryz.prog) (t:=4)) h5
 obtain ⟨i6,rfl,_⟩:=q2l (UdI.ud (P:=Tryz.prog) (t:=2)) h6
 obtain ⟨i7,rfl,_⟩:=q2l (UdI.ud (P:=Tryz.prog) (t:=3)) h7
 obtain ⟨i8,rfl⟩:=qkv n hts h8
 obtain ⟨i9,rfl,_⟩:=q2l (UdI.ud (P:=Tryz.prog) (t:=3)) h9
 obtain ⟨i10,rfl,_⟩:=q2l (UdI.ud (P:=Tryz.prog) (t:=3)) h10
 obtain ⟨i11,rfl,_⟩:=q2l (UdI.ud (P:=Tryz.prog) (t:=2)) h11
 obtain ⟨i12,rfl⟩:=qkv n hts h12
 exact ⟨⟨i0,⟨i1,i2,i3,i4,i5,i6,i7⟩,i8,i9,i10,i11,i12⟩,rfl,hs⟩
theorem qui {a:AV} (h:q47 Tryz.prog 6 41 a):∃ l:List OOp,a = .pl (l.map eOp)∧∀ x∈l,x.spec.tag.size≤9223372036854775807:=by
 have hts:q57 Tryz.prog (5+1) 26=some [3,3,3,3,9,4,2,3,24,3,3,2,24]:=by kernel_rfl
 obtain ⟨rows,rfl,_,h3⟩:=qi6 (SlI.ud (P:=Tryz.prog) (t:=41)) hts h
 obtain ⟨l,rfl,hl⟩:=qf9 (e:=eOp) (rows:=rows) fun r hr=>q128 3 Y24 (h3 r hr)
 exact ⟨l,rfl,hl⟩
theorem qkm {a:AV} (h:q47 Tryz.prog 4 27 a):∃ b:List UInt8,a = .pl (b.map q15):=qr8 (SlI.ud (P:=Tryz.prog) (t:=27)) (UdI.ud (P:=Tryz.prog) (t:=5)) h
abbrev qeu : List (String × DataW Unit) := [("math/bits.deBruijn64tab", Rows.laid_math_bits_deBruijn64tab)]
theorem qn8 {W:World} (h:laidMetH Tryz.prog qeu W):Kn KD [] W:=by
 rw [MakeChecks.laidMetH_plain _ _ _ Y24] at h
 have hg : Tryz.prog.globalNamed "math/bits.deBruijn64tab" = some 1 := by kernel_rfl
 have h2 : Lib.TabIs Tryz.prog W "math/bits.deBruijn64tab" .u8 (Lib.deBruijn64tab.map fun n : Nat => (n : Int)) :=
  Lib.tabIs_of_head (rest:=[]) (t:=290) (e:=5) (n:=64) hg Y24 Y24 Y24 Y24 Y24 h
 exact qwb hg (by decide) (by unfold KD;rw [List.map_map];rfl) h2
theorem qjf (os:Os) (args:Array Value):laidMetH Tryz.prog qeu ((World.doorLaid Tryz.prog 400 os).forCall (fun _ _=>0) ⟨#[],args,[]⟩).memory :=
 laidMetH_of_parts3 (fuel:=8) (laidMet_of_run' 8 Y24 Y24) Y24 Y24
end Go.Av
namespace Go.Av
section
variable {P : Program} {N : Nat} {B : Base} {Q : q6j} {env : Env} {ops : Array Oper} {H0 L : qf}
theorem qh7 {l:List Oper} {n k g off len cap:Nat} {o:AObj} {ys:List (List AV)} (t:Nat) (ht:get env t = .sl (Lid n k) g off len cap) (hn:H0.length=n) (hk:L[k]?=some o) (hg:o.gen=g) (hys:(o.rows.drop off).take len=ys) (hlen:ys.length=len) (hp:∀ r∈ys,AV.bels 0 r=true)
  (h:q5t P N B ops l Q ((t,.pl ys) :: env) (H0++L.set k ⟨g+1,o.sz,[]⟩)):q5t P N B ops l Q env (H0++L):=fun _ a w hc hb=>by
 subst hg
 obtain ⟨S',hc',hb'⟩:=hc.freeze hb ht (lk hn hk) hys hlen hp
 rw [st hn] at hc'
 exact h S' a w hc' hb'
end
end Go.Av
namespace Go.Av
open Go.Proofs
structure GLg where
 k:Nat
 os:List OOp
 s:Seat
theorem Tr.step {s t:Seat} {os:List OOp} (h:Tr s os t) (o:OOp):∃ os',Tr s os' (sdo t o).1∧((sdo t o).2.2≠0→os'=os)∧((sdo t o).2.2=0→os'=os++[o]):=by
 by_cases e:(sdo t o).2.2=0
 ·exact ⟨os++[o],h.snoc e,fun k=>absurd e k,fun _=>rfl⟩
 ·exact ⟨os,by rw [qt5 e];exact h,fun _=>rfl,fun k=>absurd k e⟩
theorem q13o {n:Nat} (b:Seat):∀ o∈([⟨0,13,[q35 b]⟩]:qf),∀ r∈o.rows,AV.bels n r=true:=by
 intro o ho r hr
 simp only [List.mem_singleton] at ho
 subst ho
 simp only [List.mem_singleton] at hr
 subst hr
 rfl
set_option maxHeartbeats 0 in
theorem qg5 (g:List Thing) (p d:Int) (l:List OOp) (H:qf):ACT Tryz.prog KD 6 [.pl (g.map qq),.int .u8 p,.int .u8 d,.pl (l.map eOp)] H (Ret (.bool true) H):=by
 refine ACT.body (N:=139) [.tmp 8] Tryz.func6 rfl rfl rfl (Nat.le_of_ble_eq_true rfl) fun B hB=>?_
 refine Zlb ?_
 refine Zrz ?_
 refine Zl7 ?_
 refine qa rfl (fun hc=>?_) (fun hc=>?_)
 ·simp at hc
 clear hc
 refine Z1 ?_
 refine qn 31 (.bool (decide (40<g.length)||decide (12<l.length))) ?_ ?_
 ·refine Z6c ?_
  refine Z2b ?_
  refine Zh ?_
  refine qb rfl rfl (fun hg3=>?_) (fun hg3=>?_)
  ·refine Z5l ?_
   exact Zj3
  ·refine Z9b ?_
   refine Z2y ?_
   refine Zr ?_
   exact Zmv
 refine Z1 ?_
 refine qa rfl (fun hc=>?_) (fun hc=>?_)
 ·exact Z4g
 rw [Bool.or_eq_false_iff,decide_eq_false_iff_not,decide_eq_false_iff_not] at hc
 obtain ⟨hg,hl12⟩:=hc
 have cn:=fun p d H=>qdz g p d (by omega) H
 refine Zau ?_
 refine Zsb ?_
 refine Zsc ?_
 refine Zsd ?_
 refine Z8 ?_
 refine Zsb ?_
 refine Zsc ?_
 refine ao2 Y1o (V2.call (cn _ _ _) rfl) ?_
 refine Zhn ?_
 refine Zrs ?_
 have hsg:=fun h=>SG.new (g:=g) (p:=IntKind.i64.wrap (IntKind.i64.wrap (p.tmod 3)+1)) (d:=IntKind.i64.wrap (d.tmod 9)) h (by omega)
 have hrd:=fun os t h=>Tr.read (g:=g) (p:=IntKind.i64.wrap (IntKind.i64.wrap (p.tmod 3)+1)) (d:=IntKind.i64.wrap (d.tmod 9)) (os:=os) (t:=t) h
 have hsl:=fun h=>(q91 (g:=g) (p:=IntKind.i64.wrap (IntKind.i64.wrap (p.tmod 3)+1)) (d:=IntKind.i64.wrap (d.tmod 9)) h).1
 clear cn
 generalize IntKind.i64.wrap (IntKind.i64.wrap (p.tmod 3)+1)=pp at *
 generalize IntKind.i64.wrap (d.tmod 9)=dd at *
 generalize q6x g pp dd=q at *
 obtain ⟨s0,e⟩:=q
 simp only at hsg hrd hsl
 refine Z5 ?_
 try dsimp only
 refine Z1d ?_
 refine qm (G:=GLg) (fun q=>q.k≤l.length∧(e=0→SG q.s∧Tr s0 q.os q.s∧q.os.length≤q.k)) (fun q=>[(KT,KD.av),(3,.pl (l.map eOp)),(9,.pt (Lid H.length 0) 0 0 0),(10,.int .i64 e),(11,.int .i64 (q.k:Int))]) (fun q=>H++[⟨0,13,[q35 q.s]⟩]) (fun q=>l.length-q.k) ⟨0,[],s0⟩ ⟨Nat.zero_le _,fun h=>⟨hsg h,.nil _,Nat.le_refl _⟩⟩ Y8 (.inl rfl) ?_
 rintro ⟨k,os,s⟩ ⟨hk,hin⟩
 simp only at hk hin ⊢
 refine Z1 ?_
 refine qn 51 (.bool (decide (k<l.length)&&decide (e=0))) ?_ ?_
 ·refine Z8 ?_
  refine Z6c ?_
  refine Zv ?_
  refine qb rfl rfl (fun hg4=>?_) (fun hg4=>?_)
  ·refine Z58 ?_
   refine Zm ?_
   exact Zmv
  ·refine Zs ?_
   exact Zj3
 refine Z1 ?_
 refine qa rfl (fun hc=>?_) (fun hc=>?_)
 ·rw [Bool.and_eq_true,decide_eq_true_eq,decide_eq_true_eq] at hc
  obtain ⟨hlt,he⟩:=hc
  obtain ⟨hs,htr,hol⟩:=hin he
  clear hin
  obtain ⟨o,ho,hom⟩:=qo hlt
  have hr:=ql eOp ho
  refine Zau ?_
  refine Z9d ?_
  refine Zse ?_
  refine Z19 ?_
  refine Z8q ?_
  refine Z1 ?_
  refine qa rfl (fun hc=>?_) (fun hc=>?_)
  ·exact Z4g
  have hsh:o.needs.length≤20∧o.set.length≤60:=by simpa using hc
  clear hc
  have hj:=hs.gs.jlen
  have cd:=fun H=>qes s o hs.sw hs.ri (by omega) (by omega) (by omega) H
  have hgr:=htr.grow
  have hs0:=hsl he
  have hs0l:s0.log.length=0:=by rw [hs0];rfl
  have hlg:s.log.length≤20000:=by omega
  obtain ⟨os',tr',h1,h2⟩:=htr.step o
  have hn:=hs.do o (by omega) (by omega)
  have rd1:=hrd os s he htr
  have rd2:=hrd os' _ he tr'
  have hin2:=qzu s o (by omega)
  have hng:=tr'.grow
  have cd2:=fun H=>qes ⟨[],0,0,[],s.inst⟩ o ⟨by simp,by simp,hs.ri.iw,hs.ri.jw⟩ hs.ri (by show s.inst.jobs.length<_;omega) (by omega) (by omega) H
  generalize sdo s o=x at *
  obtain ⟨n,id,f⟩:=x
  generalize sdo ⟨[],0,0,[],s.inst⟩ o=y at *
  obtain ⟨ot,m,hh⟩:=y
  simp only [Prod.mk.injEq] at hin2
  obtain ⟨⟨rfl,rfl⟩,hoi⟩:=hin2
  simp only at cd cd2 tr' h1 h2 hn rd2 hoi hng
  have hol':os'.length≤os.length+1:=by
   by_cases hf:hh=0
   ·rw [h2 hf,List.length_append];simp
   ·rw [h1 hf];omega
  have hgs0:=hs.graph
  refine Z1 ?_
  refine Z9j ?_
  refine Zc5 ?_
  refine Zj6 ?_
  refine Z94 ?_
  refine Zsf ?_
  refine Zsg ?_
  refine Zsh ?_
  refine Zsi ?_
  refine Zsj ?_
  refine Zsk ?_
  refine Zsl ?_
  refine Zsm ?_
  refine Zsn ?_
  refine Zj2 ?_
  refine Zso ?_
  refine Z1l ?_
  refine Zsp ?_
  have cl1:=fun H=>q90 s.log (by omega) H
  rw [rd1] at cl1
  have cl2:=fun H=>q90 n.log (by omega) H
  rw [rd2] at cl2
  refine Z3w ?_
  refine Zs8 ?_
  refine Zib ?_
  refine Z3w ?_
  refine Zs9 ?_
  refine Zib ?_
  refine Z1 ?_
  refine Z83 ?_
  refine Z9k ?_
  refine Zra ?_
  refine aq0 2 rfl Y1v (by decide) (fun _=>V1.up (q3g (cs:=[_,.int _ _,.int _ _,_,_,_,_,.int _ _,_,_,.int _ _,.int _ _,.int _ _]) rfl)) ?_
  refine Zj0 ?_
  refine Z1k ?_
  refine aqp 5 rfl Y1v (by decide) (fun G=>qz rfl rfl hr rfl) ?_
  refine aqp 6 rfl Y1v (by decide) (fun G=>q5c rfl hr rfl) ?_
  refine q8b 7 rfl Y1v (by decide) (fun _=>V2.callT (cd2 _) rfl rfl) ?_
  refine Znc ?_
  refine aq0 9 rfl Y1v (by decide) (fun _=>q1o (v:=.agg _) rfl rfl) ?_
  refine Znd ?_
  refine aq0 11 rfl Y1v (by decide) (fun _=>q1o (v:=.int _ _) rfl rfl) ?_
  refine aqs 12 rfl Y1v Y1f Y1o (q38 (sz:=13) rfl (by decide) rfl) ?_
  refine aqs 13 rfl Y1v Y1f Y21 (q2c (sz:=13) rfl rfl rfl rfl rfl rfl rfl rfl (Nat.le_of_ble_eq_true rfl)) ?_
  refine aq0 14 rfl Y1v (by decide) (fun _=>qx (v:=.int _ _) rfl) ?_
  refine aq0 15 rfl Y1v (by decide) (fun _=>qx (v:=.int _ _) rfl) ?_
  refine Z1l ?_
  try dsimp only [List.cons_append,List.nil_append,AV.up,Nat.reduceAdd,List.length_cons,List.length_nil,put,List.set_cons_zero,List.set_cons_succ]
  obtain ⟨og,op,od,ol,oi⟩:=ot
  simp only at hoi
  subst hoi
  have hni:=hn.ri
  refine Z1 ?_
  refine qn 116 (.bool false) ?_ ?_
  ·refine Z2d ?_
   refine Zmu ?_
   refine qb rfl rfl (fun hg3=>?_) (fun hg3=>?_)
   ·refine Z2w ?_
    refine Z48 ?_
    refine Z5k ?_
    refine Z97 ?_
    exact Zsq
   ·refine Z2e ?_
    refine Zla ?_
    refine Z2z ?_
    refine qb rfl rfl (fun hg8=>?_) (fun hg8=>?_)
    ·refine Z48 ?_
     refine Z5k ?_
     refine Z97 ?_
     exact Zsq
    ·refine Z2n ?_
     refine Zrx ?_
     refine Z2n ?_
     refine Zrx ?_
     refine q5r rfl rfl (by decide) (V2.call (qgq n.inst n.inst _ hni) rfl) ?_
     refine Z5p ?_
     refine qb rfl rfl (fun hg16=>?_) (fun hg16=>?_)
     ·refine Z97 ?_
      exact Zsq
     ·refine Zj ?_
      refine Z6z ?_
      refine Z9a ?_
      refine Zla ?_
      refine Zr ?_
      exact qe (Out.mk (by (refine congrArg AV.bool ?_;(clear hB cd cd2 cl1 cl2 rd1 rd2 hsg hrd hsl hn hs hni;(simp;done)))) Yb)
  refine Z1 ?_
  refine qa rfl (fun hc=>?_) (fun hc=>?_)
  ·cases hc
  clear hc
  have hlen:((os'.map q2o).map eB).length=os'.length:=by rw [List.length_map,List.length_map]
  have hlen0:((os.map q2o).map eB).length=os.length:=by rw [List.length_map,List.length_map]
  have hcs:(hh≠0∧os'.length=os.length)∨(hh=0∧os'.length=os.length+1):=by
   by_cases hf:hh=0
   ·exact .inr ⟨hf,by rw [h2 hf,List.length_append];rfl⟩
   ·exact .inl ⟨hf,by rw [h1 hf]⟩
  refine Z1 ?_
  refine qn 137 (.bool false) ?_ ?_
  ·refine Z8 ?_
   refine Zmu ?_
   refine qb rfl rfl (fun hg2=>?_) (fun hg2=>?_)
   ·refine Z9b ?_
    refine Z9b ?_
    refine Zla ?_
    refine Z2q ?_
    refine qb rfl rfl (fun hg9=>?_) (fun hg9=>?_)
    ·refine Z2v ?_
     refine Zb8 ?_
     refine Zb7 ?_
     refine Z2t ?_
     refine Zm ?_
     exact Zsr
    ·refine Z58 ?_
     refine Z32 ?_
     refine qb rfl rfl (fun hg12=>?_) (fun hg12=>?_)
     ·refine Z9b ?_
      refine Z9b ?_
      refine Zss ?_
      refine Zla ?_
      refine Zbb ?_
      refine Zr ?_
      exact Zsr
     ·refine Zdo ?_
      refine Zbd ?_
      refine Zr ?_
      exact Z10
   ·refine Z72 ?_
    refine Z58 ?_
    refine Z32 ?_
    refine qb rfl rfl (fun hg12=>?_) (fun hg12=>?_)
    ·refine Z9b ?_
     refine Z9b ?_
     refine Zss ?_
     refine Zla ?_
     refine Zbb ?_
     refine Zr ?_
     exact Zsr
    ·refine Zdo ?_
     refine Zbd ?_
     refine Zr ?_
     exact Z10
  refine Z1 ?_
  refine qa rfl (fun hc=>?_) (fun hc=>?_)
  ·cases hc
  clear hc
  refine Zh7 ?_
  refine Zax ?_
  refine Z11 ?_
  refine Zok ?_
  refine Za ?_
  exact ⟨⟨k+1,os',n⟩,by simp only;omega,⟨by simp only;omega,fun _=>⟨hn,tr',by simp only;omega⟩⟩,Y8,Fit.loc hB (G:=[⟨0,13,[q35 n]⟩,⟨0,13,[q35 ⟨og,op,od,ol,n.inst⟩]⟩]) rfl Y1 (q13o _)⟩
 ·refine Z1q ?_
  refine Z8p ?_
  exact Z21
theorem qu0 (l:List Seat):∀ r∈l.map q35,r.length=13:=q52 (e:=q35) (n:=13) (fun _=>rfl) l
theorem qtt (n:Nat) (l:List Seat):∀ r∈l.map q35,AV.bels n r=true:=q5a (e:=q35) (fun _=>rfl) l
theorem qvy {n:Nat} (s:Seat) (k:Nat) (l:List Seat):∀ o∈([⟨0,13,[q35 s]⟩,⟨k,13,l.map q35⟩]:qf),∀ r∈o.rows,AV.bels n r=true:=by
 intro o ho r hr
 simp only [List.mem_cons,List.not_mem_nil,or_false] at ho
 rcases ho with rfl | rfl
 ·simp only [List.mem_singleton] at hr;subst hr;rfl
 ·exact qtt _ _ r hr
theorem qhb {s:Seat}:∀ {os:List OOp} {i:Nat} {u:Seat} {o:OOp},(q89 s os)[i]?=some u→os[i]?=some o→(q89 s os)[i+1]?=some (sdo u o).1
 | [],i,u,o,_,h=>by cases h
 | p :: os,0,u,o,hu,ho=>by
  obtain rfl:=Option.some.inj hu
  obtain rfl:=Option.some.inj ho
  show (q89 (sdo s p).1 os)[0]?=_
  cases os<;>rfl
 | p :: os,i+1,u,o,hu,ho=>qhb (s:=(sdo s p).1) (os:=os) (i:=i) hu ho
theorem qsp (a b:Nat):((a:Int)).tmod (b:Int)=((a % b:Nat):Int):=by
 rw [Int.tmod_eq_emod_of_nonneg (by omega)];exact (Int.natCast_emod a b).symm
structure GRc where
 k:Nat
 os:List OOp
 s:Seat
set_option maxHeartbeats 0 in
theorem qaq (g:List Thing) (p d:Int) (l:List OOp) (cut:Nat) (hcut:cut<65536) (more:List UInt8) (H:qf):ACT Tryz.prog KD 5 [.pl (g.map qq),.int .u8 p,.int .u8 d,.pl (l.map eOp),.int .u16 (cut:Int),.pl (more.map q15)] H (Ret (.bool true) H):=by
 refine ACT.body (N:=194) [.tmp 12] Tryz.func5 rfl rfl rfl (Nat.le_of_ble_eq_true rfl) fun B hB=>?_
 refine Zlb ?_
 refine Zrz ?_
 refine Zl7 ?_
 refine qa rfl (fun hc=>?_) (fun hc=>?_)
 ·simp at hc
 clear hc
 refine Z1 ?_
 refine qn 43 (.bool (decide (40<g.length)||decide (12<l.length)||decide (3<more.length))) ?_ ?_
 ·refine Z6c ?_
  refine Z2b ?_
  refine Zh ?_
  refine qb rfl rfl (fun hg3=>?_) (fun hg3=>?_)
  ·refine Z2w ?_
   refine Z5l ?_
   exact Zj3
  ·refine Z9b ?_
   refine Z2y ?_
   refine Z2z ?_
   refine qb rfl rfl (fun hg8=>?_) (fun hg8=>?_)
   ·refine Z5l ?_
    exact Zj3
   ·refine Z9b ?_
    refine Z2y ?_
    refine Zr ?_
    exact Zmv
 refine Z1 ?_
 refine qa rfl (fun hc=>?_) (fun hc=>?_)
 ·exact Z4g
 rw [Bool.or_eq_false_iff,Bool.or_eq_false_iff,decide_eq_false_iff_not,decide_eq_false_iff_not,decide_eq_false_iff_not] at hc
 obtain ⟨⟨hg,hl12⟩,hm3⟩:=hc
 refine Z11 ?_
 refine Zsb ?_
 refine Zsc ?_
 refine Zsd ?_
 refine Z8 ?_
 refine Zsb ?_
 refine Zsc ?_
 refine Z15 ?_
 generalize IntKind.i64.wrap (IntKind.i64.wrap (p.tmod 3)+1)=pp at *
 generalize IntKind.i64.wrap (d.tmod 9)=dd at *
 have cn:=fun H=>qdz g pp dd (by omega) H
 have cr:=fun b (hb:b.length≤9000000) H=>q9d g pp dd b (by omega) hb H
 have hre:(q6x g pp dd).2≠0→∀ b,q3r g pp dd b=(qgf,(q6x g pp dd).2):=fun h b=>by rw [q3r,if_pos h]
 have hsg:=fun h=>SG.new (g:=g) (p:=pp) (d:=dd) h (by omega)
 have hown:=fun h os t (r:Tr (q6x g pp dd).1 os t) more hm=>qbb (g:=g) (p:=pp) (d:=dd) h (os:=os) (t:=t) r (more:=more) hm
 have hcutt:=fun h os t (r:Tr (q6x g pp dd).1 os t) w at_ u hu h1 h2 h3 hw=>qvh (g:=g) (p:=pp) (d:=dd) h (os:=os) (t:=t) r (w:=w) (at_:=at_) (u:=u) hu h1 h2 h3 hw
 have hsl:=fun h=>(q91 (g:=g) (p:=pp) (d:=dd) h).1
 have hcode:=qvt g pp dd
 rw [← ql0] at hcode
 generalize q6x g pp dd=q at *
 obtain ⟨s0,e⟩:=q
 simp only at cn hre hsg hown hcutt hsl hcode
 refine Zqy ?_
 refine Zqp ?_
 refine Zhn ?_
 refine Zrs ?_
 refine Z8r ?_
 refine qa rfl (fun hc=>?_) (fun hc=>?_)
 ·have he:e≠0:=by simpa using hc
  have he1:e=1:=by omega
  have c0:=fun H=>cr [] (by simp) H
  rw [hre he,he1] at c0
  refine Zqy ?_
  refine ao2 Y1o (V2.callTu (c0 _) rfl rfl) ?_
  refine Zhn ?_
  refine Zrp ?_
  refine Z11 ?_
  refine Z13 ?_
  exact Zb
 have he:e=0:=by simpa using hc
 clear hc hre hcode
 have hs0:=hsg he
 have hown1:=hown he
 have hcutt1:=hcutt he
 have hsl1:=hsl he
 clear hown hcutt hsl hsg
 subst he
 have hs0l:s0.log.length=0:=by rw [hsl1];rfl
 refine Z37 ?_
 refine ao2 Y1o (q2b (sz:=13) (v:=.agg (q35 s0)) rfl (by decide) (by decide) rfl rfl rfl rfl rfl) ?_
 refine Z8x ?_
 try dsimp only [List.length_cons,List.length_nil,Nat.reduceAdd,put,List.cons_append,List.nil_append,AV.cells]
 refine Z1e ?_
 refine qm (G:=GRc) (fun q=>q.k≤l.length∧SG q.s∧Tr s0 q.os q.s∧q.os.length≤q.k) (fun q=>[(KT,KD.av),(0,.pl (g.map qq)),(3,.pl (l.map eOp)),(4,.int .u16 (cut:Int)),(5,.pl (more.map q15)),(13,.int .i64 pp),(14,.int .i64 dd),(15,.pt (Lid H.length 0) 0 0 0),(19,.sl (Lid H.length 1) q.os.length 0 (q.os.length+1) (q.os.length+1)),(20,.int .i64 (q.k:Int))]) (fun q=>H++[⟨0,13,[q35 q.s]⟩,⟨q.os.length,13,(q89 s0 q.os).map q35⟩]) (fun q=>l.length-q.k) ⟨0,[],s0⟩ ⟨Nat.zero_le _,hs0,.nil _,Nat.le_refl _⟩ Y8 (.inl rfl) ?_
 rintro ⟨k,os,s⟩ ⟨hk,hs,htr,hol⟩
 simp only at hk hs htr hol ⊢
 have htl:=qjw os s0
 have hgr:=htr.grow
 refine Z6g ?_
 refine Zje ?_
 refine qa rfl (fun hc=>?_) (fun hc=>?_)
 ·have hlt:k<l.length:=by simp at hc;omega
  clear hc
  obtain ⟨o,ho,hom⟩:=qo hlt
  have hr:=ql eOp ho
  refine Zau ?_
  refine Z9d ?_
  refine Zse ?_
  refine Z39 ?_
  refine qa rfl (fun hc=>?_) (fun hc=>?_)
  ·exact Z4g
  have hsh:o.needs.length≤20∧o.set.length≤60:=by simpa using hc
  clear hc
  have hj:=hs.gs.jlen
  have cd:=fun H=>qes s o hs.sw hs.ri (by omega) (by omega) (by omega) H
  have hn:=hs.do o (by omega) (by omega)
  have hsn:=fun h=>htr.snoc (o:=o) h
  have hse:=qt5 (s:=s) (o:=o)
  have hts:=qgx o os s0
  rw [htr.stl] at hts
  generalize sdo s o=x at *
  obtain ⟨n,id,f⟩:=x
  simp only at cd hn hsn hse hts
  refine Z1 ?_
  refine Z83 ?_
  refine Zc5 ?_
  refine Zj6 ?_
  refine Z94 ?_
  refine Zsf ?_
  refine Zsg ?_
  refine Zsh ?_
  refine Zsi ?_
  refine Zsj ?_
  refine Zsk ?_
  refine Zsl ?_
  refine Zsm ?_
  refine Zsn ?_
  refine Zj2 ?_
  refine Zso ?_
  refine Z1l ?_
  refine Zsp ?_
  refine Z17 ?_
  refine qa rfl (fun hc=>?_) (fun hc=>?_)
  ·have hf:f=0:=by simpa using hc
   clear hc
   refine Zig ?_
   refine ao2 Y1o (q5e (sz:=13) (v:=.agg (q35 n)) (cs:=q35 n) rfl (by decide) (by decide) rfl rfl rfl rfl rfl) ?_
   refine ao2 Y1o (q46 rfl rfl rfl rfl rfl (Src.pl (ys:=[q35 n]) rfl (qu0 [n])) rfl Y1b (by simp) Y22 Y22) ?_
   refine Z8x ?_
   try dsimp only [List.cons_append,List.nil_append,List.length_cons,List.length_nil,Nat.reduceAdd,put,List.set_cons_succ,List.set_cons_zero]
   rw [show ((q89 s0 os).map q35).take (os.length+1)=(q89 s0 os).map q35 from List.take_of_length_le Y1b]
   refine Zh7 ?_
   refine Zax ?_
   refine Z11 ?_
   refine Zok ?_
   refine Za ?_
   exact ⟨⟨k+1,os++[o],n⟩,by simp only;omega,⟨by simp only;omega,hn,hsn hf,by simp only [List.length_append,List.length_cons,List.length_nil];omega⟩,by simp only [List.length_append,List.length_cons,List.length_nil];exact Y8,Fit.loc hB (G:=[⟨0,13,[q35 n]⟩]) (by simp only [hts,List.map_append,List.length_append,List.length_cons,List.length_nil,List.map_cons,List.map_nil];rfl) Y1 (qvy _ _ _)⟩
  ·have hf:f≠0:=by simpa using hc
   clear hc
   have hns:=hse hf
   subst hns
   refine Z37 ?_
   refine Z36 ?_
   refine ao2 Y1o (V2.call (q8x n n hs.graph hs.ri _) rfl) ?_
   refine Zl7 ?_
   refine qa rfl (fun hc=>?_) (fun hc=>?_)
   ·simp at hc
   clear hc
   refine Zh7 ?_
   refine Zax ?_
   refine Z11 ?_
   refine Zok ?_
   refine Za ?_
   exact ⟨⟨k+1,os,n⟩,by simp only;omega,⟨by simp only;omega,hn,htr,by simp only;omega⟩,Y8,Fit.loc hB (G:=[⟨0,13,[q35 n]⟩]) rfl Y1 (qvy _ _ _)⟩
 have hke:l.length≤k:=by simp at hc;omega
 have ho12:os.length≤12:=by omega
 clear hc hk hke
 have hlg:s.log.length≤2000000:=by have:=hs.log;omega
 have c1:=fun H=>cr s.log (by omega) H
 have hw1:=hown1 os s htr [] Y1d
 rw [List.append_nil] at hw1
 rw [hw1] at c1
 refine Zqy ?_
 refine Z3v ?_
 refine ao2 Y1o (V2.callT (c1 _) rfl rfl) ?_
 refine Zhn ?_
 refine Zru ?_
 refine Z1 ?_
 refine qn 120 (.bool false) ?_ ?_
 ·refine Z8 ?_
  refine Zmu ?_
  refine qb rfl rfl (fun hg2=>?_) (fun hg2=>?_)
  ·refine Z49 ?_
   exact qe (Out.mk (by (refine congrArg AV.bool ?_;(clear hB cn cr c1 hown1 hcutt1;(exfalso;simp at *;done)))) Yb)
  ·refine Z4z ?_
   refine Z4z ?_
   refine q5r rfl rfl (by decide) (V2.call (q8x s s hs.graph hs.ri _) rfl) ?_
   refine Zh3 ?_
   exact qe (Out.mk (by (refine congrArg AV.bool ?_;(clear hB cn cr c1 hown1 hcutt1;(simp;done)))) Yb)
 refine Z1 ?_
 refine qa rfl (fun hc=>?_) (fun hc=>?_)
 ·cases hc
 clear hc
 refine Z11 ?_
 refine ao1 (by decide) (qp (r:=(cut:Int)) rfl (qd (by omega) (by omega))) ?_
 refine Z3v ?_
 refine Z3x ?_
 refine ao1 (by decide) (q20 (r:=((s.log.length+1:Nat):Int)) rfl rfl (by rw [List.length_map];exact qd (by omega) (by omega))) ?_
 refine ao1 (by decide) (qrt (r:=((cut % (s.log.length+1):Nat):Int)) rfl rfl (by omega) (qsp _ _)) ?_
 refine Z3c ?_
 have hat:cut % (s.log.length+1)≤s.log.length:=by have:=Nat.mod_lt cut (show 0<s.log.length+1 by omega);omega
 generalize cut % (s.log.length+1)=at_ at *
 refine Z1e ?_
 refine qm (G:=Nat) (fun w=>w≤os.length∧∃ u,(q89 s0 os)[w]?=some u∧u.log.length≤at_) (fun w=>[(KT,KD.av),(0,.pl (g.map qq)),(5,.pl (more.map q15)),(13,.int .i64 pp),(14,.int .i64 dd),(15,.pt (Lid H.length 0) 0 0 0),(19,.sl (Lid H.length 1) os.length 0 (os.length+1) (os.length+1)),(24,.pt (Lid H.length 2) 0 0 0),(26,.int .i64 (at_:Int)),(27,.int .i64 (w:Int))]) (fun _=>H++[⟨0,13,[q35 s]⟩,⟨os.length,13,(q89 s0 os).map q35⟩,⟨0,13,[q35 s]⟩]) (fun w=>os.length-w) 0 ⟨Nat.zero_le _,s0,by cases os<;>rfl,by omega⟩ Y8 (.inl rfl) ?_
 rintro w ⟨hw,u,hu,hul⟩
 have htu:Tr s0 (os.take w) u:=qe6 htr hu
 have hug:=htu.sg hs0
 have hu0:=ql q35 hu
 have key:(w<os.length∧∃ u2,(q89 s0 os)[w+1]?=some u2∧u2.log.length≤at_)∨(∀ (h:w<os.length),at_<u.log.length+(q3l (q2o os[w])).length):=by
  by_cases hwl:w<os.length
  ·have hox:os[w]?=some os[w]:=List.getElem?_eq_getElem hwl
   have hnx:=qhb hu hox
   have htn:Tr s0 (os.take (w+1)) (sdo u os[w]).1:=qe6 htr hnx
   by_cases hle:(sdo u os[w]).1.log.length≤at_
   ·exact .inl ⟨hwl,_,hnx,hle⟩
   ·refine .inr fun h=>?_
    have l1:=htn.log.1
    have l2:=htu.log.1
    rw [qj hox,List.map_append,qet,List.map_cons,List.map_nil,qt4,← List.append_assoc,← l2] at l1
    have:=congrArg List.length l1
    rw [List.length_append] at this
    omega
  ·exact .inr fun h=>absurd h hwl
 by_cases hwl:w<os.length
 case pos =>
  obtain ⟨u2,hu2,_⟩:=qo (l:=q89 s0 os) (k:=w+1) (by omega)
  have hr2:=ql q35 hu2
  refine Z1 ?_
  refine qn 143 (.bool (decide (u2.log.length≤at_))) ?_ ?_
  ·refine Z8 ?_
   refine Zst ?_
   refine Z8s ?_
   refine Zk5 ?_
   refine Zv ?_
   refine qb rfl rfl (fun hg5=>?_) (fun hg5=>?_)
   ·refine Zba ?_
    refine Zj ?_
    refine q1c rfl rfl (by decide) (q20 (r:=((w+1:Nat):Int)) rfl rfl (qd (by omega) (by omega))) ?_
    refine q1c rfl rfl (by decide) (qw rfl (lk rfl rfl) rfl rfl rfl (by omega)) ?_
    refine Z2n ?_
    refine q1c rfl rfl (by decide) (qh (v:=.pl _) rfl (lk rfl rfl) rfl (qca hr2) rfl) ?_
    refine Z9a ?_
    refine Zj ?_
    refine Zx ?_
    refine Zm ?_
    exact Zsu
   ·refine Z4m ?_
    refine Z4j ?_
    exact Zsu
  refine Z1 ?_
  refine qa rfl (fun hc=>?_) (fun hc=>?_)
  ·have hle:u2.log.length≤at_:=by simpa using hc
   refine Z11 ?_
   refine Zst ?_
   refine Z4 ?_
   refine Z8p ?_
   refine Z1 ?_
   exact ⟨w+1,by omega,⟨by omega,u2,hu2,hle⟩,Y8,.inl rfl⟩
  have hnl:¬ u2.log.length≤at_:=by simpa using hc
  clear hc
  have hlast:∀ (h:w<os.length),at_<u.log.length+(q3l (q2o os[w])).length:=by
   rcases key with ⟨_,u3,h1,h2⟩ | h
   ·rw [hu2] at h1;obtain rfl:=Option.some.inj h1;exact absurd h2 hnl
   ·exact h
  have c2:=fun H=>cr (s.log.take at_) Y19 H
  rw [hcutt1 os s htr w at_ u htu hul hat hlast hw] at c2
  have c3:=fun H=>cr (u.log++more) (by have:=hug.log;rw [List.length_append];omega) H
  rw [hown1 (os.take w) u htu more (by rw [q6h (by omega)])] at c3
  have hull:=hug.log
  refine Zqy ?_
  refine Z3v ?_
  refine Z8 ?_
  refine Zsv ?_
  refine Zrt ?_
  refine Zhl ?_
  refine Z5r ?_
  refine Zsw ?_
  refine Z1 ?_
  refine q1n 167 (.bool false) ?_ ?_
  ·refine Zfm ?_
   refine Z82 ?_
   refine Z7h ?_
   refine Zsx ?_
   refine Z7p ?_
   refine q13 (g:=159) rfl (fun hg2=>?_) (fun hg2=>?_)
   ·refine Zsy ?_
    refine Zsz ?_
    refine Zt0 ?_
    refine Zt1 ?_
    refine Zt2 ?_
    refine Zt3 ?_
    refine Zt4 ?_
    refine Z8d ?_
    exact Zt5
   ·refine Zt6 ?_
    refine Zt7 ?_
    refine Zt8 ?_
    refine Zt9 ?_
    refine Zta ?_
    refine Ztb ?_
    refine Ztc ?_
    refine Z8n ?_
    exact Ztd
  refine Z1 ?_
  refine qa rfl (fun hc=>?_) (fun hc=>?_)
  ·cases hc
  clear hc
  refine Zqy ?_
  refine Zq0 ?_
  refine Z8s ?_
  refine Zb4 ?_
  refine Z2k ?_
  refine Zte ?_
  refine Ztf ?_
  refine Z3g ?_
  refine Ztg ?_
  (refine qh7 (ys:=(u.log++more).map q15) 180 rfl rfl rfl rfl Yn (by simp) (q1g 0 _) ?_;refine ao2 Y1o (V2.callT (c3 _) rfl rfl) ?_)
  refine Zhn ?_
  refine Zth ?_
  refine Z1 ?_
  refine q1n 12 (.bool true) ?_ ?_
  ·refine Zti ?_
   refine Z82 ?_
   refine Z7h ?_
   refine Ztj ?_
   refine Z7p ?_
   refine q13 (g:=186) rfl (fun hg2=>?_) (fun hg2=>?_)
   ·refine Ztk ?_
    refine Ztl ?_
    refine Ztm ?_
    refine Ztn ?_
    refine Zto ?_
    refine Ztp ?_
    refine Ztq ?_
    refine Ztr ?_
    exact Ztd
   ·refine Zts ?_
    refine Ztt ?_
    refine Ztu ?_
    refine Ztv ?_
    refine Ztw ?_
    refine Ztx ?_
    refine Zty ?_
    refine Ztr ?_
    exact Zt5
  exact Z21
 case neg =>
  refine Z1 ?_
  refine qn 143 (.bool false) ?_ ?_
  ·refine Z8 ?_
   refine Zst ?_
   refine Z8s ?_
   refine Zk5 ?_
   refine Zv ?_
   refine qb rfl rfl (fun hg5=>?_) (fun hg5=>?_)
   ·refine Zba ?_
    refine Zj ?_
    exfalso;simp at hg5;omega
   ·refine Z4m ?_
    refine Z4j ?_
    exact Z10
  refine Z1 ?_
  refine qa rfl (fun hc=>?_) (fun hc=>?_)
  ·cases hc
  clear hc
  have hlast:∀ (h:w<os.length),at_<u.log.length+(q3l (q2o os[w])).length:=fun h=>absurd h hwl
  have c2:=fun H=>cr (s.log.take at_) Y19 H
  rw [hcutt1 os s htr w at_ u htu hul hat hlast hw] at c2
  have c3:=fun H=>cr (u.log++more) (by have:=hug.log;rw [List.length_append];omega) H
  rw [hown1 (os.take w) u htu more (by rw [q6h (by omega)])] at c3
  have hull:=hug.log
  refine Zqy ?_
  refine Z3v ?_
  refine Z8 ?_
  refine Zsv ?_
  refine Zrt ?_
  refine Zhl ?_
  refine Z5r ?_
  refine Zsw ?_
  refine Z1 ?_
  refine q1n 167 (.bool false) ?_ ?_
  ·refine Zfm ?_
   refine Z82 ?_
   refine Z7h ?_
   refine Zsx ?_
   refine Z7p ?_
   refine q13 (g:=159) rfl (fun hg2=>?_) (fun hg2=>?_)
   ·refine Zsy ?_
    refine Zsz ?_
    refine Zt0 ?_
    refine Zt1 ?_
    refine Zt2 ?_
    refine Zt3 ?_
    refine Zt4 ?_
    refine Z8d ?_
    exact Zt5
   ·refine Zt6 ?_
    refine Zt7 ?_
    refine Zt8 ?_
    refine Zt9 ?_
    refine Zta ?_
    refine Ztb ?_
    refine Ztc ?_
    refine Z8n ?_
    exact Ztd
  refine Z1 ?_
  refine qa rfl (fun hc=>?_) (fun hc=>?_)
  ·cases hc
  clear hc
  refine Zqy ?_
  refine Zq0 ?_
  refine Z8s ?_
  refine Zb4 ?_
  refine Z2k ?_
  refine Zte ?_
  refine Ztf ?_
  refine Z3g ?_
  refine Ztg ?_
  (refine qh7 (ys:=(u.log++more).map q15) 180 rfl rfl rfl rfl Yn (by simp) (q1g 0 _) ?_;refine ao2 Y1o (V2.callT (c3 _) rfl rfl) ?_)
  refine Zhn ?_
  refine Zth ?_
  refine Z1 ?_
  refine q1n 12 (.bool true) ?_ ?_
  ·refine Zti ?_
   refine Z82 ?_
   refine Z7h ?_
   refine Ztj ?_
   refine Z7p ?_
   refine q13 (g:=186) rfl (fun hg2=>?_) (fun hg2=>?_)
   ·refine Ztk ?_
    refine Ztl ?_
    refine Ztm ?_
    refine Ztn ?_
    refine Zto ?_
    refine Ztp ?_
    refine Ztq ?_
    refine Ztr ?_
    exact Ztd
   ·refine Zts ?_
    refine Ztt ?_
    refine Ztu ?_
    refine Ztv ?_
    refine Ztw ?_
    refine Ztx ?_
    refine Zty ?_
    refine Ztr ?_
    exact Zt5
  exact Z21
theorem qg8 (g:List Thing) (p d:Int) (l:List OOp) (cut:Int) (hc:0≤cut∧cut≤65535) (more:List UInt8) (H:qf):ACT Tryz.prog KD 5 [.pl (g.map qq),.int .u8 p,.int .u8 d,.pl (l.map eOp),.int .u16 cut,.pl (more.map q15)] H (Ret (.bool true) H):=by
 obtain ⟨n,rfl⟩:=Int.eq_ofNat_of_zero_le hc.1
 exact qaq g p d l n (by omega) more H
end Go.Av
