/- Parts of the proof: rules for an abstract memory, plain laws, and walks through the program. -/
import Derived.Test.YtpidemmdmmgalaaGreatDoorSeatBP0
import Derived.Test.YtpidemmdmmgalaaGreatDoorSeatBP3
import Derived.Test.YtpidemmdmmgalaaGreatDoorSeatBP2
import Derived.Test.YtpidemmdmmgalaaGreatDoorSeatBP1
import Derived.Lib.Overlaps
import Derived.Sort.Grow
import Derived.Shelf.Small.Utf8
import Derived.Shelf.Small.Bits
import Derived.Shelf.Small.Strs
import Derived.Shelf.Small.Wraps
import Derived.Shelf.Strconv.Itoa0
import Derived.Shelf.Strings.Search1
import Derived.Shelf.Strings.Runes
import Derived.Shelf.Slices.Turned
import Derived.Shelf.Slices.Equal
import Derived.Ground.Names2Prog
import Derived.Shelf.Slices.Clone
import Derived.Shelf.Slices.SearchI
import Derived.Shelf.Slices.Empties2
import Derived.Ground.SlgnProg
import Derived.Shelf.SlicesG.CompactI
import Derived.Shelf.SlicesG.SearchI
import Derived.Shelf.SlicesG.Cells
import Derived.Shelf.SlicesE.Clone
import Derived.Ground.SlgmProg
import Derived.Shelf.SortM.Plain
import Derived.Shelf.SortM.SortNone
import Derived.Shelf.Bytes.Small
import Derived.Test.YtpidemmdmmgalaaGreatDoorProg
import Derived.Recover
set_option maxRecDepth 10000
set_option linter.unusedVariables false
set_option linter.unusedSimpArgs false
namespace Go.Av
open Go.Proofs
set_option maxHeartbeats 0 in
theorem qfm (F:Nat) [FnI Tryz.prog F] (caps:List AV) (p:Nat→Bool) (l:List Job) (j:Job) (H:qf) (hso:∀ n∈j.needs,∀ L':qf,AC Tryz.prog F (.int .i64 (q1g l n:Int) :: caps) (H++L') (Ret (.bool (p (q1g l n))) (H++L'))) (hl:l.length≤1000000) (hs:l.Pairwise (fun a b=>a.id<b.id)) (hn:j.needs.length≤1000000) :
  AC Tryz.prog 227 [.pl (l.map qx),.agg (qx j),.fn (.func F) [] caps] H (Ret (.bool (j.needs.all fun n=>p (q1g l n))) H):=by
 refine AC.body (N:=29) [.tmp 6] Tryz.func227 rfl rfl rfl (Nat.le_of_ble_eq_true rfl) fun B hB=>?_
 refine Z4g ?_
 refine Z2w ?_
 refine Z4j ?_
 refine Z4q ?_
 refine qm (G:=Nat) (fun k=>k≤j.needs.length∧∀ n∈j.needs.take k,p (q1g l n)=true) (fun k=>[(0,.pl (l.map qx)),(2,.fn (.func F) [] caps),(12,.pl (j.needs.map eI)),(13,.int .i64 (j.needs.length:Int)),(14,.int .i64 (k:Int))]) (fun _=>H++[⟨0,13,[qx j]⟩]) (fun k=>j.needs.length-k) 0 ⟨Nat.zero_le _,by simp⟩ Y8 (.inl rfl) ?_
 rintro k ⟨hk,hno⟩
 refine Z4r ?_
 refine qa rfl (fun hc=>?_) (fun hc=>?_)
 ·have hlt:k<j.needs.length:=by simpa using hc
  obtain ⟨n,hn',hnl⟩:=qr hlt
  have hr:=qk eI hn'
  have hcall:=hso n hnl
  clear hc
  refine Zfo ?_
  refine Z90 ?_
  refine Zfp ?_
  refine Z6j ?_
  refine Z1s ?_
  refine Z8 ?_
  refine Zli ?_
  refine Z19 ?_
  refine Z48 ?_
  refine qa rfl (fun hc=>?_) (fun hc=>?_)
  ·have hbad:(j.needs.all fun n=>p (q1g l n))=false:=by rw [List.all_eq_false];exact ⟨n,hnl,by simpa using hc⟩
   refine Zf ?_
   rw [hbad]
   exact Zb
  ·refine Z52 ?_
   refine ⟨k+1,by omega,⟨by omega,?_⟩,Y8,.inl rfl⟩
   rw [ql hn']
   intro y hy
   rcases List.mem_append.1 hy with h | h
   ·exact hno y h
   ·simp only [List.mem_singleton] at h
    subst h
    simpa using hc
 ·have:k=j.needs.length:=by simp at hc;omega
  subst this
  rw [List.take_length] at hno
  refine Zf ?_
  rw [List.all_eq_true.2 hno]
  exact Zb
set_option maxHeartbeats 0 in
theorem qko (l:List Job) (i at_ a b li:Nat) (H:qf) (ha:H[a]?=some ⟨0,1,[[.sl li 0 0 l.length l.length]]⟩) (hb:H[b]?=some ⟨0,1,[[.pl (l.map qx)]]⟩) (hli:H[li]?=some ⟨0,1,q3p l i⟩) (hat:at_<i) (hil:i≤l.length):AC Tryz.prog 226 [.int .i64 (at_:Int),.pt a 0 0 0,.pt b 0 0 0] H (Ret (.bool (qm0 l at_)) H):=by
 have hrow:(q3p l i)[at_]?=some [.bool (q5d l at_)]:=by rw [qd0 (by omega),decide_eq_true hat,Bool.true_and]
 obtain ⟨x,hx,_⟩:=qr (l:=l) (k:=at_) (by omega)
 have hr:=qk qx hx
 refine AC.body (N:=25) [.tmp 4] Tryz.func226 rfl rfl rfl (Nat.le_of_ble_eq_true rfl) fun B hB=>?_
 refine Z1o ?_
 rw [qm0,q1z hx]
 clear hx
 refine Z1 ?_
 refine qq 4 (.bool (q5d l at_||(q5h x.state&&decide (x.state≠3)))) ?_ ?_
 ·refine ao1 (by decide) (qh (v:=.sl li 0 0 l.length l.length) rfl (lkF ha) rfl rfl rfl) ?_
  refine Z8 ?_
  refine ao1 (by decide) (q12 rfl (lkF hli) rfl rfl rfl (by omega)) ?_
  refine ao1 (by decide) (qh (v:=.bool _) rfl (lkF hli) rfl (qdw hrow) rfl) ?_
  refine Zh ?_
  refine qb rfl rfl (fun hg4=>?_) (fun hg4=>?_)
  ·refine Z4w ?_
   refine Z3c ?_
   refine Zbk ?_
   refine Z2c ?_
   refine Z3a ?_
   refine Zn ?_
   exact Zlj
  ·refine Zlk ?_
   refine Zj ?_
   refine Ze4 ?_
   refine Zkm ?_
   refine Zfu ?_
   refine q6d rfl rfl (by decide) (V2.call (qof _ _) rfl) ?_
   refine Z25 ?_
   refine qb rfl rfl (fun hg11=>?_) (fun hg11=>?_)
   ·refine Zlk ?_
    refine Zj ?_
    refine Ze4 ?_
    refine Zkm ?_
    refine Zfu ?_
    refine Zll ?_
    refine Z26 ?_
    refine Z3h ?_
    exact qe (Out.mk (by (refine congrArg AV.bool ?_;(clear hB hrow hr;grind))) Yb)
   ·refine Z29 ?_
    refine Zq ?_
    refine Z2a ?_
    refine Z3h ?_
    exact Zlj
 exact Z20
theorem qkh (l:List Job) (i at_ a b li c:Nat) (H:qf) (ha:H[a]?=some ⟨0,1,[[.sl li 0 0 l.length l.length]]⟩) (hb:H[b]?=some ⟨0,1,[[.pl (l.map qx)]]⟩) (hli:H[li]?=some ⟨0,1,q3p l i⟩) (hcc:H[c]?=some ⟨0,1,[[.fn (.func 226) [] [.pt a 0 0 0,.pt b 0 0 0]]]⟩) (hat:at_<i) (hil:i≤l.length):AC Tryz.prog 228 [.int .i64 (at_:Int),.pt c 0 0 0] H (Ret (.bool (!qm0 l at_)) H):=by
 refine AC.body (N:=8) [.tmp 3] Tryz.func228 rfl rfl rfl (Nat.le_of_ble_eq_true rfl) fun B hB=>?_
 refine Z1o ?_
 refine Z2 ?_
 refine ao1 (by decide) (qh (v:=.fn (.func 226) [] [.pt a 0 0 0,.pt b 0 0 0]) rfl (lkF hcc) rfl rfl rfl) ?_
 refine Z8 ?_
 refine ao2 Y1k (V2.callv (qko l i at_ a b li _ (lkF ha) (lkF hb) (lkF hli) hat hil) rfl rfl) ?_
 refine Z19 ?_
 refine Zbs ?_
 exact Z20
set_option maxHeartbeats 0 in
theorem qqf (l:List Job) (H:qf) (hw:JW l):AC Tryz.prog 198 [.pl (l.map qx)] H (Ret (.pl ((q43 l).map eI)) H):=by
 have hw1:=hw.1
 have hml:(l.map qx).length=l.length:=by simp
 refine AC.body (N:=42) [.tmp 2] Tryz.func198 rfl rfl rfl (Nat.le_of_ble_eq_true rfl) fun B hB=>?_
 refine Z2 ?_
 refine Zlm ?_
 refine Z8i ?_
 refine Z2v ?_
 refine Z2 ?_
 refine Z4h ?_
 refine Zho ?_
 refine Z3x ?_
 refine qa rfl (fun hc=>?_) (fun hc=>?_)
 ·have hno:q2v l=false:=by simpa only [Bool.not_eq_true'] using hc
  rw [show q43 l=[] by rw [q43,hno];rfl]
  refine Z4a ?_
  exact Z8x
 have hyes:q2v l=true:=by simpa only [Bool.not_eq_false'] using hc
 have hs:=q3f hyes
 clear hc
 rw [qes l hyes]
 refine Z2 ?_
 refine Z4h ?_
 refine Z4k ?_
 refine ao2 Y1k (q40 (n:=l.length) (c:=l.length) (bytes:=1) rfl (by decide) (congrArg (fun k:Nat=>AV.int .i64 (k:Int)) hml) (congrArg (fun k:Nat=>AV.int .i64 (k:Int)) hml) (Nat.le_refl _) (by omega) (by omega) rfl) ?_
 refine Zln ?_
 refine ao2 Y1w (q1k (sz:=1) (v:=.sl _ _ _ _ _) (r':=[_]) rfl rfl rfl rfl rfl rfl rfl rfl (Nat.le_of_ble_eq_true rfl) rfl) ?_
 refine Zbh ?_
 refine Z49 ?_
 refine q1s (k:=3) 4 1 rfl (by decide) rfl ?_
 refine q18 ?_
 refine Z4h ?_
 refine Z4o ?_
 refine Z8k ?_
 refine Z1d ?_
 refine qm (G:=Nat) (fun i=>i≤l.length) (fun i=>[(1,.pt (Lid H.length 0) 0 0 0),(3,.pt (Lid H.length 2) 0 0 0),(4,.sl (Lid H.length 3) (q42 l i).length 0 (q42 l i).length (q42 l i).length),(14,.pl (l.map qx)),(15,.int .i64 (l.length:Int)),(16,.int .i64 (i:Int))]) (fun i=>H++[⟨0,1,[[.pl (l.map qx)]]⟩,⟨0,1,q3p l i⟩,⟨0,1,[[.sl (Lid H.length 1) 0 0 l.length l.length]]⟩,⟨(q42 l i).length,1,(q42 l i).map eI⟩]) (fun i=>l.length-i) 0 (Nat.zero_le _) Y8 (.inl (by rw [qhp];rfl)) ?_
 intro i hi
 refine Z4r ?_
 refine qa rfl (fun hc=>?_) (fun hc=>?_)
 ·have hlt:i<l.length:=by simpa using hc
  obtain ⟨j,hj,hjl⟩:=qr hlt
  have hr:=qk qx hj
  have hjn:=hw.2 j hjl
  have hla:=qux hyes hj
  have hst:=qka hj
  have hle:=qgn l i
  have hrow:(q3p l i)[0+i]?=some [.bool (decide (i<i)&&q5d l i)]:=by rw [Nat.zero_add];exact qd0 hlt
  have hbf:=fun n hn=>(q8k hyes hj (n:=n) hn).1
  clear hc
  refine Z9u ?_
  refine Z5w ?_
  refine Z3 ?_
  refine Z67 ?_
  refine Zbh ?_
  refine Z2 ?_
  refine ao1 (by decide) (q70 (vs:=[]) (us:=[_,_]) rfl rfl) ?_
  refine Zln ?_
  refine ao2 Y1w (q1k (sz:=1) (v:=.fn _ _ _) (r':=[_]) rfl rfl rfl rfl rfl rfl rfl rfl (Nat.le_of_ble_eq_true rfl) rfl) ?_
  refine Zbh ?_
  refine Z1 ?_
  refine qq 31 (.bool (q5d l i)) ?_ ?_
  ·refine Z30 ?_
   refine Zi ?_
   refine qb rfl rfl (fun hg3=>?_) (fun hg3=>?_)
   ·refine Zc6 ?_
    refine Z5i ?_
    refine Zlo ?_
    refine q6d rfl rfl (by decide) (V2.call (qfm 228 [.pt (Lid H.length 5) 0 0 0] (fun a=>!qm0 l a) l j _ (fun n hn L'=>qkh l i (q1g l n) (Lid H.length 2) (Lid H.length 0) (Lid H.length 1) (Lid H.length 5) _ (lkF (lk rfl rfl)) (lkF (lk rfl rfl)) (lkF (lk rfl rfl)) (lkF (lk rfl rfl)) (hbf n hn) hi) hw1 hs hjn) rfl) ?_
    refine Z27 ?_
    exact qe (Out.mk (by (refine congrArg AV.bool ?_;(rw [hla];clear hB hbf hst hr hrow;(simp_all;done)))) Yb)
   ·refine Zq ?_
    refine Z1y ?_
    exact qe (Out.mk (by (refine congrArg AV.bool ?_;(rw [hla];clear hB hbf hst hr hrow;(simp_all;omega)))) Yb)
  refine Z1 ?_
  refine qa rfl (fun hc=>?_) (fun hc=>?_)
  ·rw [if_pos hc] at hst
   have q57:=ql5 hc
   refine Z2 ?_
   refine ao1 (by decide) (qh (v:=.sl (Lid H.length 1) 0 0 l.length l.length) rfl (lk rfl rfl) rfl rfl rfl) ?_
   refine Z8 ?_
   refine Zbc ?_
   refine Zju ?_
   refine qe ?_
   refine Zif ?_
   rw [Nat.zero_add,q57]
   refine Zjj ?_
   refine Z8q ?_
   refine Z8u ?_
   rw [show ((q42 l i).map eI).take (q42 l i).length=(q42 l i).map eI from List.take_of_length_le (by simp)]
   refine Z52 ?_
   refine ⟨i+1,by omega,by omega,by rw [hst,List.length_append];exact Y8,?_⟩
   rw [hst,List.length_append]
   refine Fit.loc hB Y1a Y1 ?_
   intro o ho r hr
   simp only [List.mem_cons,List.not_mem_nil,or_false] at ho
   rcases ho with rfl | rfl | rfl | rfl
   ·simp only [List.mem_singleton] at hr;subst hr;rfl
   ·exact qcq _ _ _ r hr
   ·simp only [List.mem_singleton] at hr;subst hr;simp [AV.bels,AV.bel,Lid]
   ·exact q3a _ _ r hr
  ·rw [if_neg Y1p] at hst
   refine Z52 ?_
   refine ⟨i+1,by omega,by omega,by rw [hst];exact Y8,?_⟩
   rw [hst,qix hc]
   refine Fit.loc hB rfl Y1 ?_
   intro o ho r hr
   simp only [List.mem_cons,List.not_mem_nil,or_false] at ho
   rcases ho with rfl | rfl | rfl | rfl
   ·simp only [List.mem_singleton] at hr;subst hr;rfl
   ·exact qcq _ _ _ r hr
   ·simp only [List.mem_singleton] at hr;subst hr;simp [AV.bels,AV.bel,Lid]
   ·exact q3a _ _ r hr
 ·have:i=l.length:=by simp at hc;omega
  subst this
  refine Z8w ?_
  refine qp (ys:=(q42 l l.length).map eI) 2 rfl rfl rfl rfl Ym (by simp) (q3a 0 _) ?_
  exact Z8x
end Go.Av
namespace Go.Av
abbrev SoJ (l:List Job):Prop:=l.Pairwise (fun a b=>b.spec.prio≤a.spec.prio)
def fp (p:Int) (l:List Job):List Job:=l.filter fun j=>decide (j.spec.prio=p)
theorem qoq (p:Int) (a b:List Job):fp p (a++b)=fp p a++fp p b:=List.filter_append ..
theorem q6l {p:Int} {x:Job} {l:List Job} (h:x.spec.prio=p):fp p (x :: l)=x :: fp p l:=List.filter_cons_of_pos (by simpa using h)
theorem q8f {p:Int} {x:Job} {l:List Job} (h:¬ x.spec.prio=p):fp p (x :: l)=fp p l:=List.filter_cons_of_neg (by simpa using h)
theorem qar:∀ {A B:List Job},SoJ A→SoJ B→(∀ p,fp p A=fp p B)→A=B
 | [],[],_,_,_=>rfl
 | [],y :: B,_,_,h=>by
  have:=h y.spec.prio
  rw [q6l rfl] at this
  cases this
 | x :: A,[],_,_,h=>by
  have:=h x.spec.prio
  rw [q6l rfl] at this
  cases this
 | x :: A,y :: B,ha,hb,h=>by
  have e:x.spec.prio=y.spec.prio:=by
   have hx:x∈fp x.spec.prio (y :: B):=by rw [← h,q6l rfl];exact List.mem_cons_self
   have hy:y∈fp y.spec.prio (x :: A):=by rw [h,q6l rfl];exact List.mem_cons_self
   have h1:x.spec.prio≤y.spec.prio:=by
    rcases List.mem_cons.1 (List.mem_filter.1 hx).1 with e | m
    ·rw [e];exact Int.le_refl _
    ·exact (List.pairwise_cons.1 hb).1 x m
   have h2:y.spec.prio≤x.spec.prio:=by
    rcases List.mem_cons.1 (List.mem_filter.1 hy).1 with e | m
    ·rw [e];exact Int.le_refl _
    ·exact (List.pairwise_cons.1 ha).1 y m
   omega
  have hp:=h x.spec.prio
  rw [q6l rfl,q6l e.symm] at hp
  injection hp with e1 e2
  subst e1
  congr 1
  refine qar (List.pairwise_cons.1 ha).2 (List.pairwise_cons.1 hb).2 fun p=>?_
  have:=h p
  by_cases q:x.spec.prio=p
  ·rw [q6l q,q6l q] at this
   injection this
  ·rwa [q8f q,q8f q] at this
theorem qlt (p:Int) (x:Job):∀ l:List Job,fp p (byPrio.insP x l)=fp p (x :: l)
 | []=>rfl
 | y :: l=>by
  rw [byPrio.insP]
  split
  ·rfl
  ·rename_i h
   by_cases q:y.spec.prio=p
   ·have q2:¬ x.spec.prio=p:=by omega
    rw [q6l q,qlt p x l,q8f q2,q8f q2,q6l q]
   ·rw [q8f q,qlt p x l]
    by_cases q2:x.spec.prio=p
    ·rw [q6l q2,q6l q2,q8f q]
    ·rw [q8f q2,q8f q2,q8f q]
theorem q4d (p:Int):∀ l:List Job,fp p (byPrio l)=fp p l
 | []=>rfl
 | x :: l=>by
  rw [byPrio,qlt]
  by_cases q:x.spec.prio=p
  ·rw [q6l q,q6l q,q4d p l]
  ·rw [q8f q,q8f q,q4d p l]
theorem q5m {l:List Job} (h:SoJ l):byPrio l=l:=qar (q1v l) h fun p=>q4d p l
theorem qh5 (u v:List Job):byPrio (byPrio u++byPrio v)=byPrio (u++v) :=
 qar (q1v _) (q1v _) fun p=>by rw [q4d,q4d,qoq,qoq,q4d,q4d]
theorem qrw {p:Int} {l:List Job} (h:∀ a∈l,¬ a.spec.prio=p):fp p l=[]:=by
 rw [fp,List.filter_eq_nil_iff]
 intro a ha
 simpa using h a ha
theorem qrd {A1 A2 B1 B2:List Job} (h1:∀ a∈A2,∀ b∈B1,a.spec.prio<b.spec.prio) (h2:∀ a∈A1,∀ b∈B2,b.spec.prio≤a.spec.prio) (hA:SoJ (A1++A2)) (hB:SoJ (B1++B2)):byPrio ((A1++A2)++(B1++B2))=byPrio (A1++B1)++byPrio (A2++B2):=by
 refine qar (q1v _) ?_ fun p=>?_
 ·rw [SoJ,List.pairwise_append]
  refine ⟨q1v _,q1v _,fun a ha b hb=>?_⟩
  rw [byPrio_mem,List.mem_append] at ha hb
  rcases ha with ha | ha<;>rcases hb with hb | hb
  ·exact (List.pairwise_append.1 hA).2.2 a ha b hb
  ·exact h2 a ha b hb
  ·exact Int.le_of_lt (h1 b hb a ha)
  ·exact (List.pairwise_append.1 hB).2.2 a ha b hb
 ·rw [qoq,q4d,q4d,q4d]
  simp only [qoq,List.append_assoc]
  by_cases q:∃ a∈A2,a.spec.prio=p
  ·obtain ⟨a,ha,e⟩:=q
   rw [qrw (l:=B1) fun b hb e2=>by have:=h1 a ha b hb;omega]
   simp
  ·rw [qrw (l:=A2) fun a ha e=>q ⟨a,ha,e⟩]
   simp
def blk (k:Nat) (l:List Job):List Job:=if h:l=[]∨k=0 then l else byPrio (l.take k)++blk k (l.drop k)
termination_by l.length
decreasing_by
 have:l.length≠0:=fun e=>h (.inl (List.eq_nil_of_length_eq_zero e))
 rw [List.length_drop];omega
theorem qop (k:Nat):∀ (n:Nat) (l:List Job),l.length≤n→(blk k l).length=l.length
 | 0,l,h=>by rw [blk,dif_pos (.inl (List.eq_nil_of_length_eq_zero (by omega)))]
 | n+1,l,h=>by
  rw [blk]
  split
  ·rfl
  ·rename_i hh
   have hk:k≠0:=fun e=>hh (.inr e)
   have hl:l.length≠0:=fun e=>hh (.inl (List.eq_nil_of_length_eq_zero e))
   rw [List.length_append,q24,qop k n (l.drop k) Y16,List.length_take,List.length_drop];omega
theorem qm5 (k:Nat) (l:List Job):(blk k l).length=l.length:=qop k _ l (Nat.le_refl _)
theorem qc3 {k:Nat} (hk:k≠0) {l:List Job} (h:l.length≤k):blk k l=byPrio l:=by
 rw [blk]
 split
 ·rename_i e
  rcases e with e | e
  ·subst e;rfl
  ·exact absurd e hk
 ·rw [List.take_of_length_le h,List.drop_of_length_le h,blk,dif_pos (.inl rfl),List.append_nil]
theorem qbf {k:Nat} (hk:k≠0) (u v:List Job) (h:u.length=k):blk k (u++v)=byPrio u++blk k v:=by
 rw [blk,dif_neg ?_]
 ·rw [List.take_append_of_le_length (by omega),List.take_of_length_le (by omega),List.drop_append_of_le_length (by omega),List.drop_of_length_le (by omega),List.nil_append]
 ·rintro (e | e)
  ·rw [List.append_eq_nil_iff] at e
   rw [e.1] at h
   exact hk h.symm
  ·exact hk e
theorem qla {k:Nat} (hk:k≠0) (v:List Job) (hv:v.length≤k):∀ (n:Nat) (u:List Job),u.length=n * k→blk k (u++v)=blk k u++byPrio v
 | 0,u,h=>by
  rw [Nat.zero_mul] at h
  rw [List.eq_nil_of_length_eq_zero h,List.nil_append,qc3 hk hv,blk,dif_pos (.inl rfl),List.nil_append]
 | n+1,u,h=>by
  rw [Nat.succ_mul] at h
  have h1:(u.take k).length=k:=by rw [List.length_take];omega
  have h2:(u.drop k).length=n * k:=by rw [List.length_drop];omega
  conv=>lhs;rw [← List.take_append_drop k u,List.append_assoc,qbf hk _ _ h1,qla hk v hv n _ h2]
  conv=>rhs;rw [← List.take_append_drop k u,qbf hk _ _ h1]
  rw [List.append_assoc]
theorem qam {k:Nat} (hk:k≠0) (u v:List Job) (hu:u.length % k=0) (hv:v.length≤k):blk k (u++v)=blk k u++byPrio v :=
 qla hk v hv (u.length / k) u (by have:=Nat.div_add_mod u.length k;rw [hu,Nat.add_zero,Nat.mul_comm] at this;exact this.symm)
theorem qh2 {A:List Job} {i:Nat} {x:Job} (h:SoJ A) (hx:A[i]?=some x):(∀ a∈A.take (i+1),x.spec.prio≤a.spec.prio)∧(∀ a∈A.drop i,a.spec.prio≤x.spec.prio):=by
 obtain ⟨hi,e⟩:=List.getElem?_eq_some_iff.1 hx
 constructor
 ·intro a ha
  obtain ⟨k,hk⟩:=List.mem_iff_getElem?.1 ha
  rw [List.getElem?_take] at hk
  split at hk
  ·obtain ⟨k1,k2⟩:=List.getElem?_eq_some_iff.1 hk
   rcases Nat.lt_or_eq_of_le (show k≤i by omega) with h1 | h1
   ·have:=List.pairwise_iff_getElem.1 h k i k1 hi h1
    rw [k2,e] at this
    exact this
   ·subst h1
    rw [hk] at hx
    cases hx
    exact Int.le_refl _
  ·cases hk
 ·intro a ha
  obtain ⟨k,hk⟩:=List.mem_iff_getElem?.1 ha
  rw [List.getElem?_drop] at hk
  obtain ⟨k1,k2⟩:=List.getElem?_eq_some_iff.1 hk
  rcases Nat.eq_zero_or_pos k with h1 | h1
  ·subst h1
   rw [Nat.add_zero,hx] at hk
   cases hk
   exact Int.le_refl _
  ·have:=List.pairwise_iff_getElem.1 h i (i+k) hi k1 (by omega)
   rw [k2,e] at this
   exact this
theorem qs2 {A B:List Job} {s t:Nat} (hA:SoJ A) (hB:SoJ B) (hs:s≤A.length) (ht:t≤B.length) (h1:s=0∨t=B.length∨∃ x y,A[s-1]?=some x∧B[t]?=some y∧y.spec.prio≤x.spec.prio) (h2:s=A.length∨t=0∨∃ x y,A[s]?=some x∧B[t-1]?=some y∧x.spec.prio<y.spec.prio) :
  byPrio (A++B)=byPrio (A.take s++B.take t)++byPrio (A.drop s++B.drop t):=by
 have:=qrd (A1:=A.take s) (A2:=A.drop s) (B1:=B.take t) (B2:=B.drop t) ?_ ?_ (by rwa [List.take_append_drop]) (by rwa [List.take_append_drop])
 ·rwa [List.take_append_drop,List.take_append_drop] at this
 ·intro a ha b hb
  rcases h2 with h | h | ⟨x,y,hx,hy,h⟩
  ·rw [List.drop_of_length_le (by omega)] at ha;cases ha
  ·subst h;rw [List.take_zero] at hb;cases hb
  ·have e1:=(qh2 hA hx).2 a ha
   by_cases ht0:t=0
   ·subst ht0;rw [List.take_zero] at hb;cases hb
   ·have e2:=(qh2 hB hy).1 b (by rw [show t-1+1=t by omega];exact hb)
    omega
 ·intro a ha b hb
  rcases h1 with h | h | ⟨x,y,hx,hy,h⟩
  ·subst h;rw [List.take_zero] at ha;cases ha
  ·rw [List.drop_of_length_le (by omega)] at hb;cases hb
  ·have e2:=(qh2 hB hy).2 b hb
   by_cases hs0:s=0
   ·subst hs0;rw [List.take_zero] at ha;cases ha
   ·have e1:=(qh2 hA hx).1 a (by rw [show s-1+1=s by omega];exact ha)
    omega
def mvJ (A:List Job) (k:Nat) (x:Job):List Job:=A.take k++x :: A.drop k
theorem qzp {A:List Job} {k:Nat} {x:Job} (h:k≤A.length):(mvJ A k x).length=A.length+1:=by
 unfold mvJ;rw [List.length_append,List.length_take,List.length_cons,List.length_drop];omega
theorem qvt {A:List Job} {k:Nat} {x:Job} (h:k≤A.length):(mvJ A k x)[k]?=some x:=by
 unfold mvJ
 have h1:(A.take k).length=k:=by rw [List.length_take];omega
 rw [List.getElem?_append_right (by omega),h1,Nat.sub_self];rfl
theorem q126 {A:List Job} {k:Nat} {x y:Job} (hy:A[k]?=some y):(mvJ A (k+1) x)[k]?=some y:=by
 have h:=(List.getElem?_eq_some_iff.1 hy).1
 unfold mvJ
 rw [List.getElem?_append_left Y17,List.getElem?_take,if_pos (by omega)]
 exact hy
theorem q10m {A:List Job} {k:Nat} {x y:Job} (hy:A[k]?=some y):(mvJ A k x)[k+1]?=some y:=by
 have h:=(List.getElem?_eq_some_iff.1 hy).1
 unfold mvJ
 have h1:(A.take k).length=k:=by rw [List.length_take];omega
 rw [List.getElem?_append_right (by omega),h1,show k+1-k=0+1 by omega,List.getElem?_cons_succ,List.getElem?_drop,Nat.add_zero]
 exact hy
theorem q10a {A:List Job} {k:Nat} {x y:Job} (hy:A[k]?=some y):((mvJ A (k+1) x).set (k+1) y).set k x=mvJ A k x:=by
 obtain ⟨hl,he⟩:=List.getElem?_eq_some_iff.1 hy
 unfold mvJ
 have h1:A.take (k+1)=A.take k++[y]:=by rw [List.take_add_one,hy];rfl
 have h2:A.drop k=y :: A.drop (k+1):=by rw [List.drop_eq_getElem_cons hl,he]
 have l1:(A.take k).length=k:=by rw [List.length_take];omega
 rw [h1,h2]
 simp only [List.append_assoc,List.cons_append,List.nil_append]
 rw [List.set_append_right _ _ (by omega),l1,show k+1-k=1 by omega,List.set_append_right _ _ (by omega),l1,Nat.sub_self]
 rfl
theorem q14e {A:List Job} {k:Nat} {x y:Job} (hy:A[k]?=some y):((mvJ A k x).set k y).set (k+1) x=mvJ A (k+1) x:=by
 obtain ⟨hl,he⟩:=List.getElem?_eq_some_iff.1 hy
 unfold mvJ
 have h1:A.take (k+1)=A.take k++[y]:=by rw [List.take_add_one,hy];rfl
 have h2:A.drop k=y :: A.drop (k+1):=by rw [List.drop_eq_getElem_cons hl,he]
 have l1:(A.take k).length=k:=by rw [List.length_take];omega
 rw [h1,h2]
 simp only [List.append_assoc,List.cons_append,List.nil_append]
 rw [List.set_append_right _ _ (by omega),l1,Nat.sub_self,List.set_append_right _ _ (by omega),l1,show k+1-k=1 by omega]
 rfl
theorem q6u {X M Y:List Job} {j:Nat} {x:Job} (h:M[j]?=some x):(X++(M++Y))[X.length+j]?=some x:=by
 have hj:=(List.getElem?_eq_some_iff.1 h).1
 rw [List.getElem?_append_right (by omega),Nat.add_sub_cancel_left,List.getElem?_append_left hj];exact h
theorem q8m {X M Y:List Job} {j:Nat} (x:Job) (h:j<M.length):(X++(M++Y)).set (X.length+j) x=X++(M.set j x++Y):=by
 rw [List.set_append_right _ _ (by omega),Nat.add_sub_cancel_left,List.set_append_left _ _ h]
def hyb (U V:List Job) (i:Nat):List Job:=V.take i++U.drop i
theorem qnr {U V:List Job} {i:Nat} (h:U.length=V.length) (hi:i≤U.length):(hyb U V i).length=U.length:=by
 unfold hyb;rw [List.length_append,List.length_take,List.length_drop];omega
theorem que {U V:List Job} {i:Nat} {u:Job} (h:U.length=V.length) (hu:U[i]?=some u):(hyb U V i)[i]?=some u:=by
 have hi:=(List.getElem?_eq_some_iff.1 hu).1
 have l1:(V.take i).length=i:=by rw [List.length_take];omega
 unfold hyb
 rw [List.getElem?_append_right (by omega),l1,Nat.sub_self,List.getElem?_drop,Nat.add_zero]
 exact hu
theorem qrr {U V:List Job} {i:Nat} {v:Job} (h:U.length=V.length) (hv:V[i]?=some v):(hyb U V i).set i v=hyb U V (i+1):=by
 have hi:=(List.getElem?_eq_some_iff.1 hv).1
 have l1:(V.take i).length=i:=by rw [List.length_take];omega
 have hu:i<U.length:=by omega
 unfold hyb
 rw [List.set_append_right _ _ (by omega),l1,Nat.sub_self,List.drop_eq_getElem_cons hu,List.set_cons_zero,List.take_add_one,hv,List.append_assoc]
 rfl
theorem qpe (U V:List Job):hyb U V 0=U:=by unfold hyb;simp
theorem qsi {U V:List Job} (h:U.length=V.length):hyb U V U.length=V:=by unfold hyb;rw [List.take_of_length_le (by omega),List.drop_of_length_le (by omega),List.append_nil]
theorem SoJ.take {A:List Job} (h:SoJ A) (n:Nat):SoJ (A.take n):=List.Pairwise.sublist (List.take_sublist n A) h
theorem SoJ.drop {A:List Job} (h:SoJ A) (n:Nat):SoJ (A.drop n):=List.Pairwise.sublist (List.drop_sublist n A) h
theorem qts {x:Job} {B:List Job} {t:Nat} (hB:SoJ B) (ht:t≤B.length) (h1:t=0∨∃ y,B[t-1]?=some y∧x.spec.prio<y.spec.prio) (h2:t=B.length∨∃ y,B[t]?=some y∧y.spec.prio≤x.spec.prio):byPrio ([x]++B)=mvJ B t x:=by
 rw [qs2 (s:=0) (t:=t) (List.pairwise_singleton _ _) hB (Nat.zero_le _) ht (.inl rfl) (by
  rcases h1 with h | ⟨y,hy,h⟩
  ·exact .inr (.inl h)
  ·exact .inr (.inr ⟨x,y,rfl,hy,h⟩))]
 rw [List.take_zero,List.nil_append,q5m (hB.take t),List.drop_zero,q5m]
 ·rfl
 ·rw [SoJ,List.singleton_append,List.pairwise_cons]
  refine ⟨fun a ha=>?_,hB.drop t⟩
  rcases h2 with h | ⟨y,hy,h⟩
  ·rw [List.drop_of_length_le (by omega)] at ha;cases ha
  ·have:=(qh2 hB hy).2 a ha
   omega
theorem qy0 {x:Job} {A:List Job} {s:Nat} (hA:SoJ A) (hs:s≤A.length) (h1:s=0∨∃ y,A[s-1]?=some y∧x.spec.prio≤y.spec.prio) (h2:s=A.length∨∃ y,A[s]?=some y∧y.spec.prio<x.spec.prio):byPrio (A++[x])=mvJ A s x:=by
 rw [qs2 (s:=s) (t:=1) hA (List.pairwise_singleton _ _) hs (by simp) (.inr (.inl rfl)) (by
  rcases h2 with h | ⟨y,hy,h⟩
  ·exact .inl h
  ·exact .inr (.inr ⟨y,x,hy,rfl,h⟩))]
 simp only [List.take_succ_cons,List.take_zero,List.drop_succ_cons,List.drop_zero,List.append_nil]
 rw [q5m (hA.drop s),q5m]
 ·unfold mvJ;rw [List.append_assoc];rfl
 ·rw [SoJ,List.pairwise_append]
  refine ⟨hA.take s,List.pairwise_singleton _ _,fun a ha b hb=>?_⟩
  rw [List.mem_singleton] at hb
  subst hb
  rcases h1 with h | ⟨y,hy,h⟩
  ·subst h;rw [List.take_zero] at ha;cases ha
  ·by_cases hs0:s=0
   ·subst hs0;rw [List.take_zero] at ha;cases ha
   ·have:=(qh2 hA hy).1 a (by rw [show s-1+1=s by omega];exact ha)
    omega
end Go.Av
namespace Go.Av
open Go.Proofs
theorem q5v (a b:Job) (H:qf):AC Tryz.prog 232 [.agg (qx a),.agg (qx b)] H (Ret (.int .i64 (qg9 b.spec.prio a.spec.prio)) H):=by
 refine AC.body (N:=12) [.tmp 4] Tryz.func232 rfl rfl rfl (Nat.le_of_ble_eq_true rfl) fun B hB=>?_
 refine Z4g ?_
 refine Z4f ?_
 refine Z4 ?_
 refine Z5x ?_
 refine Z2 ?_
 refine Z2y ?_
 refine Z30 ?_
 refine Z2y ?_
 refine Z30 ?_
 refine Zdw ?_
 refine Z40 ?_
 exact Z20
theorem qp4 (a b:Int):decide (qg9 a b<0)=decide (a<b):=by
 unfold qg9
 rw [decide_eq_decide]
 split
 ·simp_all
 ·split
  ·simp;omega
  ·simp;omega
def qfo (l:List Job) (i j:Nat) (x:Job):List Job:=((byPrio (l.take i)).take j++x :: (byPrio (l.take i)).drop j)++l.drop (i+1)
theorem q11u {l:List Job} {i j:Nat} {x:Job} (hi:i<l.length) (hj:j≤i):(qfo l i j x).length=l.length:=by
 unfold qfo
 simp [q24]
 omega
theorem qzd {l:List Job} {i j:Nat} {x:Job} (hi:i<l.length) (hj:j≤i):(qfo l i j x)[j]?=some x:=by
 unfold qfo
 have h1:((byPrio (l.take i)).take j).length=j:=by rw [List.length_take,q24,List.length_take];omega
 rw [List.append_assoc,List.getElem?_append_right (by omega),h1,Nat.sub_self]
 rfl
theorem qxu {l:List Job} {i j:Nat} {x y:Job} (hi:i<l.length) (hj:j<i) (hy:(byPrio (l.take i))[j]?=some y):(qfo l i (j+1) x)[j]?=some y:=by
 unfold qfo
 rw [List.append_assoc,List.getElem?_append_left (by rw [List.length_take,q24,List.length_take];omega),List.getElem?_take,if_pos (by omega)]
 exact hy
theorem qym {l:List Job} {i j:Nat} {x y:Job} (hi:i<l.length) (hj:j<i) (hy:(byPrio (l.take i))[j]?=some y):((qfo l i (j+1) x).set (j+1) y).set j x=qfo l i j x:=by
 have hA:(byPrio (l.take i)).length=i:=by rw [q24,List.length_take];omega
 unfold qfo
 generalize byPrio (l.take i)=A at hy hA ⊢
 have h1:A.take (j+1)=A.take j++[y]:=ql hy
 have h2:A.drop j=y :: A.drop (j+1):=by
  obtain ⟨hl,he⟩:=List.getElem?_eq_some_iff.1 hy
  rw [List.drop_eq_getElem_cons hl,he]
 have l1:(A.take j).length=j:=by rw [List.length_take];omega
 rw [h1,h2]
 simp only [List.append_assoc,List.cons_append,List.nil_append]
 rw [List.set_append_right _ _ (by omega),l1,show j+1-j=1 by omega,List.set_append_right _ _ (by omega),l1,Nat.sub_self]
 rfl
theorem quv {l:List Job} {i:Nat} {x:Job} (hx:l[i]?=some x):qfo l i i x=byPrio (l.take i)++l.drop i:=by
 obtain ⟨hl,he⟩:=List.getElem?_eq_some_iff.1 hx
 have hA:(byPrio (l.take i)).length=i:=by rw [q24,List.length_take];omega
 unfold qfo
 rw [List.take_of_length_le (by omega),List.drop_of_length_le (by omega),List.drop_eq_getElem_cons hl,he,List.append_assoc]
 rfl
theorem qtm {l:List Job} {i j:Nat} {x:Job} (hx:l[i]?=some x) (hj:j≤i) (h1:∀ a∈(byPrio (l.take i)).drop j,a.spec.prio<x.spec.prio) (h2:j=0∨∃ y,(byPrio (l.take i))[j-1]?=some y∧¬ y.spec.prio<x.spec.prio):qfo l i j x=byPrio (l.take (i+1))++l.drop (i+1):=by
 have hs:=q1v (l.take i)
 rw [ql hx,qeq]
 unfold qfo
 rw [qru (j:=j) ?_ h1]
 intro a ha
 rcases h2 with rfl | ⟨y,hy,hyx⟩
 ·simp at ha
 ·obtain ⟨k,hk⟩:=List.mem_iff_getElem?.1 ha
  rw [List.getElem?_take] at hk
  split at hk
  ·rename_i hkj
   obtain ⟨k1,k2⟩:=List.getElem?_eq_some_iff.1 hk
   obtain ⟨y1,y2⟩:=List.getElem?_eq_some_iff.1 hy
   rcases Nat.lt_or_eq_of_le (show k≤j-1 by omega) with h | h
   ·have:=List.pairwise_iff_getElem.1 hs k (j-1) k1 y1 h
    rw [k2,y2] at this
    omega
   ·subst h
    rw [hk] at hy
    cases hy
    omega
  ·cases hk
theorem qtk (l:List Job):byPrio (l.take 1)++l.drop 1=l:=by cases l<;>rfl
theorem q11l {P:Program} {env:Env} {H:qf} {B:Base} {rs:List ResultVar} {vs:List AV} {v:AV} {args:List AV} {M:qf} (hB:Begun B H args) (h:ResVs P env M rs vs) (hv:qwp vs=v) (hb:v.bel H.length=true) (hl:M.length=H.length) (hM:HBel H.length M):Ends P B rs (Ret v M) .ret env M:=by
 have:=q3v (L:=[]) (M:=M) (P:=P) (env:=env) (rs:=rs) (vs:=vs) hB (by rw [List.append_nil];exact h) hv hb hl hM
 rwa [List.append_nil] at this
theorem AC.rowset {P:Program} {f id:Nat} {args:List AV} {v:AV} {H:qf} {o o':AObj} (h:AC P f args (H.set id o) (Ret v ((H.set id o).set id o'))):AC P f args (H.set id o++[]) (Ret v (H.set id o'++[])):=by
 rw [List.append_nil,List.append_nil]
 rwa [List.set_set] at h
abbrev qj0:AV:=.fn (.func 232) [] []
set_option maxHeartbeats 0 in
theorem q102 (X l Y:List Job) (a b N id g:Nat) (H:qf) (ha:X.length=a) (hb:a+l.length=b) (hN:(X++(l++Y)).length=N) (hN1:N≤1000000) (hid:H[id]?=some ⟨g,13,(X++(l++Y)).map qx⟩):AC Tryz.prog 261 [.sl id g 0 N N,.int .i64 (a:Int),.int .i64 (b:Int),qj0] H (Ret (.tup []) (H.set id ⟨g,13,(X++(byPrio l++Y)).map qx⟩)):=by
 have hidl:id<H.length:=(List.getElem?_eq_some_iff.1 hid).1
 have hN2:a+l.length+Y.length=N:=by simp at hN;omega
 refine AC.body (N:=53) [] Tryz.func261 rfl rfl rfl (Nat.le_of_ble_eq_true rfl) fun B hB=>?_
 refine Z11 ?_
 refine ao1 (by decide) (q1x (r:=((a+1:Nat):Int)) rfl rfl (qc (by omega) (by omega))) ?_
 refine Z8l ?_
 refine qm (G:=Nat) (fun i=>1≤i∧(i≤l.length∨i=1)) (fun i=>[(0,.sl id g 0 N N),(1,.int .i64 (a:Int)),(2,.int .i64 (b:Int)),(3,qj0),(8,.int .i64 ((a+i:Nat):Int))]) (fun i=>H.set id ⟨g,13,(X++((byPrio (l.take i)++l.drop i)++Y)).map qx⟩++[]) (fun i=>l.length-i) 1 ⟨Nat.le_refl _,.inr rfl⟩ Y8 (.inl (by rw [qtk,q3k hid])) ?_
 rintro i ⟨hi1,hi⟩
 refine Z2o ?_
 refine qa rfl (fun hc=>?_) (fun hc=>?_)
 ·have hlt:i<l.length:=by simp at hc;omega
  obtain ⟨x,hx,hxl⟩:=qr hlt
  have hA:(byPrio (l.take i)).length=i:=by rw [q24,List.length_take];omega
  clear hc
  refine Z11 ?_
  refine Z8l ?_
  refine qm (G:=Nat) (fun j=>j≤i∧∀ a∈(byPrio (l.take i)).drop j,a.spec.prio<x.spec.prio) (fun j=>[(0,.sl id g 0 N N),(1,.int .i64 (a:Int)),(2,.int .i64 (b:Int)),(3,qj0),(8,.int .i64 ((a+i:Nat):Int)),(9,.int .i64 ((a+j:Nat):Int))]) (fun j=>H.set id ⟨g,13,(X++(qfo l i j x++Y)).map qx⟩++[]) (fun j=>j) i ⟨Nat.le_refl _,fun a ha=>by rw [List.drop_of_length_le (by omega)] at ha;cases ha⟩ Y8 (.inl (by rw [quv hx])) ?_
  rintro j ⟨hj,hbig⟩
  have hM:(H.set id ⟨g,13,(X++(qfo l i j x++Y)).map qx⟩)[id]?=some ⟨g,13,(X++(qfo l i j x++Y)).map qx⟩:=List.getElem?_set_self hidl
  have hrx0:(X++(qfo l i j x++Y))[a+j]?=some x:=by rw [← ha];exact q6u (qzd (x:=x) hlt hj)
  have hrx:=qk qx hrx0
  by_cases h0:j=0
  ·subst h0
   refine Z1 ?_
   refine q20 34 (.bool false) ?_ ?_
   ·refine Z1g ?_
    refine Z7c ?_
    refine Z1i ?_
    refine Zlp ?_
    refine Z7l ?_
    refine q13 (g:=21) rfl (fun hg3=>?_) (fun hg3=>?_)
    ·exfalso;(simp at hg3;done)
    ·refine Zko ?_
     refine Zkp ?_
     refine Zkq ?_
     refine Zdl ?_
     refine Zdm ?_
     refine Zdn ?_
     refine Zdo ?_
     refine Zdp ?_
     refine Zdq ?_
     refine Zdr ?_
     refine Zds ?_
     refine Zdt ?_
     refine Zlq ?_
     exact q1y Y1q Y1b (Out.mk (by rfl) Yb)
   refine Z1 ?_
   refine qa rfl (fun hc=>?_) (fun hc=>?_)
   ·cases hc
   refine Z11 ?_
   refine Zlr ?_
   refine Za ?_
   exact ⟨i+1,by omega,⟨by omega,.inl (by omega)⟩,Y8,.inl (by rw [qtm hx hj hbig (.inl rfl)])⟩
  ·obtain ⟨j,rfl⟩:∃ k,j=k+1:=⟨j-1,by omega⟩
   obtain ⟨y,hy,hyl⟩:=qr (l:=byPrio (l.take i)) (k:=j) (by omega)
   have hry0:(X++(qfo l i (j+1) x++Y))[a+j]?=some y:=by rw [← ha];exact q6u (qxu (x:=x) hlt (by omega) hy)
   have hry:=qk qx hry0
   have hml:=q11u (x:=x) hlt hj
   refine Z1 ?_
   refine q20 34 (.bool (decide (y.spec.prio<x.spec.prio))) ?_ ?_
   ·refine Zls ?_
    refine Zlt ?_
    refine Z7c ?_
    refine Z1i ?_
    refine Zlp ?_
    refine Z7l ?_
    refine q13 (g:=21) rfl (fun hg3=>?_) (fun hg3=>?_)
    ·refine q2l (g:=21) 4 rfl Y1q (by decide) rfl rfl (fun _=>qi (v:=.fn _ _ _) rfl) ?_
     refine q2l (g:=21) 5 rfl Y1q (by decide) rfl rfl (fun _=>qi (v:=.sl _ _ _ _ _) rfl) ?_
     refine q2l (g:=21) 6 rfl Y1q (by decide) rfl rfl (fun _=>qi (v:=.int _ _) rfl) ?_
     refine q31 (g:=21) 7 rfl Y1q (by decide) rfl rfl (fun G=>q12 rfl (lkF hM) rfl rfl rfl (by omega)) ?_
     refine q31 (g:=21) 8 rfl Y1q (by decide) rfl rfl (fun G=>q1q rfl (lkF hM) rfl (qdw hrx) rfl) ?_
     refine q2l (g:=21) 9 rfl Y1q (by decide) rfl rfl (fun _=>qi (v:=.sl _ _ _ _ _) rfl) ?_
     refine Zdd ?_
     refine q2l (g:=21) 11 rfl Y1q (by decide) rfl rfl (fun _=>q30 (r:=((a+j:Nat):Int)) rfl rfl Y2) ?_
     refine q31 (g:=21) 12 rfl Y1q (by decide) rfl rfl (fun G=>q12 rfl (lkF hM) rfl rfl rfl (by omega)) ?_
     refine q31 (g:=21) 13 rfl Y1q (by decide) rfl rfl (fun G=>q1q rfl (lkF hM) rfl (qdw hry) rfl) ?_
     refine qbg (g:=21) 14 rfl Y1q (by decide) rfl rfl (fun _=>V2.callv (q5v x y _) rfl rfl) ?_
     refine q2l (g:=21) 15 rfl Y1q (by decide) rfl rfl (fun _=>qwh rfl rfl) ?_
     refine aq0 16 rfl Y1q (by decide) (fun _=>q1n (v:=.bool _) rfl rfl) ?_
     exact q1y Y1q Y1b (Out.mk (by (refine congrArg AV.bool ?_;((rw [qp4];try rfl)))) Yb)
    ·refine Zko ?_
     refine Zkp ?_
     refine Zkq ?_
     refine Zdl ?_
     refine Zdm ?_
     refine Zdn ?_
     refine Zdo ?_
     refine Zdp ?_
     refine Zdq ?_
     refine Zdr ?_
     refine Zds ?_
     refine Zdt ?_
     refine Zlq ?_
     exact q1y Y1q Y1b (Out.mk (by (refine congrArg AV.bool ?_;((exfalso;simp at hg3;omega)))) Yb)
   refine Z1 ?_
   refine qa rfl (fun hc=>?_) (fun hc=>?_)
   ·have hyx:y.spec.prio<x.spec.prio:=by simpa using hc
    clear hc
    have e3:((X++(qfo l i (j+1) x++Y)).set (a+(j+1)) y).set (a+j) x=X++(qfo l i j x++Y):=by
     rw [← ha,q8m y (by omega),q8m x (by rw [List.length_set];omega),qym hlt (by omega) hy]
    generalize X++(qfo l i (j+1) x++Y)=L at *
    have hM2:((H.set id ⟨g,13,L.map qx⟩).set id ⟨g,13,(L.map qx).set (0+(a+(j+1))) (qx y)⟩)[id]?=some ⟨g,13,(L.map qx).set (0+(a+(j+1))) (qx y)⟩:=List.getElem?_set_self (by simpa using hidl)
    have hry2:((L.map qx).set (0+(a+(j+1))) (qx y))[0+(a+j)]?=some (qx y):=by rw [Nat.zero_add,Nat.zero_add,List.getElem?_set_ne (by omega)];exact hry
    refine Z1 ?_
    refine Zlu ?_
    refine Zlt ?_
    refine Zbw ?_
    refine Zbx ?_
    refine Zby ?_
    refine aq0 4 rfl Y1q (by decide) (fun _=>q30 (r:=((a+j:Nat):Int)) rfl rfl Y2) ?_
    refine Zlw ?_
    refine aq0 7 rfl Y1q (by decide) (fun _=>q30 (r:=((a+j:Nat):Int)) rfl rfl Y2) ?_
    refine Zlx ?_
    refine aqp 9 rfl Y1q (by decide) (fun G=>q1q rfl (lkF hM) rfl (qdw hry) rfl) ?_
    refine Zly ?_
    refine Zlz ?_
    refine Zm0 ?_
    refine aqp 13 rfl Y1q (by decide) (fun G=>q1q rfl (lkF hM) rfl (qdw hrx) rfl) ?_
    refine Zm1 ?_
    refine aqs 15 rfl Y1q Y1b Y1w (q1b (sz:=13) (v:=.agg (qx y)) (r':=qx y) rfl hM rfl (qdw hrx) rfl rfl rfl (Nat.le_of_ble_eq_true rfl) rfl) ?_
    refine Zm2 ?_
    refine aqs 17 rfl Y1q Yw Y1w (q1b (sz:=13) (v:=.agg (qx x)) (r':=qx x) rfl hM2 rfl hry2 rfl rfl rfl (Nat.le_of_ble_eq_true rfl) rfl) ?_
    refine Z7d ?_
    try dsimp only [put]
    refine Z11 ?_
    refine ao1 (by decide) (q30 (r:=((a+j:Nat):Int)) rfl rfl Y2) ?_
    refine Za ?_
    refine ⟨j,by omega,⟨by omega,fun a ha=>?_⟩,Y8,.inl ?_⟩
    ·obtain ⟨h1,h2⟩:=List.getElem?_eq_some_iff.1 hy
     rw [List.drop_eq_getElem_cons h1,h2] at ha
     rcases List.mem_cons.1 ha with rfl | ha
     ·exact hyx
     ·exact hbig a ha
    ·rw [Nat.zero_add,Nat.zero_add,← List.map_set,← List.map_set,e3,List.set_set,List.set_set]
   ·have hyx:¬ y.spec.prio<x.spec.prio:=by simpa using hc
    clear hc
    refine Z11 ?_
    refine Zlr ?_
    refine Za ?_
    exact ⟨i+1,by omega,⟨by omega,.inl (by omega)⟩,Y8,.inl (by rw [qtm hx hj hbig (.inr ⟨y,by rw [Nat.add_sub_cancel];exact hy,hyx⟩)])⟩
 ·have hge:l.length≤i:=by simp at hc;omega
  rw [show byPrio (l.take i)++l.drop i=byPrio l by rw [List.take_of_length_le hge,List.drop_of_length_le hge,List.append_nil]]
  refine Z1 ?_
  exact q3v hB .nil rfl rfl (by simp) (hB.heap.set _ ⟨g,13,(X++(byPrio l++Y)).map qx⟩ (q2b _ _))
set_option maxHeartbeats 0 in
theorem q10r (X U M V S:List Job) (a b n N id g:Nat) (H:qf) (ha:X.length=a) (hu:U.length=n) (hv:V.length=n) (hb:a+n+M.length=b) (hN:(X++(U++(M++(V++S)))).length=N) (hN1:N≤1000000) (hid:H[id]?=some ⟨g,13,(X++(U++(M++(V++S)))).map qx⟩):AC Tryz.prog 273 [.sl id g 0 N N,.int .i64 (a:Int),.int .i64 (b:Int),.int .i64 (n:Int),qj0] H (Ret (.tup []) (H.set id ⟨g,13,(X++(V++(M++(U++S)))).map qx⟩)):=by
 have hidl:id<H.length:=(List.getElem?_eq_some_iff.1 hid).1
 have hN2:a+n+M.length+n+S.length=N:=by simp at hN;omega
 refine AC.body (N:=38) [] Tryz.func273 rfl rfl rfl (Nat.le_of_ble_eq_true rfl) fun B hB=>?_
 refine Z1e ?_
 refine qm (G:=Nat) (fun i=>i≤n) (fun i=>[(0,.sl id g 0 N N),(1,.int .i64 (a:Int)),(2,.int .i64 (b:Int)),(3,.int .i64 (n:Int)),(10,.int .i64 (i:Int))]) (fun i=>H.set id ⟨g,13,(X++(hyb U V i++(M++(hyb V U i++S)))).map qx⟩++[]) (fun i=>n-i) 0 (Nat.zero_le _) Y8 (.inl (by rw [qpe,qpe,q3k hid])) ?_
 intro i hi
 refine Z2o ?_
 refine qa rfl (fun hc=>?_) (fun hc=>?_)
 ·have hlt:i<n:=by simp at hc;omega
  obtain ⟨u,hu1,_⟩:=qr (l:=U) (k:=i) (by omega)
  obtain ⟨v,hv1,_⟩:=qr (l:=V) (k:=i) (by omega)
  clear hc
  have l1:=qnr (U:=U) (V:=V) (i:=i) (by omega) (by omega)
  have l2:=qnr (U:=V) (V:=U) (i:=i) (by omega) (by omega)
  have g1:(X++(hyb U V i++(M++(hyb V U i++S))))[a+i]?=some u:=by rw [← ha];exact q6u (que (by omega) hu1)
  have ax:∀ U' V':List Job,X++(U'++(M++(V'++S)))=(X++(U'++M))++(V'++S):=fun U' V'=>by simp only [List.append_assoc]
  have bx:∀ U':List Job,U'.length=n→b=(X++(U'++M)).length:=fun U' h=>by simp only [List.length_append];omega
  have g2:(X++(hyb U V i++(M++(hyb V U i++S))))[b+i]?=some v:=by
   rw [ax,bx (hyb U V i) (by omega)]
   exact q6u (que (by omega) hv1)
  have e3:((X++(hyb U V i++(M++(hyb V U i++S)))).set (a+i) v).set (b+i) u=X++(hyb U V (i+1)++(M++(hyb V U (i+1)++S))):=by
   rw [← ha,q8m v (by omega),qrr (by omega) hv1,ax,bx (hyb U V (i+1)) (by rw [qnr (by omega) (by omega)];omega),q8m u (by omega),qrr (by omega) hu1,← ax]
  generalize X++(hyb U V i++(M++(hyb V U i++S)))=L at *
  have hM:(H.set id ⟨g,13,L.map qx⟩)[id]?=some ⟨g,13,L.map qx⟩:=List.getElem?_set_self hidl
  have hr1:=qk qx g1
  have hr2:=qk qx g2
  have hM2:((H.set id ⟨g,13,L.map qx⟩).set id ⟨g,13,(L.map qx).set (0+(a+i)) (qx v)⟩)[id]?=some ⟨g,13,(L.map qx).set (0+(a+i)) (qx v)⟩:=List.getElem?_set_self (by simpa using hidl)
  have hr3:((L.map qx).set (0+(a+i)) (qx v))[0+(b+i)]?=some (qx v):=by rw [Nat.zero_add,Nat.zero_add,List.getElem?_set_ne (by omega)];exact hr2
  refine Z1 ?_
  refine q3i mixed (some 21) 0 ?_
  refine Zlt ?_
  refine Zbw ?_
  refine Z8z ?_
  refine aq0 3 rfl Y1q (by decide) (fun _=>q1x (r:=((a+i:Nat):Int)) rfl rfl (qc (by omega) (by omega))) ?_
  refine aq0 4 rfl Y1q (by decide) (fun _=>qi (v:=.sl _ _ _ _ _) rfl) ?_
  refine Z1l ?_
  refine Zlv ?_
  refine aq0 7 rfl Y1q (by decide) (fun _=>q1x (r:=((b+i:Nat):Int)) rfl rfl (qc (by omega) (by omega))) ?_
  refine aq0 8 rfl Y1q (by decide) (fun _=>qi (v:=.sl _ _ _ _ _) rfl) ?_
  refine Zjf ?_
  refine Zm3 ?_
  refine aq0 11 rfl Y1q (by decide) (fun _=>q1x (r:=((b+i:Nat):Int)) rfl rfl (qc (by omega) (by omega))) ?_
  refine aqp 12 rfl Y1q (by decide) (fun G=>q12 rfl (lkF hM) rfl rfl rfl (by omega)) ?_
  refine aqp 13 rfl Y1q (by decide) (fun G=>q1q rfl (lkF hM) rfl (qdw hr2) rfl) ?_
  refine aq0 14 rfl Y1q (by decide) (fun _=>qi (v:=.sl _ _ _ _ _) rfl) ?_
  refine aq0 15 rfl Y1q (by decide) (fun _=>qi (v:=.int _ _) rfl) ?_
  refine aq0 16 rfl Y1q (by decide) (fun _=>qi (v:=.int _ _) rfl) ?_
  refine aq0 17 rfl Y1q (by decide) (fun _=>q1x (r:=((a+i:Nat):Int)) rfl rfl (qc (by omega) (by omega))) ?_
  refine qss [19,18] 18 rfl Y1q (by decide) (fun G=>q12 rfl (lkF hM) rfl rfl rfl (by omega)) ?_
  refine aqp 19 rfl Y1q (by decide) (fun G=>q1q rfl (lkF hM) rfl (qdw hr1) rfl) ?_
  refine aqp 20 rfl Y1q (by decide) (fun G=>q12 rfl (lkF hM) rfl rfl rfl (by omega)) ?_
  refine aqs 21 rfl Y1q Y1b Y1w (q1b (sz:=13) (v:=.agg (qx v)) (r':=qx v) rfl hM rfl (qdw hr1) rfl rfl rfl (Nat.le_of_ble_eq_true rfl) rfl) ?_
  refine aqs 22 rfl Y1q Yw Y1k (V1.toV2 (q12 rfl (lkF hM2) rfl rfl rfl (by omega))) ?_
  refine aqs 23 rfl Y1q Yw Y1w (q1b (sz:=13) (v:=.agg (qx u)) (r':=qx u) rfl hM2 rfl hr3 rfl rfl rfl (Nat.le_of_ble_eq_true rfl) rfl) ?_
  refine Z7d ?_
  try dsimp only [put]
  refine Z11 ?_
  refine Zm4 ?_
  refine Za ?_
  exact ⟨i+1,by omega,by omega,Y8,.inl Y7⟩
 ·have:i=n:=by simp at hc;omega
  subst this
  rw [show hyb U V i=V by rw [← hu];exact qsi (by omega),show hyb V U i=U by rw [← hv];exact qsi (by omega)]
  refine Z1 ?_
  exact q3v hB .nil rfl rfl (by simp) (hB.heap.set _ ⟨g,13,(X++(V++(M++(U++S)))).map qx⟩ (q2b _ _))
structure GRot where
 p:List Job
 u:List Job
 v:List Job
 s:List Job
set_option maxHeartbeats 0 in
theorem rotJ (X U V S:List Job) (a m b N id g:Nat) (H:qf) (ha:X.length=a) (hm:a+U.length=m) (hb:m+V.length=b) (hu:0<U.length) (hv:0<V.length) (hN:(X++(U++(V++S))).length=N) (hN1:N≤1000000) (hid:H[id]?=some ⟨g,13,(X++(U++(V++S))).map qx⟩):AC Tryz.prog 268 [.sl id g 0 N N,.int .i64 (a:Int),.int .i64 (m:Int),.int .i64 (b:Int),qj0] H (Ret (.tup []) (H.set id ⟨g,13,(X++(V++(U++S))).map qx⟩)):=by
 have hidl:id<H.length:=(List.getElem?_eq_some_iff.1 hid).1
 have hN2:a+U.length+V.length+S.length=N:=by simp at hN;omega
 refine AC.body (N:=58) [] Tryz.func268 rfl rfl rfl (Nat.le_of_ble_eq_true rfl) fun B hB=>?_
 refine Z2k ?_
 refine ao1 (by decide) (q30 (r:=((U.length:Nat):Int)) rfl rfl (by rw [show (m:Int)-(a:Int)=((U.length:Nat):Int) by omega];exact qc (by omega) (by omega))) ?_
 refine Z4 ?_
 refine Z2k ?_
 refine ao1 (by decide) (q30 (r:=((V.length:Nat):Int)) rfl rfl (by rw [show (b:Int)-(m:Int)=((V.length:Nat):Int) by omega];exact qc (by omega) (by omega))) ?_
 refine Z8l ?_
 refine qm (G:=GRot) (fun q=>q.p.length+q.u.length=m∧m+q.v.length+q.s.length=N∧0<q.u.length∧0<q.v.length∧q.p++(q.v++(q.u++q.s))=X++(V++(U++S))) (fun q=>[(0,.sl id g 0 N N),(2,.int .i64 (m:Int)),(4,qj0),(10,.int .i64 ((q.u.length:Nat):Int)),(11,.int .i64 ((q.v.length:Nat):Int))]) (fun q=>H.set id ⟨g,13,(q.p++(q.u++(q.v++q.s))).map qx⟩++[]) (fun q=>q.u.length+q.v.length) ⟨X,U,V,S⟩ ⟨by simp only;omega,by simp only;omega,hu,hv,rfl⟩ Y8 (.inl (by rw [q3k hid])) ?_
 rintro ⟨p,u,v,s⟩ ⟨i1,i2,i3,i4,i5⟩
 simp only at i1 i2 i3 i4 i5 ⊢
 have hM:∀ L:List Job,(H.set id ⟨g,13,L.map qx⟩)[id]?=some ⟨g,13,L.map qx⟩:=fun L=>List.getElem?_set_self hidl
 refine Z2k ?_
 refine Z6u ?_
 refine qa rfl (fun hc=>?_) (fun hc=>?_)
 ·have hne:u.length≠v.length:=by simp at hc;omega
  clear hc
  refine Z2k ?_
  refine Z2q ?_
  refine qa rfl (fun hc=>?_) (fun hc=>?_)
  ·have hgt:v.length<u.length:=by simp at hc;omega
   clear hc
   have eu:u.take v.length++u.drop v.length=u:=List.take_append_drop ..
   have lu1:(u.take v.length).length=v.length:=by rw [List.length_take];omega
   have lu2:(u.drop v.length).length=u.length-v.length:=List.length_drop ..
   have e1:p++(u++(v++s))=p++(u.take v.length++(u.drop v.length++(v++s))):=by rw [← List.append_assoc (u.take v.length),eu]
   have cs:=q10r p (u.take v.length) (u.drop v.length) v s p.length m v.length N id g (H.set id ⟨g,13,(p++(u++(v++s))).map qx⟩) rfl lu1 rfl (by omega) Yu hN1 (by rw [hM,e1])
   refine Zi6 ?_
   refine Zm5 ?_
   refine Z2r ?_
   refine Zm7 ?_
   refine Z2k ?_
   refine ao1 (by decide) (q30 (r:=(((u.drop v.length).length:Nat):Int)) rfl rfl (by rw [show (u.length:Int)-(v.length:Int)=(((u.drop v.length).length:Nat):Int) by omega];exact qc (by omega) (by omega))) ?_
   refine Za ?_
   refine ⟨⟨p++v,u.drop v.length,u.take v.length,s⟩,by simp only;omega,⟨by simp only [List.length_append];omega,by simp only;omega,by simp only;omega,by simp only;omega,?_⟩,by simp only [lu1];exact Y8,.inl ?_⟩
   ·simp only
    rw [← i5,List.append_assoc,← List.append_assoc (u.take v.length),eu]
   ·simp only [List.append_assoc]
  ·have hgt:u.length<v.length:=by simp at hc;omega
   clear hc
   have ev:v.take (v.length-u.length)++v.drop (v.length-u.length)=v:=List.take_append_drop ..
   have lv1:(v.take (v.length-u.length)).length=v.length-u.length:=by rw [List.length_take];omega
   have lv2:(v.drop (v.length-u.length)).length=u.length:=by rw [List.length_drop];omega
   have e1:p++(u++(v++s))=p++(u++(v.take (v.length-u.length)++(v.drop (v.length-u.length)++s))):=by rw [← List.append_assoc (v.take (v.length-u.length)),ev]
   have cs:=q10r p u (v.take (v.length-u.length)) (v.drop (v.length-u.length)) s p.length (m+(v.length-u.length)) u.length N id g (H.set id ⟨g,13,(p++(u++(v++s))).map qx⟩) rfl rfl lv2 (by omega) Yu hN1 (by rw [hM,e1])
   refine Zi6 ?_
   refine Zm5 ?_
   refine Z2r ?_
   refine ao1 (by decide) (q1x (r:=((m+v.length:Nat):Int)) rfl rfl (qc (by omega) (by omega))) ?_
   refine Z8 ?_
   refine ao1 (by decide) (q30 (r:=((m+(v.length-u.length):Nat):Int)) rfl rfl (by rw [show ((m+v.length:Nat):Int)-(u.length:Int)=((m+(v.length-u.length):Nat):Int) by omega];exact qc (by omega) (by omega))) ?_
   refine Z8 ?_
   refine Zm7 ?_
   refine Z2k ?_
   refine ao1 (by decide) (q30 (r:=(((v.take (v.length-u.length)).length:Nat):Int)) rfl rfl (by rw [show (v.length:Int)-(u.length:Int)=(((v.take (v.length-u.length)).length:Nat):Int) by omega];exact qc (by omega) (by omega))) ?_
   refine Za ?_
   refine ⟨⟨p,v.drop (v.length-u.length),v.take (v.length-u.length),u++s⟩,by simp only;omega,⟨by simp only;omega,by simp only [List.length_append];omega,by simp only;omega,by simp only;omega,?_⟩,by simp only [lv2];exact Y8,.inl ?_⟩
   ·simp only
    rw [← i5,← List.append_assoc (v.take (v.length-u.length)),ev]
   ·simp only
 ·have heq:u.length=v.length:=by simp at hc;omega
  clear hc
  have cs:=q10r p u [] v s p.length m u.length N id g (H.set id ⟨g,13,(p++(u++(v++s))).map qx⟩) rfl rfl heq.symm Y1x Yl hN1 (hM _)
  rw [List.nil_append,i5] at cs
  refine Zi6 ?_
  refine Zm5 ?_
  refine Z2r ?_
  refine Zm7 ?_
  exact q3v hB .nil rfl rfl (by simp) (hB.heap.set _ ⟨g,13,(X++(V++(U++S))).map qx⟩ (q2b _ _))
structure U1 where
theorem q13m (n:Nat):((n:Nat):Int).fdiv (2 ^ min (1:Int).toNat IntKind.u64.bits)=((n / 2:Nat):Int):=by
 rw [show ((2:Int) ^ min (1:Int).toNat IntKind.u64.bits)=((2:Nat):Int) from rfl,Int.fdiv_eq_ediv_of_nonneg _ (by omega)]
 exact (Int.natCast_ediv _ _).symm
structure GBin where
 s:Nat
 r:Nat
theorem qvg {H:qf} {id g p q:Nat} {L:List Job} {x y:Job} (hidl:id<H.length) (h1:L[p]?=some x) (h2:L[q]?=some y) (hne:p≠q):(H.set id ⟨g,13,L.map qx⟩)[id]?=some ⟨g,13,L.map qx⟩∧(L.map qx)[p]?=some (qx x)∧(L.map qx)[q]?=some (qx y)∧((H.set id ⟨g,13,L.map qx⟩).set id ⟨g,13,(L.map qx).set (0+p) (qx y)⟩)[id]?=some ⟨g,13,(L.map qx).set (0+p) (qx y)⟩∧((L.map qx).set (0+p) (qx y))[0+q]?=some (qx y) :=
 ⟨List.getElem?_set_self hidl,qk qx h1,qk qx h2,List.getElem?_set_self (by simpa using hidl),by rw [Nat.zero_add,Nat.zero_add,List.getElem?_set_ne hne];exact qk qx h2⟩
set_option maxHeartbeats 0 in
theorem qkf (n:Nat):∀ (X A C Y:List Job) (a m b N id g:Nat) (H:qf),A.length+C.length≤n→0<A.length→0<C.length→SoJ A→SoJ C→X.length=a→a+A.length=m→m+C.length=b→(X++(A++(C++Y))).length=N→N≤1000000→H[id]?=some ⟨g,13,(X++(A++(C++Y))).map qx⟩→AC Tryz.prog 262 [.sl id g 0 N N,.int .i64 (a:Int),.int .i64 (m:Int),.int .i64 (b:Int),qj0] H (Ret (.tup []) (H.set id ⟨g,13,(X++(byPrio (A++C)++Y)).map qx⟩)):=by
 induction n with
 | zero=>intro X A C Y a m b N id g H h1 h2;omega
 | succ n ih =>
 intro X A C Y a m b N id g H hn hA0 hB0 hA hC ha hm hb hN hN1 hid
 have hidl:id<H.length:=(List.getElem?_eq_some_iff.1 hid).1
 have hN2:b+Y.length=N:=by simp at hN;omega
 have hLA:∀ (i:Nat) (x:Job),A[i]?=some x→(X++(A++(C++Y)))[a+i]?=some x:=fun i x h=>by rw [← ha];exact q6u h
 have hLB:∀ (i:Nat) (x:Job),C[i]?=some x→(X++(A++(C++Y)))[m+i]?=some x:=fun i x h=>by
  rw [← List.append_assoc,show m=(X++A).length by rw [List.length_append];omega];exact q6u h
 refine AC.body (N:=220) [] Tryz.func262 rfl rfl rfl (Nat.le_of_ble_eq_true rfl) fun B hB=>?_
 refine Z2k ?_
 refine ao1 (by decide) (q30 (r:=((A.length:Nat):Int)) rfl rfl (by rw [show (m:Int)-(a:Int)=((A.length:Nat):Int) by omega];exact qc (by omega) (by omega))) ?_
 refine Z16 ?_
 refine qa rfl (fun hc=>?_) (fun hc=>?_)
 ·have h1:A.length=1:=by simp at hc;omega
  obtain ⟨x,rfl⟩:∃ x,A=[x]:=List.length_eq_one_iff.1 h1
  clear hc
  have gx:=hLA 0 x rfl
  rw [Nat.add_zero] at gx
  have hrx:=qk qx gx
  refine Z1c ?_
  try dsimp only [List.cons_append,List.nil_append,List.length_cons,List.length_nil,Nat.reduceAdd]
  refine Z11 ?_
  refine Z8l ?_
  refine qm (G:=GBin) (fun q=>m≤q.s∧q.s≤q.r∧q.r≤b∧(q.s=m∨∃ y:Job,C[q.s-1-m]?=some y∧x.spec.prio<y.spec.prio)∧(q.r=b∨∃ y:Job,C[q.r-m]?=some y∧y.spec.prio≤x.spec.prio)) (fun q=>[(0,.sl id g 0 N N),(1,.int .i64 (a:Int)),(4,qj0),(10,.int .i64 (q.s:Int)),(11,.int .i64 (q.r:Int))]) (fun _=>H++[]) (fun q=>q.r-q.s) ⟨m,b⟩ ⟨Nat.le_refl _,by simp only;omega,Nat.le_refl _,.inl rfl,.inl rfl⟩ Y8 (Fit.refl _ _) ?_
  rintro ⟨s,r⟩ ⟨i0,i1,i2,i3,i4⟩
  simp only at i0 i1 i2 i3 i4 ⊢
  refine Z2o ?_
  refine qa rfl (fun hc=>?_) (fun hc=>?_)
  ·have hlt:s<r:=by simp at hc;omega
   clear hc
   obtain ⟨y,hy,_⟩:=qr (l:=C) (k:=(s+r) / 2-m) (by omega)
   have gy:=hLB _ y hy
   rw [show m+((s+r) / 2-m)=(s+r) / 2 by omega] at gy
   have hry:=qk qx gy
   refine Z2k ?_
   refine Zm8 ?_
   refine Zm9 ?_
   refine Zma ?_
   refine Zmb ?_
   refine Za ?_
   refine q20 50 (.bool (decide (x.spec.prio<y.spec.prio))) ?_ ?_
   ·refine Zls ?_
    refine Zlt ?_
    refine Zmc ?_
    refine Zmd ?_
    refine Z8z ?_
    refine Zme ?_
    refine aqp 4 rfl Y1q (by decide) (fun G=>q1q rfl (lkF hid) rfl (qdw hry) rfl) ?_
    refine Zlw ?_
    refine Zmf ?_
    refine aqp 8 rfl Y1q (by decide) (fun G=>q1q rfl (lkF hid) rfl (qdw hrx) rfl) ?_
    refine q9b 9 rfl Y1q (by decide) (fun _=>V2.callv (q5v y x _) rfl rfl) ?_
    refine Zmg ?_
    exact Zmh
   refine Z1 ?_
   refine qa rfl (fun hc=>?_) (fun hc=>?_)
   ·have hxy:x.spec.prio<y.spec.prio:=by simpa using hc
    clear hc
    refine Z6n ?_
    refine Zmi ?_
    refine Za ?_
    exact ⟨⟨(s+r) / 2+1,r⟩,by simp only;omega,⟨by simp only;omega,by simp only;omega,by simp only;omega,.inr ⟨y,by simp only;rw [show (s+r) / 2+1-1-m=(s+r) / 2-m by omega];exact hy,hxy⟩,i4⟩,Y8,.refl _ _⟩
   ·have hxy:y.spec.prio≤x.spec.prio:=by simp at hc;omega
    clear hc
    refine Z6n ?_
    refine Za ?_
    exact ⟨⟨s,(s+r) / 2⟩,by simp only;omega,⟨by simp only;omega,by simp only;omega,by simp only;omega,i3,.inr ⟨y,hy,hxy⟩⟩,Y8,.refl _ _⟩
  ·have hge:r=s:=by simp at hc;omega
   subst hge
   clear hc
   have hres:byPrio (x :: C)=mvJ C (r-m) x:=qts hC (by omega) (by
    rcases i3 with e | ⟨y,h1,h2⟩
    ·exact .inl (by omega)
    ·exact .inr ⟨y,by rw [show r-m-1=r-1-m by omega];exact h1,h2⟩) (by
    rcases i4 with e | ⟨y,h1,h2⟩
    ·exact .inl (by omega)
    ·exact .inr ⟨y,h1,h2⟩)
   rw [hres]
   clear i3 i4 hres
   refine Z11 ?_
   refine Z8l ?_
   refine qm (G:=Nat) (fun k=>k≤r-m) (fun k=>[(0,.sl id g 0 N N),(10,.int .i64 (r:Int)),(13,.int .i64 ((a+k:Nat):Int))]) (fun k=>H.set id ⟨g,13,(X++(mvJ C k x++Y)).map qx⟩++[]) (fun k=>r-m-k) 0 (Nat.zero_le _) Y8 (.inl (by rw [show mvJ C 0 x=[x]++C by unfold mvJ;simp,List.append_assoc,q3k hid])) ?_
   intro k hk
   refine Z2k ?_
   refine ao1 (by decide) (q30 (r:=((r-1:Nat):Int)) rfl rfl (by rw [show (r:Int)-1=((r-1:Nat):Int) by omega];exact qc (by omega) (by omega))) ?_
   refine Z1f ?_
   refine qa rfl (fun hc=>?_) (fun hc=>?_)
   ·have hlt:k<r-m:=by simp at hc;omega
    clear hc
    obtain ⟨y,hy,_⟩:=qr (l:=C) (k:=k) (by omega)
    have lm:=qzp (A:=C) (k:=k) (x:=x) (by omega)
    have e3:((X++(mvJ C k x++Y)).set (a+k) y).set (a+(k+1)) x=X++(mvJ C (k+1) x++Y):=by
     rw [← ha,q8m y (by omega),q8m x (by rw [List.length_set];omega),q14e hy]
    have g1:(X++(mvJ C k x++Y))[a+k]?=some x:=by rw [← ha];exact q6u (qvt (by omega))
    have g2:(X++(mvJ C k x++Y))[a+(k+1)]?=some y:=by rw [← ha];exact q6u (q10m hy)
    generalize X++(mvJ C k x++Y)=L at *
    obtain ⟨hM,hr1,hr2,hM2,hr3⟩:=qvg (H:=H) (g:=g) hidl g1 g2 (by omega)
    refine Z1 ?_
    refine Zlu ?_
    refine Zlt ?_
    refine Zbw ?_
    refine Zbx ?_
    refine Zby ?_
    refine aq0 4 rfl Y1q (by decide) (fun _=>q1x (r:=((a+(k+1):Nat):Int)) rfl rfl (qc (by omega) (by omega))) ?_
    refine Zlw ?_
    refine aq0 7 rfl Y1q (by decide) (fun _=>q1x (r:=((a+(k+1):Nat):Int)) rfl rfl (qc (by omega) (by omega))) ?_
    refine Zlx ?_
    refine Zmj ?_
    refine Zly ?_
    refine Zlz ?_
    refine Zm0 ?_
    refine Zmk ?_
    refine Zm1 ?_
    refine Zml ?_
    refine Zm2 ?_
    refine Zmm ?_
    refine Z7d ?_
    try dsimp only [put]
    refine Z11 ?_
    refine ao1 (by decide) (q1x (r:=((a+(k+1):Nat):Int)) rfl rfl (qc (by omega) (by omega))) ?_
    refine Za ?_
    exact ⟨k+1,by omega,by omega,Y8,.inl Y7⟩
   ·have:k=r-m:=by simp at hc;omega
    subst this
    refine Z1 ?_
    exact q3v hB .nil rfl rfl (by simp) (hB.heap.set _ ⟨g,13,(X++(mvJ C (r-m) x++Y)).map qx⟩ (q2b _ _))
 have hA1:A.length≠1:=by simp at hc;omega
 clear hc
 refine Z2k ?_
 refine ao1 (by decide) (q30 (r:=((C.length:Nat):Int)) rfl rfl (by rw [show (b:Int)-(m:Int)=((C.length:Nat):Int) by omega];exact qc (by omega) (by omega))) ?_
 refine Z16 ?_
 refine qa rfl (fun hc=>?_) (fun hc=>?_)
 ·have h1:C.length=1:=by simp at hc;omega
  obtain ⟨x,rfl⟩:∃ x,C=[x]:=List.length_eq_one_iff.1 h1
  clear hc
  have gx:=hLB 0 x rfl
  rw [Nat.add_zero] at gx
  have hrx:=qk qx gx
  refine Z1c ?_
  try dsimp only [List.length_cons,List.length_nil,Nat.reduceAdd]
  refine Z11 ?_
  refine Z8l ?_
  refine qm (G:=GBin) (fun q=>a≤q.s∧q.s≤q.r∧q.r≤m∧(q.s=a∨∃ y:Job,A[q.s-1-a]?=some y∧x.spec.prio≤y.spec.prio)∧(q.r=m∨∃ y:Job,A[q.r-a]?=some y∧y.spec.prio<x.spec.prio)) (fun q=>[(0,.sl id g 0 N N),(2,.int .i64 (m:Int)),(4,qj0),(14,.int .i64 (q.s:Int)),(15,.int .i64 (q.r:Int))]) (fun _=>H++[]) (fun q=>q.r-q.s) ⟨a,m⟩ ⟨Nat.le_refl _,by simp only;omega,Nat.le_refl _,.inl rfl,.inl rfl⟩ Y8 (Fit.refl _ _) ?_
  rintro ⟨s,r⟩ ⟨i0,i1,i2,i3,i4⟩
  simp only at i0 i1 i2 i3 i4 ⊢
  refine Z2o ?_
  refine qa rfl (fun hc=>?_) (fun hc=>?_)
  ·have hlt:s<r:=by simp at hc;omega
   clear hc
   obtain ⟨y,hy,_⟩:=qr (l:=A) (k:=(s+r) / 2-a) (by omega)
   have gy:=hLA _ y hy
   rw [show a+((s+r) / 2-a)=(s+r) / 2 by omega] at gy
   have hry:=qk qx gy
   refine Z2k ?_
   refine Zm8 ?_
   refine Zm9 ?_
   refine Zma ?_
   refine Zmb ?_
   refine Za ?_
   refine q20 103 (.bool (!decide (y.spec.prio<x.spec.prio))) ?_ ?_
   ·refine Zls ?_
    refine Zlt ?_
    refine Zmc ?_
    refine Zmd ?_
    refine Z8z ?_
    refine Zme ?_
    refine aqp 4 rfl Y1q (by decide) (fun G=>q1q rfl (lkF hid) rfl (qdw hrx) rfl) ?_
    refine Zlw ?_
    refine Zmf ?_
    refine aqp 8 rfl Y1q (by decide) (fun G=>q1q rfl (lkF hid) rfl (qdw hry) rfl) ?_
    refine q9b 9 rfl Y1q (by decide) (fun _=>V2.callv (q5v x y _) rfl rfl) ?_
    refine Zmg ?_
    refine aq0 11 rfl Y1q (by decide) (fun _=>qc1 rfl) ?_
    exact Zmh
   refine Z1 ?_
   refine qa rfl (fun hc=>?_) (fun hc=>?_)
   ·have hxy:x.spec.prio≤y.spec.prio:=by simp at hc;omega
    clear hc
    refine Z6n ?_
    refine Zmi ?_
    refine Za ?_
    exact ⟨⟨(s+r) / 2+1,r⟩,by simp only;omega,⟨by simp only;omega,by simp only;omega,by simp only;omega,.inr ⟨y,by simp only;rw [show (s+r) / 2+1-1-a=(s+r) / 2-a by omega];exact hy,hxy⟩,i4⟩,Y8,.refl _ _⟩
   ·have hxy:y.spec.prio<x.spec.prio:=by simp at hc;omega
    clear hc
    refine Z6n ?_
    refine Za ?_
    exact ⟨⟨s,(s+r) / 2⟩,by simp only;omega,⟨by simp only;omega,by simp only;omega,by simp only;omega,i3,.inr ⟨y,hy,hxy⟩⟩,Y8,.refl _ _⟩
  ·have hge:r=s:=by simp at hc;omega
   subst hge
   clear hc
   have hres:byPrio (A++[x])=mvJ A (r-a) x:=qy0 hA (by omega) (by
    rcases i3 with e | ⟨y,h1,h2⟩
    ·exact .inl (by omega)
    ·exact .inr ⟨y,by rw [show r-a-1=r-1-a by omega];exact h1,h2⟩) (by
    rcases i4 with e | ⟨y,h1,h2⟩
    ·exact .inl (by omega)
    ·exact .inr ⟨y,h1,h2⟩)
   rw [hres]
   clear i3 i4 hres
   refine Z11 ?_
   refine Z8l ?_
   refine qm (G:=Nat) (fun k=>r-a≤k∧k≤A.length) (fun k=>[(0,.sl id g 0 N N),(14,.int .i64 (r:Int)),(17,.int .i64 ((a+k:Nat):Int))]) (fun k=>H.set id ⟨g,13,(X++(mvJ A k x++Y)).map qx⟩++[]) (fun k=>k) A.length ⟨by omega,Nat.le_refl _⟩ (by rw [hm];exact Y8) (.inl (by rw [show mvJ A A.length x=A++[x] by unfold mvJ;simp,List.append_assoc,q3k hid])) ?_
   rintro k ⟨hk1,hk2⟩
   refine Z2k ?_
   refine Z2q ?_
   refine qa rfl (fun hc=>?_) (fun hc=>?_)
   ·have hlt:r-a<k:=by simp at hc;omega
    clear hc
    obtain ⟨k,rfl⟩:∃ j,k=j+1:=⟨k-1,by omega⟩
    obtain ⟨y,hy,_⟩:=qr (l:=A) (k:=k) (by omega)
    have lm:=qzp (A:=A) (k:=k+1) (x:=x) (by omega)
    have e3:((X++(mvJ A (k+1) x++Y)).set (a+(k+1)) y).set (a+k) x=X++(mvJ A k x++Y):=by
     rw [← ha,q8m y (by omega),q8m x (by rw [List.length_set];omega),q10a hy]
    have g1:(X++(mvJ A (k+1) x++Y))[a+(k+1)]?=some x:=by rw [← ha];exact q6u (qvt (by omega))
    have g2:(X++(mvJ A (k+1) x++Y))[a+k]?=some y:=by rw [← ha];exact q6u (q126 hy)
    generalize X++(mvJ A (k+1) x++Y)=L at *
    obtain ⟨hM,hr1,hr2,hM2,hr3⟩:=qvg (H:=H) (g:=g) hidl g1 g2 (by omega)
    refine Z1 ?_
    refine Zlu ?_
    refine Zlt ?_
    refine Zbw ?_
    refine Zbx ?_
    refine Zby ?_
    refine aq0 4 rfl Y1q (by decide) (fun _=>q30 (r:=((a+k:Nat):Int)) rfl rfl Y3) ?_
    refine Zlw ?_
    refine aq0 7 rfl Y1q (by decide) (fun _=>q30 (r:=((a+k:Nat):Int)) rfl rfl Y3) ?_
    refine Zlx ?_
    refine Zmj ?_
    refine Zly ?_
    refine Zlz ?_
    refine Zm0 ?_
    refine Zmk ?_
    refine Zm1 ?_
    refine Zml ?_
    refine Zm2 ?_
    refine Zmm ?_
    refine Z7d ?_
    try dsimp only [put]
    refine Z11 ?_
    refine ao1 (by decide) (q30 (r:=((a+k:Nat):Int)) rfl rfl Y3) ?_
    refine Za ?_
    exact ⟨k,by omega,⟨by omega,by omega⟩,Y8,.inl Y7⟩
   ·have:k=r-a:=by simp at hc;omega
    subst this
    refine Z1 ?_
    exact q3v hB .nil rfl rfl (by simp) (hB.heap.set _ ⟨g,13,(X++(mvJ A (r-a) x++Y)).map qx⟩ (q2b _ _))
 have hB1:C.length≠1:=by simp at hc;omega
 clear hc
 refine Z2k ?_
 refine ao1 (by decide) (q1x (r:=((a+b:Nat):Int)) rfl rfl (qc (by omega) (by omega))) ?_
 refine ao1 (by decide) (qn (r:=((a+b:Nat):Int)) rfl Y14) ?_
 refine ao1 (by decide) (qmv (r:=(((a+b) / 2:Nat):Int)) rfl rfl (by decide) (q13m _)) ?_
 refine ao1 (by decide) (qn (r:=(((a+b) / 2:Nat):Int)) rfl (qc (by omega) (by omega))) ?_
 refine Z4 ?_
 obtain ⟨mid,hmid⟩:∃ mid,(a+b) / 2=mid:=⟨_,rfl⟩
 rw [hmid]
 have hm1:a+2≤mid:=by omega
 have hm2:mid+2≤b:=by omega
 have hm3:2 * mid≤a+b∧a+b≤2 * mid+1:=by omega
 clear hmid
 refine Z2k ?_
 refine ao1 (by decide) (q1x (r:=((mid+m:Nat):Int)) rfl rfl (qc (by omega) (by omega))) ?_
 refine Z4 ?_
 refine Z2 ?_
 refine Z15 ?_
 refine Z2k ?_
 refine Z2q ?_
 refine q7l (G:=GBin) (fun q=>a≤q.s∧q.s≤q.r∧q.r≤m∧q.r≤mid∧mid+m≤q.s+b∧(q.s=a∨q.s+b=mid+m)∧(q.r=m∨q.r=mid)) (fun q=>[(0,.sl id g 0 N N),(1,.int .i64 (a:Int)),(2,.int .i64 (m:Int)),(3,.int .i64 (b:Int)),(4,qj0),(18,.int .i64 (mid:Int)),(19,.int .i64 ((mid+m:Nat):Int)),(20,.int .i64 (q.s:Int)),(21,.int .i64 (q.r:Int))]) (fun _=>H++[]) ?_ ?_
 ·refine Z1 ?_
  refine qa rfl (fun hc=>?_) (fun hc=>?_)
  ·have hgt:mid<m:=by simp at hc;omega
   refine Z2k ?_
   refine ao1 (by decide) (q30 (r:=((mid+m-b:Nat):Int)) rfl rfl (by rw [show ((mid+m:Nat):Int)-(b:Int)=((mid+m-b:Nat):Int) by omega];exact qc (by omega) (by omega))) ?_
   refine Z4 ?_
   refine Z1c ?_
   exact q1p ⟨mid+m-b,mid⟩ ⟨by simp only;omega,by simp only;omega,by simp only;omega,by simp only;omega,by simp only;omega,.inr (by simp only;omega),.inr rfl⟩ Y8 (.refl _ _)
  ·have hgt:m≤mid:=by simp at hc;omega
   refine Z1c ?_
   refine Z1c ?_
   exact q1p ⟨a,m⟩ ⟨by simp only;omega,by simp only;omega,by simp only;omega,by simp only;omega,by simp only;omega,.inl rfl,.inl rfl⟩ Y8 (.refl _ _)
 rintro ⟨lo,hi⟩ ⟨j1,j2,j3,j4,j5,j6,j7⟩
 simp only at j1 j2 j3 j4 j5 j6 j7 ⊢
 refine Z11 ?_
 refine ao1 (by decide) (q30 (r:=((mid+m-1:Nat):Int)) rfl rfl (by rw [show ((mid+m:Nat):Int)-1=((mid+m-1:Nat):Int) by omega];exact qc (by omega) (by omega))) ?_
 refine Z8l ?_
 refine qm (G:=GBin) (fun q=>lo≤q.s∧q.s≤q.r∧q.r≤hi∧(q.s=lo∨∃ x y:Job,A[q.s-1-a]?=some x∧C[mid+m-q.s-m]?=some y∧y.spec.prio≤x.spec.prio)∧(q.r=hi∨∃ x y:Job,A[q.r-a]?=some x∧C[mid+m-q.r-1-m]?=some y∧x.spec.prio<y.spec.prio)) (fun q=>[(0,.sl id g 0 N N),(1,.int .i64 (a:Int)),(2,.int .i64 (m:Int)),(3,.int .i64 (b:Int)),(4,qj0),(18,.int .i64 (mid:Int)),(19,.int .i64 ((mid+m:Nat):Int)),(20,.int .i64 (q.s:Int)),(21,.int .i64 (q.r:Int)),(22,.int .i64 ((mid+m-1:Nat):Int))]) (fun _=>H++[]) (fun q=>q.r-q.s) ⟨lo,hi⟩ ⟨Nat.le_refl _,j2,Nat.le_refl _,.inl rfl,.inl rfl⟩ Y8 (Fit.refl _ _) ?_
 rintro ⟨s,r⟩ ⟨i0,i1,i2,i3,i4⟩
 simp only at i0 i1 i2 i3 i4 ⊢
 refine Z2o ?_
 refine qa rfl (fun hc=>?_) (fun hc=>?_)
 ·have hlt:s<r:=by simp at hc;omega
  clear hc
  refine Z2k ?_
  refine Zm8 ?_
  refine Zm9 ?_
  refine Zma ?_
  refine Zmb ?_
  refine Z4 ?_
  obtain ⟨c,hcm⟩:∃ c,(s+r) / 2=c:=⟨_,rfl⟩
  rw [hcm]
  have hc1:s≤c∧c<r:=by omega
  clear hcm
  obtain ⟨x,hx,_⟩:=qr (l:=A) (k:=c-a) (by omega)
  obtain ⟨y,hy,_⟩:=qr (l:=C) (k:=mid+m-1-c-m) (by omega)
  have gx:=hLA _ x hx
  have gy:=hLB _ y hy
  rw [show a+(c-a)=c by omega] at gx
  rw [show m+(mid+m-1-c-m)=mid+m-1-c by omega] at gy
  have hrx:=qk qx gx
  have hry:=qk qx gy
  refine Z1 ?_
  refine q20 171 (.bool (!decide (x.spec.prio<y.spec.prio))) ?_ ?_
  ·refine Zls ?_
   refine Zlt ?_
   refine Zmc ?_
   refine Zmd ?_
   refine Z8z ?_
   refine Zby ?_
   refine aq0 4 rfl Y1q (by decide) (fun _=>q30 (r:=((mid+m-1-c:Nat):Int)) rfl rfl (by rw [show ((mid+m-1:Nat):Int)-(c:Int)=((mid+m-1-c:Nat):Int) by omega];exact qc (by omega) (by omega))) ?_
   refine aqp 5 rfl Y1q (by decide) (fun G=>q12 rfl (lkF hid) rfl rfl rfl (by omega)) ?_
   refine aqp 6 rfl Y1q (by decide) (fun G=>q1q rfl (lkF hid) rfl (qdw hry) rfl) ?_
   refine aq0 7 rfl Y1q (by decide) (fun _=>qi (v:=.sl _ _ _ _ _) rfl) ?_
   refine aq0 8 rfl Y1q (by decide) (fun _=>qi (v:=.int _ _) rfl) ?_
   refine aqp 9 rfl Y1q (by decide) (fun G=>q12 rfl (lkF hid) rfl rfl rfl (by omega)) ?_
   refine aqp 10 rfl Y1q (by decide) (fun G=>q1q rfl (lkF hid) rfl (qdw hrx) rfl) ?_
   refine q9b 11 rfl Y1q (by decide) (fun _=>V2.callv (q5v y x _) rfl rfl) ?_
   refine aq0 12 rfl Y1q (by decide) (fun _=>qwh rfl rfl) ?_
   refine aq0 13 rfl Y1q (by decide) (fun _=>qc1 rfl) ?_
   exact Zmh
  refine Z1 ?_
  refine qa rfl (fun hc=>?_) (fun hc=>?_)
  ·have hxy:y.spec.prio≤x.spec.prio:=by simp at hc;omega
   clear hc
   refine Z6n ?_
   refine ao1 (by decide) (q1x (r:=((c+1:Nat):Int)) rfl rfl (qc (by omega) (by omega))) ?_
   refine Za ?_
   exact ⟨⟨c+1,r⟩,by simp only;omega,⟨by simp only;omega,by simp only;omega,by simp only;omega,.inr ⟨x,y,by simp only;rw [show c+1-1-a=c-a by omega];exact hx,by simp only;rw [show mid+m-(c+1)-m=mid+m-1-c-m by omega];exact hy,hxy⟩,i4⟩,Y8,.refl _ _⟩
  ·have hxy:x.spec.prio<y.spec.prio:=by simp at hc;omega
   clear hc
   refine Z6n ?_
   refine Za ?_
   exact ⟨⟨s,c⟩,by simp only;omega,⟨by simp only;omega,by simp only;omega,by simp only;omega,i3,.inr ⟨x,y,hx,by simp only;rw [show mid+m-c-1-m=mid+m-1-c-m by omega];exact hy,hxy⟩⟩,Y8,.refl _ _⟩
 have hge:r=s:=by simp at hc;omega
 subst hge
 clear hc
 have hres:byPrio (A++C)=byPrio (A.take (r-a)++C.take (mid-r))++byPrio (A.drop (r-a)++C.drop (mid-r)):=qs2 hA hC (by omega) (by omega) (by
   rcases i3 with e | ⟨x,y,h1,h2,h3⟩
   ·rcases j6 with e2 | e2
    ·exact .inl (by omega)
    ·exact .inr (.inl (by omega))
   ·exact .inr (.inr ⟨x,y,by rw [show r-a-1=r-1-a by omega];exact h1,by rw [show mid-r=mid+m-r-m by omega];exact h2,h3⟩)) (by
   rcases i4 with e | ⟨x,y,h1,h2,h3⟩
   ·rcases j7 with e2 | e2
    ·exact .inl (by omega)
    ·exact .inr (.inl (by omega))
   ·exact .inr (.inr ⟨x,y,h1,by rw [show mid-r-1=mid+m-r-1-m by omega];exact h2,h3⟩))
 rw [hres]
 clear i3 i4 hres hLA hLB
 have hA1s:=hA.take (r-a)
 have hA2s:=hA.drop (r-a)
 have hB1s:=hC.take (mid-r)
 have hB2s:=hC.drop (mid-r)
 have eL:X++(A++(C++Y))=X++((A.take (r-a)++A.drop (r-a))++((C.take (mid-r)++C.drop (mid-r))++Y)):=by rw [List.take_append_drop,List.take_append_drop]
 have l1:(A.take (r-a)).length=r-a:=by rw [List.length_take];omega
 have l2:(A.drop (r-a)).length=m-r:=by rw [List.length_drop];omega
 have l3:(C.take (mid-r)).length=mid-r:=by rw [List.length_take];omega
 have l4:(C.drop (mid-r)).length=b-(mid+m-r):=by rw [List.length_drop];omega
 rw [eL] at hid
 generalize A.take (r-a)=A1 at *
 generalize A.drop (r-a)=A2 at *
 generalize C.take (mid-r)=B1 at *
 generalize C.drop (mid-r)=B2 at *
 clear eL
 refine Z2k ?_
 refine ao1 (by decide) (q30 (r:=((mid+m-r:Nat):Int)) rfl rfl (by rw [show ((mid+m:Nat):Int)-(r:Int)=((mid+m-r:Nat):Int) by omega];exact qc (by omega) (by omega))) ?_
 refine Z4 ?_
 have hMX:∀ L:List Job,(H.set id ⟨g,13,L.map qx⟩)[id]?=some ⟨g,13,L.map qx⟩:=fun L=>List.getElem?_set_self hidl
 refine Z1 ?_
 refine qq 185 (.bool (decide (r<m∧m<mid+m-r))) ?_ ?_
 ·refine Z2r ?_
  refine Zv ?_
  refine qb rfl rfl (fun hg3=>?_) (fun hg3=>?_)
  ·refine Z2s ?_
   refine Zk ?_
   refine Zm ?_
   exact Zmn
  ·refine Z1y ?_
   exact Zmo
 refine Z1 ?_
 refine q2x ([(0,.sl id g 0 N N),(1,.int .i64 (a:Int)),(2,.int .i64 (m:Int)),(3,.int .i64 (b:Int)),(4,qj0),(18,.int .i64 (mid:Int)),(20,.int .i64 (r:Int)),(24,.int .i64 ((mid+m-r:Nat):Int))]) (H.set id ⟨g,13,(X++(A1++(B1++(A2++(B2++Y))))).map qx⟩++[]) ?_ ?_
 ·refine Z1 ?_
  refine qa rfl (fun hc=>?_) (fun hc=>?_)
  ·have hr2:=of_decide_eq_true hc
   have cs:=rotJ (X++A1) A2 B1 (B2++Y) r m (mid+m-r) N id g H Y12 (by omega) (by omega) (by omega) (by omega) (by simp only [List.length_append] at hN ⊢;omega) hN1 (by rw [hid];simp only [List.append_assoc])
   simp only [List.append_assoc] at cs
   refine Zbi ?_
   refine Z2r ?_
   refine Z8 ?_
   refine Z1r ?_
   refine ao2 Y1k (V2.call (by rw [List.append_nil];exact cs) rfl) ?_
   refine Z47 ?_
   exact ⟨Y8,.inl (by rw [List.append_nil])⟩
  ·have hr2:=of_decide_eq_false hc
   refine Z1 ?_
   refine ⟨Y8,.inl ?_⟩
   have:A2++(B1++(B2++Y))=B1++(A2++(B2++Y)):=by
    by_cases h:A2.length=0
    ·rw [List.eq_nil_of_length_eq_zero h];rfl
    ·rw [List.eq_nil_of_length_eq_zero (l:=B1) (by omega)];rfl
   rw [← this]
   simp only [List.append_assoc] at hid
   rw [q3k hid,List.append_nil]
 refine Z1 ?_
 refine qq 199 (.bool (decide (a<r∧r<mid))) ?_ ?_
 ·refine Z2r ?_
  refine Zv ?_
  refine qb rfl rfl (fun hg3=>?_) (fun hg3=>?_)
  ·refine Z2s ?_
   refine Zk ?_
   refine Zm ?_
   exact Zmn
  ·refine Z1y ?_
   exact Zmo
 refine Z1 ?_
 refine q2x ([(0,.sl id g 0 N N),(3,.int .i64 (b:Int)),(4,qj0),(18,.int .i64 (mid:Int)),(24,.int .i64 ((mid+m-r:Nat):Int))]) (H.set id ⟨g,13,(X++(byPrio (A1++B1)++(A2++(B2++Y)))).map qx⟩++[]) ?_ ?_
 ·refine Z1 ?_
  refine qa rfl (fun hc=>?_) (fun hc=>?_)
  ·have hr2:=of_decide_eq_true hc
   have cs:=ih X A1 B1 (A2++(B2++Y)) a r mid N id g (H.set id ⟨g,13,(X++(A1++(B1++(A2++(B2++Y))))).map qx⟩) (by omega) (by omega) (by omega) hA1s hB1s ha (by omega) (by omega) (by simp only [List.length_append] at hN ⊢;omega) hN1 (hMX _)
   refine Zbi ?_
   refine Z2r ?_
   refine Z8 ?_
   refine Zm7 ?_
   exact ⟨Y8,.inl rfl⟩
  ·have hr2:=of_decide_eq_false hc
   refine Z1 ?_
   refine ⟨Y8,.inl ?_⟩
   have:byPrio (A1++B1)=A1++B1:=by
    by_cases h:A1.length=0
    ·rw [List.eq_nil_of_length_eq_zero h];exact q5m hB1s
    ·rw [List.eq_nil_of_length_eq_zero (l:=B1) (by omega),List.append_nil];exact q5m hA1s
   rw [this,List.append_assoc]
 refine Z1 ?_
 refine qq 213 (.bool (decide (mid<mid+m-r∧mid+m-r<b))) ?_ ?_
 ·refine Z2r ?_
  refine Zv ?_
  refine qb rfl rfl (fun hg3=>?_) (fun hg3=>?_)
  ·refine Z2s ?_
   refine Zk ?_
   refine Zm ?_
   exact Zmn
  ·refine Z1y ?_
   exact Zmo
 have eF:X++(byPrio (A1++B1)++byPrio (A2++B2)++Y)=(X++byPrio (A1++B1))++(byPrio (A2++B2)++Y):=by simp only [List.append_assoc]
 refine Z1 ?_
 refine qa rfl (fun hc=>?_) (fun hc=>?_)
 ·have hr2:=of_decide_eq_true hc
  have cs:=ih (X++byPrio (A1++B1)) A2 B2 Y mid (mid+m-r) b N id g (H.set id ⟨g,13,(X++(byPrio (A1++B1)++(A2++(B2++Y)))).map qx⟩) (by omega) (by omega) (by omega) hA2s hB2s (by rw [List.length_append,q24,List.length_append];omega) (by omega) (by omega) (by simp only [List.length_append,q24] at hN ⊢;omega) hN1 (by rw [hMX,List.append_assoc])
  rw [← eF] at cs
  refine Zbi ?_
  refine Z2r ?_
  refine Z8 ?_
  refine Zm7 ?_
  exact q3v hB .nil rfl rfl (by simp) (hB.heap.set _ ⟨g,13,_⟩ (q2b _ _))
 ·have hr2:=of_decide_eq_false hc
  have:byPrio (A2++B2)=A2++B2:=by
   by_cases h:A2.length=0
   ·rw [List.eq_nil_of_length_eq_zero h];exact q5m hB2s
   ·rw [List.eq_nil_of_length_eq_zero (l:=B2) (by omega),List.append_nil];exact q5m hA2s
  rw [this,show X++(byPrio (A1++B1)++(A2++B2)++Y)=X++(byPrio (A1++B1)++(A2++(B2++Y))) by simp only [List.append_assoc]]
  refine Z1 ?_
  exact q3v hB .nil rfl rfl (by simp) (hB.heap.set _ ⟨g,13,_⟩ (q2b _ _))
set_option maxHeartbeats 0 in
theorem q11y (l:List Job) (id g:Nat) (H:qf) (hid:H[id]?=some ⟨g,13,l.map qx⟩) (hl:l.length≤1000000):AC Tryz.prog 252 [.sl id g 0 l.length l.length,.int .i64 (l.length:Int),qj0] H (Ret (.tup []) (H.set id ⟨g,13,(byPrio l).map qx⟩)):=by
 have hidl:id<H.length:=(List.getElem?_eq_some_iff.1 hid).1
 have hM:∀ L:List Job,(H.set id ⟨g,13,L.map qx⟩)[id]?=some ⟨g,13,L.map qx⟩:=fun L=>List.getElem?_set_self hidl
 refine AC.body (N:=63) [] Tryz.func252 rfl rfl rfl (Nat.le_of_ble_eq_true rfl) fun B hB=>?_
 refine Z5 ?_
 refine Z11 ?_
 refine Z3 ?_
 refine Z8l ?_
 refine qm (G:=Nat) (fun a=>∃ u v,l=u++v∧u.length=a∧u.length % 20=0) (fun a=>[(0,.sl id g 0 l.length l.length),(1,.int .i64 (l.length:Int)),(2,qj0),(6,.int .i64 20),(7,.int .i64 (a:Int)),(8,.int .i64 ((a+20:Nat):Int))]) (fun a=>H.set id ⟨g,13,(blk 20 (l.take a)++l.drop a).map qx⟩++[]) (fun a=>l.length-a) 0 ⟨[],l,rfl,rfl,rfl⟩ Y8 (.inl (by rw [List.take_zero,List.drop_zero,show blk 20 []=[] by rw [qc3 (by decide) (by simp)];rfl,List.nil_append,q3k hid])) ?_
 rintro a ⟨u,v,rfl,hu,hm⟩
 have e1:(u++v).take a=u:=by rw [← hu,List.take_left]
 have e2:(u++v).drop a=v:=by rw [← hu,List.drop_left]
 have hlv:a+v.length=(u++v).length:=by rw [List.length_append];omega
 have hbl:=qm5 20 u
 refine Z2k ?_
 refine Zg ?_
 refine Z9 ?_
 refine qa rfl (fun hc=>?_) (fun hc=>?_)
 ·have hle:20≤v.length:=by simp at hc;omega
  clear hc
  have l1:(v.take 20).length=20:=by rw [List.length_take];omega
  have ev:v.take 20++v.drop 20=v:=List.take_append_drop ..
  have cs:=q102 (blk 20 u) (v.take 20) (v.drop 20) a (a+20) (u++v).length id g (H.set id ⟨g,13,(blk 20 u++v).map qx⟩) (by omega) (by omega) (by rw [ev];simp only [List.length_append];omega) hl (by rw [hM,ev])
  rw [e1,e2]
  refine Zi6 ?_
  refine Zm7 ?_
  refine Z1c ?_
  refine Z2k ?_
  refine ao1 (by decide) (q1x (r:=((a+20+20:Nat):Int)) rfl rfl (qc (by omega) (by omega))) ?_
  refine Za ?_
  refine ⟨a+20,by omega,⟨u++v.take 20,v.drop 20,by rw [List.append_assoc,ev],by rw [List.length_append];omega,by rw [List.length_append];omega⟩,Y8,.inl ?_⟩
  have e3:(u++v).take (a+20)=u++v.take 20:=by rw [← ev,← List.append_assoc,List.take_left' Y12,ev]
  have e4:(u++v).drop (a+20)=v.drop 20:=by rw [← List.drop_drop,e2]
  rw [e3,e4,show blk 20 (u++v.take 20)=blk 20 u++byPrio (v.take 20) from qam (by decide) _ _ hm (by omega),List.append_assoc]
 have hlt:v.length<20:=by simp at hc;omega
 clear hc
 rw [e1,e2]
 have cs:=q102 (blk 20 u) v [] a (u++v).length (u++v).length id g (H.set id ⟨g,13,(blk 20 u++v).map qx⟩) (by omega) (by omega) Yl hl (by rw [hM,List.append_nil])
 refine Zi6 ?_
 refine Zm7 ?_
 have e5:blk 20 u++(byPrio v++[])=blk 20 (u++v):=by rw [List.append_nil,qam (by decide) _ _ hm (by omega)]
 rw [e5]
 clear cs e1 e2 hlv hbl hu hm e5 hlt
 generalize u++v=l at *
 refine Z1d ?_
 refine qm (G:=Nat) (fun k=>1≤k∧k≤2000000) (fun k=>[(0,.sl id g 0 l.length l.length),(1,.int .i64 (l.length:Int)),(2,qj0),(6,.int .i64 (k:Int))]) (fun k=>H.set id ⟨g,13,(blk k l).map qx⟩++[]) (fun k=>2000000-k) 20 ⟨by decide,by decide⟩ Y8 (.inl rfl) ?_
 rintro k ⟨hk1,hk2⟩
 refine Z2o ?_
 refine qa rfl (fun hc=>?_) (fun hc=>?_)
 ·have hkl:k<l.length:=by simp at hc;omega
  clear hc
  refine Z11 ?_
  refine Zmp ?_
  refine Z3 ?_
  refine Z8l ?_
  refine qm (G:=Nat) (fun a=>∃ u v,l=u++v∧u.length=a∧u.length % (2 * k)=0) (fun a=>[(0,.sl id g 0 l.length l.length),(1,.int .i64 (l.length:Int)),(2,qj0),(6,.int .i64 (k:Int)),(7,.int .i64 (a:Int)),(8,.int .i64 ((a+2 * k:Nat):Int))]) (fun a=>H.set id ⟨g,13,(blk (2 * k) (l.take a)++blk k (l.drop a)).map qx⟩++[]) (fun a=>l.length-a) 0 ⟨[],l,rfl,rfl,by simp⟩ (by rw [Nat.zero_add];exact Y8) (.inl (by rw [List.take_zero,List.drop_zero,show blk (2 * k) []=[] by rw [qc3 (by omega) (by simp)];rfl,List.nil_append])) ?_
  rintro a ⟨u,v,rfl,hu,hm⟩
  have e1:(u++v).take a=u:=by rw [← hu,List.take_left]
  have e2:(u++v).drop a=v:=by rw [← hu,List.drop_left]
  have hlv:a+v.length=(u++v).length:=by rw [List.length_append];omega
  have hbl:=qm5 (2 * k) u
  refine Z2k ?_
  refine Zg ?_
  refine Z9 ?_
  refine qa rfl (fun hc=>?_) (fun hc=>?_)
  ·have hle:2 * k≤v.length:=by simp at hc;omega
   clear hc
   have l1:(v.take k).length=k:=by rw [List.length_take];omega
   have l2:((v.drop k).take k).length=k:=by rw [List.length_take,List.length_drop];omega
   have l3:(v.drop (2 * k)).length=v.length-2 * k:=List.length_drop ..
   have ev:v=v.take k++((v.drop k).take k++v.drop (2 * k)):=by
    rw [show v.drop (2 * k)=(v.drop k).drop k by rw [List.drop_drop];congr 1;omega,List.take_append_drop,List.take_append_drop]
   have eb:blk k v=byPrio (v.take k)++(byPrio ((v.drop k).take k)++blk k (v.drop (2 * k))):=by
    conv=>lhs;rw [ev]
    rw [qbf (by omega) _ _ l1,qbf (by omega) _ _ l2]
   have hbk:=qm5 k (v.drop (2 * k))
   have b1:=q24 (v.take k)
   have b2:=q24 ((v.drop k).take k)
   have cs:=qkf (2 * k) (blk (2 * k) u) (byPrio (v.take k)) (byPrio ((v.drop k).take k)) (blk k (v.drop (2 * k))) a (a+k) (a+2 * k) (u++v).length id g (H.set id ⟨g,13,(blk (2 * k) u++blk k v).map qx⟩) (by omega) (by omega) (by omega) (q1v _) (q1v _) (by omega) (by omega) (by omega) Yu hl (by rw [hM,eb])
   rw [e1,e2]
   refine Zi6 ?_
   refine Z8 ?_
   refine Zmq ?_
   refine Z8 ?_
   refine Zm7 ?_
   refine Z1c ?_
   refine Z2k ?_
   refine Zmp ?_
   refine ao1 (by decide) (q1x (r:=((a+2 * k+2 * k:Nat):Int)) rfl rfl (qc (by omega) (by omega))) ?_
   refine Za ?_
   have l4:(v.take (2 * k)).length=2 * k:=by rw [List.length_take];omega
   refine ⟨a+2 * k,by omega,⟨u++v.take (2 * k),v.drop (2 * k),by rw [List.append_assoc,List.take_append_drop],by rw [List.length_append];omega,by rw [List.length_append,l4,Nat.add_mod_right];exact hm⟩,Y8,.inl ?_⟩
   have e3:(u++v).take (a+2 * k)=u++v.take (2 * k):=by
    have:=List.take_append_drop (2 * k) v
    conv=>lhs;rw [← this,← List.append_assoc]
    rw [List.take_left' Y12]
   have e4:(u++v).drop (a+2 * k)=v.drop (2 * k):=by rw [← List.drop_drop,e2]
   rw [e3,e4,qam (k:=2 * k) (by omega) _ _ hm (by omega),qh5,List.append_assoc]
   rw [show v.take (2 * k)=v.take k++(v.drop k).take k by rw [show 2 * k=k+k by omega,List.take_add]]
  have hlt:v.length<2 * k:=by simp at hc;omega
  clear hc
  rw [e1,e2]
  refine Z2k ?_
  refine Zmq ?_
  refine Z4 ?_
  refine Z2o ?_
  refine q2x ([(0,.sl id g 0 (u++v).length (u++v).length),(1,.int .i64 ((u++v).length:Int)),(2,qj0),(6,.int .i64 (k:Int))]) (H.set id ⟨g,13,(blk (2 * k) (u++v)).map qx⟩++[]) ?_ ?_
  ·refine Z1 ?_
   refine qa rfl (fun hc=>?_) (fun hc=>?_)
   ·have hgt:k<v.length:=by simp at hc;omega
    clear hc
    have l1:(v.take k).length=k:=by rw [List.length_take];omega
    have l2:(v.drop k).length=v.length-k:=List.length_drop ..
    have b1:=q24 (v.take k)
    have b2:=q24 (v.drop k)
    have eb:blk k v=byPrio (v.take k)++(byPrio (v.drop k)++[]):=by
     conv=>lhs;rw [← List.take_append_drop k v]
     rw [qbf (by omega) _ _ l1,qc3 (by omega) (by omega),List.append_nil]
    have cs:=qkf (2 * k) (blk (2 * k) u) (byPrio (v.take k)) (byPrio (v.drop k)) [] a (a+k) (u++v).length (u++v).length id g (H.set id ⟨g,13,(blk (2 * k) u++blk k v).map qx⟩) (by omega) (by omega) (by omega) (q1v _) (q1v _) (by omega) (by omega) (by omega) Yl hl (by rw [hM,eb])
    refine Zbi ?_
    refine Z2r ?_
    refine Z8 ?_
    refine Zm7 ?_
    refine ⟨Y8,.inl ?_⟩
    rw [qh5,List.take_append_drop,qam (k:=2 * k) (by omega) _ _ hm (by omega)];simp only [List.append_nil]
   ·have hgt:v.length≤k:=by simp at hc;omega
    refine Z1 ?_
    refine ⟨Y8,.inl ?_⟩
    rw [qam (k:=2 * k) (by omega) _ _ hm (by omega),qc3 (k:=k) (by omega) hgt]
  refine Z11 ?_
  refine ao1 (by decide) (qfu (r:=((2 * k:Nat):Int)) rfl rfl (by rw [show (k:Int) * 2=((2 * k:Nat):Int) by omega];exact qc (by omega) (by omega))) ?_
  refine Za ?_
  exact ⟨2 * k,by omega,⟨by omega,by omega⟩,Y8,.inl rfl⟩
 ·have hkl:l.length≤k:=by simp at hc;omega
  rw [qc3 (by omega) hkl]
  refine Z1 ?_
  exact q3v hB .nil rfl rfl (by simp) (hB.heap.set _ ⟨g,13,(byPrio l).map qx⟩ (q2b _ _))
theorem qlv (l:List Job) (id g:Nat) (H:qf) (hid:H[id]?=some ⟨g,13,l.map qx⟩) (hl:l.length≤1000000):AC Tryz.prog 231 [.sl id g 0 l.length l.length,qj0] H (Ret (.tup []) (H.set id ⟨g,13,(byPrio l).map qx⟩)):=by
 refine AC.body (N:=9) [] Tryz.func231 rfl rfl rfl (Nat.le_of_ble_eq_true rfl) fun B hB=>?_
 refine Zbi ?_
 refine Z8n ?_
 refine ao1 (by decide) (qex rfl (lkF hid) rfl) ?_
 refine Z1r ?_
 refine ao2 Y1k (V2.call (by rw [List.append_nil];exact q11y l id g H hid hl) rfl) ?_
 refine Z47 ?_
 exact q11l hB .nil rfl rfl (by simp) (hB.heap.set _ ⟨g,13,(byPrio l).map qx⟩ (q2b _ _))
theorem V2.callS {P:Program} {N:Nat} {env:Env} {H0 L:qf} {ty:TypeId} {f k:Nat} {xs:Array Operand} {ts:Array TypeId} {vs:List AV} {v:AV} {o:AObj} [FnI P f] (hac:AC P f vs (H0++L) (Ret v ((H0++L).set (Lid H0.length k) o))) (hvs:xs.toList.map (aev env)=vs) :
  V2 P N (.call { callee:=.value (.func f),args:=xs,argTypes:=ts }) ty env (H0++L) v (H0++L.set k o):=by
 have:=V2.call (N:=N) (ty:=ty) (ts:=ts) hac hvs
 rwa [st rfl] at this
def q5c (l:List Job) (j:Job):Bool:=decide (j.state=0)&&j.needs.all fun n=>decide ((q37 l (q1g l n)).state=3)
theorem qqg {l:List Job} {i:Nat} {j:Job} (hj:l[i]?=some j):(l.take (i+1)).filter (q5c l)=if q5c l j then (l.take i).filter (q5c l)++[j] else (l.take i).filter (q5c l):=by
 rw [ql hj,List.filter_append]
 cases h:q5c l j<;>simp [h]
theorem qii (l:List Job) (at_ b:Nat) (H:qf) (hb:H[b]?=some ⟨0,1,[[.pl (l.map qx)]]⟩) (hat:at_<l.length):AC Tryz.prog 230 [.int .i64 (at_:Int),.pt b 0 0 0] H (Ret (.bool (decide ((q37 l at_).state=3))) H):=by
 obtain ⟨x,hx,_⟩:=qr (l:=l) (k:=at_) hat
 have hr:=qk qx hx
 rw [q1z hx]
 refine AC.body (N:=10) [.tmp 3] Tryz.func230 rfl rfl rfl (Nat.le_of_ble_eq_true rfl) fun B hB=>?_
 refine Z1o ?_
 refine Z2 ?_
 refine ao1 (by decide) (qh (v:=.pl _) rfl (lkF hb) rfl rfl rfl) ?_
 refine Z8 ?_
 refine Z4s ?_
 refine ao1 (by decide) (q4m rfl (by decide)) ?_
 refine Z4t ?_
 refine Z9l ?_
 refine Z3z ?_
 exact Z20
set_option maxHeartbeats 0 in
theorem qly (l:List Job) (H:qf) (hw:JW l) (hl:l.length<1000000):AC Tryz.prog 201 [.pl (l.map qx)] H (Ret (.pl ((q1h l).map eI)) H):=by
 have hw1:=hw.1
 refine AC.body (N:=33) [.tmp 2] Tryz.func201 rfl rfl rfl (Nat.le_of_ble_eq_true rfl) fun B hB=>?_
 refine Z2 ?_
 refine Zlm ?_
 refine Z8i ?_
 refine Z2v ?_
 refine Z2 ?_
 refine Z4h ?_
 refine Zho ?_
 refine Z3x ?_
 refine qa rfl (fun hc=>?_) (fun hc=>?_)
 ·have hno:q2v l=false:=by simpa only [Bool.not_eq_true'] using hc
  rw [show q1h l=[] by rw [q1h,hno];rfl]
  refine Z4a ?_
  exact Z8x
 have hyes:q2v l=true:=by simpa only [Bool.not_eq_false'] using hc
 have hs:=q3f hyes
 clear hc
 rw [show q1h l=(byPrio (l.filter (q5c l))).map (·.id) by rw [q1h,if_pos hyes];rfl]
 refine Z49 ?_
 refine q1s (k:=1) 3 13 rfl (by decide) rfl ?_
 refine q18 ?_
 refine Z4h ?_
 refine Z4o ?_
 refine Z8k ?_
 refine Z1d ?_
 refine qm (G:=Nat) (fun i=>i≤l.length) (fun i=>[(1,.pt (Lid H.length 0) 0 0 0),(3,.sl (Lid H.length 1) ((l.take i).filter (q5c l)).length 0 ((l.take i).filter (q5c l)).length ((l.take i).filter (q5c l)).length),(9,.pl (l.map qx)),(10,.int .i64 (l.length:Int)),(11,.int .i64 (i:Int))]) (fun i=>H++[⟨0,1,[[.pl (l.map qx)]]⟩,⟨((l.take i).filter (q5c l)).length,13,((l.take i).filter (q5c l)).map qx⟩]) (fun i=>l.length-i) 0 (Nat.zero_le _) Y8 (.inl rfl) ?_
 intro i hi
 refine Z4r ?_
 refine qa rfl (fun hc=>?_) (fun hc=>?_)
 ·have hlt:i<l.length:=by simpa using hc
  obtain ⟨j,hj,hjl⟩:=qr hlt
  have hr:=qk qx hj
  have hjn:=hw.2 j hjl
  have hst:=qqg hj
  have hbf:=fun n hn=>(q8k hyes hj (n:=n) hn).1
  have hle:((l.take i).filter (q5c l)).length≤i:=Nat.le_trans (List.length_filter_le _ _) Y17
  generalize (l.take i).filter (q5c l)=acc at hst hle ⊢
  clear hc
  refine Zfz ?_
  refine Zbh ?_
  refine Z1 ?_
  refine qq 23 (.bool (q5c l j)) ?_ ?_
  ·refine Z30 ?_
   refine Z3o ?_
   refine qb rfl rfl (fun hg3=>?_) (fun hg3=>?_)
   ·refine Zc6 ?_
    refine Z5i ?_
    refine Zlo ?_
    refine q6d rfl rfl (by decide) (V2.call (qfm 230 [.pt (Lid H.length 0) 0 0 0] (fun a=>decide ((q37 l a).state=3)) l j _ (fun n hn L'=>qii l (q1g l n) (Lid H.length 0) _ (lkF (lk rfl rfl)) (by have:=hbf n hn;omega)) hw1 hs hjn) rfl) ?_
    refine Zm ?_
    exact Zmr
   ·refine Z2e ?_
    exact Zmr
  refine Z1 ?_
  refine qa rfl (fun hc=>?_) (fun hc=>?_)
  ·rw [if_pos hc] at hst
   refine Zbi ?_
   refine Z3u ?_
   refine ao2 Y1k (q5e (sz:=13) (v:=.agg (qx j)) (cs:=qx j) rfl (by decide) (by decide) rfl rfl rfl rfl rfl) ?_
   refine ao2 Y1k (q47 rfl rfl rfl rfl rfl (Src.pl (ys:=[qx j]) rfl (qdj [j])) rfl (by simp) (by simp) Y1x Y1x) ?_
   refine Z8s ?_
   refine Zms ?_
   rw [show (acc.map qx).take acc.length=acc.map qx from List.take_of_length_le (by simp)]
   refine Z52 ?_
   refine ⟨i+1,by omega,by omega,by rw [hst,List.length_append];exact Y8,?_⟩
   rw [hst,List.length_append]
   refine Fit.loc hB Y1a Y1 ?_
   intro o ho r hr
   simp only [List.mem_cons,List.not_mem_nil,or_false] at ho
   rcases ho with rfl | rfl
   ·simp only [List.mem_singleton] at hr;subst hr;rfl
   ·exact q2b _ _ r hr
  ·rw [if_neg Y1p] at hst
   refine Z52 ?_
   refine ⟨i+1,by omega,by omega,by rw [hst];exact Y8,?_⟩
   rw [hst]
   refine Fit.loc hB rfl Y1 ?_
   intro o ho r hr
   simp only [List.mem_cons,List.not_mem_nil,or_false] at ho
   rcases ho with rfl | rfl
   ·simp only [List.mem_singleton] at hr;subst hr;rfl
   ·exact q2b _ _ r hr
 ·have:i=l.length:=by simp at hc;omega
  subst this
  rw [List.take_length]
  have hfl:(l.filter (q5c l)).length≤l.length:=List.length_filter_le _ _
  generalize l.filter (q5c l)=acc at hfl ⊢
  clear hc
  have hbl:=q24 acc
  refine Z8o ?_
  refine ao2 Y1k (V2.callS (k:=1) (qlv acc (Lid H.length 1) acc.length _ (lk rfl rfl) (by omega)) rfl) ?_
  refine qe ?_
  refine Zif ?_
  refine Z1d ?_
  refine qp (ys:=(byPrio acc).map qx) 3 rfl rfl rfl rfl Yk Y1x (q2b 0 _) ?_
  refine Zbe ?_
  refine qu (qtq _ _ (by omega)) rfl (by decide) ?_
  refine Zmt ?_
  try dsimp only [List.set_cons_succ,List.set_cons_zero]
  exact Z20
end Go.Av
namespace Go.Av
open Go
section
variable {P : Program} {N : Nat} {B : Base} {Q : q6g} {env : Env} {H H0 L : qf} {ty : TypeId} {ops : Array Oper} {rest : List Oper}
structure SrcRN (P : Program) (S : List Slot) (w : World) (sz full : Nat) (ys : List (List AV)) (x : Value) (news : Array Value) : Prop where
 len:∀ w',(Builtin.lenOf x).run P w' = .ok full w'
 first:∀ w',w'.heap=w.heap→(Builtin.firstCells sz ys.length x).run P w' = .ok news w'
 cells:CellsR S w ys.flatten news
 one:∀ u∈news.toList,u.oneCell'=true
 wide:∀ r∈ys,r.length=sz
def SrcN (P:Program) (N:Nat) (env:Env) (H:qf) (x:Operand) (sz full:Nat) (ys:List (List AV)):Prop:=∀ S a w,CR N env H S a w→∃ news,SrcRN P S w sz full ys (a.eval x) news
theorem SrcN.sl {x:Operand} {id g off len cap n sz:Nat} {o:AObj} {ys:List (List AV)} (hx:aev env x = .sl id g off len cap) (hid:H[id]?=some o) (hg:o.gen=g) (hsz:o.sz=sz) (hn:n≤len) (hys:(o.rows.drop off).take n=ys) (hlen:ys.length=n):SrcN P N env H x sz len ys:=by
 subst hg
 intro S a w hc
 obtain ⟨s,c,hs,ok,hcc,hlc,h⟩:=hc.slc hx hid
 rcases h with ⟨h0,ad,he⟩ | ⟨b,arr,et,hp,he,hb,hfit,hrow⟩
 ·have hc1:CR 1 [(0,.nsl)] H S { tmps:=#[.slice ad 0 0],defers:=[] } w:=⟨hc.heap,fun t=>by
   cases t with
   | zero=>exact .nsl
   | succ t=>exact .junk,rfl,rfl⟩
  obtain ⟨news,hr⟩:=qu3 (P:=P) (sz:=sz) hc1 (x:=.tmp 0) rfl
  have e0:ys=[]:=List.eq_nil_of_length_eq_zero (by omega)
  subst e0
  rw [he]
  have e1:len=0:=by omega
  subst e1
  exact ⟨news,⟨fun w'=>rfl,hr.first,hr.cells,hr.one,hr.wide⟩⟩
 ·have hc1:CR 1 [(0,.sl id o.gen off n n)] H S { tmps:=#[.slice (some ⟨b,off * o.sz,none⟩) n c],defers:=[] } w:=⟨hc.heap,fun t=>by
   cases t with
   | zero=>exact .sl s hs Yz rfl fun _=>⟨c,by omega,by omega,.inr ⟨b,arr,et,hp,by rw [ok.sz];rfl,hb,by rw [← ok.sz];exact hfit⟩⟩
   | succ t=>exact .junk,rfl,rfl⟩
  obtain ⟨news,hr⟩:=qt4 (P:=P) hc1 (x:=.tmp 0) rfl hid hys hlen
  rw [he]
  subst hsz
  exact ⟨news,⟨fun w'=>rfl,fun w' hw'=>hr.first w' hw',hr.cells,hr.one,hr.wide⟩⟩
theorem q104 {t t' e:TypeId} {x y:Operand} {id off len cap sz full:Nat} {agg:Bool} {o:AObj} {ys:List (List AV)} [hu:SlI P t e] [TyI P e agg sz] (hx:aev env x = .sl id o.gen off len cap) (hid:H[id]?=some o) (hsz:o.sz=sz) (hoff:off≤o.rows.length)
  (hy:SrcN P N env H y sz full ys) (hmin:Nat.min full len=ys.length) :
  V2 P N (.call { callee:=.builtin .copy,args:=#[x,y],argTypes:=#[t,t'] }) ty env H (.int .i64 (ys.length:Int)) (H.set id { o with rows:=o.rows.take off++ys++o.rows.drop (off+ys.length) }):=by
 intro dst pos after guard S a w hc next Q hnext _
 obtain ⟨news,hs⟩:=hy S a w hc
 obtain ⟨s,c,hsl,ok,hcc,hlc,h⟩:=hc.slc hx hid
 have hnl:=hs.cells.1
 rw [q3j hs.wide] at hnl
 have hyl:ys.length≤len:=by rw [← hmin];exact Nat.min_le_right _ _
 have key:∀ (w':World) (ad:Option Addr),a.eval x = .slice ad len c→(match ad with | some b=>(storeCells b news.toList).run P w | none=>.ok () w) = .ok () w' →
   HRel (H.set id { o with rows:=o.rows.take off++ys++o.rows.drop (off+ys.length) }) S w'→Ext S w S w'→Oper.wp P ⟨dst,.call { callee:=.builtin .copy,args:=#[x,y],argTypes:=#[t,t'] },ty,pos,after,guard⟩ a w next Q:=by
  intro w' ad he hst hh hxx
  have hrun:(execOp a.eval ⟨dst,.call { callee:=.builtin .copy,args:=#[x,y],argTypes:=#[t,t'] },ty,pos,after,guard⟩).run P w = .ok (.value (.int .i64 (ys.length:Int))) w':=by
   have hm':min full len=ys.length:=hmin
   have hf:=hs.first w rfl
   cases ad with
   | none =>
    simp only at hst
    injection hst with _ e1
    subst e1
    simp [execOp,resolve,invoke,builtin,Builtin.copy_,he,q1a hu.ud,q4e (P:=P) (t:=e) (agg:=agg) (sz:=sz),hs.len,hm',hf,goInt,Nat.min_def]
    simp_all [Nat.min_def]
   | some ad =>
    simp only at hst
    simp [execOp,resolve,invoke,builtin,Builtin.copy_,he,q1a hu.ud,q4e (P:=P) (t:=e) (agg:=agg) (sz:=sz),hs.len,hf,goInt,hmin,hst]
  unfold Oper.wp
  rw [hrun]
  exact hnext _ _ _ S w' ⟨rfl,rfl⟩ hh hxx .int
 rcases h with ⟨h0,ad,he⟩ | ⟨b,arr,et,hp,he,hbl,hfit,hrow⟩
 ·have el:len=0:=by omega
  subst el
  have e0:ys=[]:=List.eq_nil_of_length_eq_zero (by omega)
  subst e0
  have en:news = #[]:=by
   have:news.size=0:=by rw [← hnl];simp
   exact Array.eq_empty_of_size_eq_zero this
  subst en
  refine key w ad (by rw [he,h0]) ?_ ?_ (Ext.refl S w)
  ·cases ad<;>simp [storeCells]
  ·have e:(o.rows.take off++[]++o.rows.drop (off+([]:List (List AV)).length))=o.rows:=by simp
   rw [e]
   have:H.set id { o with rows:=o.rows } = H:=by
    apply List.ext_getElem?
    intro i
    by_cases ei:id=i
    ·subst ei
     rw [List.getElem?_set_self (List.getElem?_eq_some_iff.1 hid).1,hid]
    ·rw [List.getElem?_set_ne ei]
   rw [this]
   exact hc.heap
 ·have hfit2:off * o.sz+news.size≤arr.size:=by
   rw [← hnl,hsz,← Nat.add_mul]
   rw [hsz] at hfit
   exact Nat.le_trans (Nat.mul_le_mul_right _ (by omega)) hfit
  have hst:=run_storeCells_at P b (off * o.sz) et news.toList 0 arr w hbl (by simpa using hfit2) hs.one
  simp only [Nat.add_zero,Array.length_toList] at hst
  have hsize:(arr.toList.take (off * o.sz)++news.toList++arr.toList.drop (off * o.sz+news.size)).toArray.size=arr.size:=by
   simp
   omega
  have hwa:∀ r∈o.rows,r.length=sz:=by
   intro r hr
   obtain ⟨i,hi⟩:=List.mem_iff_getElem?.1 hr
   rw [← hsz]
   exact (hrow.2 i r hi).1
  have hnew:RowOK (own S) S w o.sz (arr.toList.take (off * o.sz)++news.toList++arr.toList.drop (off * o.sz+news.size)).toArray (o.rows.take off++ys++o.rows.drop (off+ys.length)):=by
   have hin:RowOK (own S) S w o.sz news ys:=by rw [hsz];exact q6i hs.wide hs.cells
   refine ⟨?_,fun i r hr=>?_⟩
   ·rw [hsize]
    have h1:=hrow.1
    have h2:(off+ys.length) * o.sz≤arr.size:=by rw [Nat.add_mul,hsz,hnl,← hsz];exact hfit2
    have h3:(o.rows.take off++ys++o.rows.drop (off+ys.length)).length=max o.rows.length (off+ys.length):=by simp;omega
    rw [h3]
    rcases Nat.le_total o.rows.length (off+ys.length) with hle | hle
    ·rw [Nat.max_eq_right hle];exact h2
    ·rw [Nat.max_eq_left hle];exact h1
   ·have htl:(o.rows.take off).length=off:=by simp;omega
    have hal:(arr.toList.take (off * o.sz)).length=off * o.sz:=by simp;omega
    have hyz:ys.length * o.sz=news.size:=by rw [hsz];exact hnl
    by_cases c1:i<off
    ·rw [List.append_assoc,List.getElem?_append_left (by omega),List.getElem?_take,if_pos c1] at hr
     obtain ⟨k1,k2⟩:=hrow.2 i r hr
     refine ⟨k1,fun j v hv=>?_⟩
     obtain ⟨k3,u,k4,k5⟩:=k2 j v hv
     have hj:j<o.sz:=by rw [← k1];exact (List.getElem?_eq_some_iff.1 hv).1
     have hlt:i * o.sz+j<off * o.sz:=by
      have:(i+1) * o.sz≤off * o.sz:=Nat.mul_le_mul_right _ c1
      rw [Nat.succ_mul] at this
      omega
     refine ⟨k3,u,?_,k5⟩
     rw [List.getElem?_toArray,List.append_assoc,List.getElem?_append_left (by omega),List.getElem?_take,if_pos hlt,Array.getElem?_toList]
     exact k4
    ·by_cases c2:i<off+ys.length
     ·rw [List.append_assoc,List.getElem?_append_right (by omega),htl,List.getElem?_append_left (by omega)] at hr
      obtain ⟨k1,k2⟩:=hin.2 (i-off) r hr
      refine ⟨k1,fun j v hv=>?_⟩
      obtain ⟨k3,u,k4,k5⟩:=k2 j v hv
      have hlt:=(Array.getElem?_eq_some_iff.1 k4).1
      refine ⟨k3,u,?_,k5⟩
      have e1:i * o.sz+j-off * o.sz=(i-off) * o.sz+j:=by
       rw [Nat.sub_mul]
       have:off * o.sz≤i * o.sz:=Nat.mul_le_mul_right _ (by omega)
       omega
      have hge:off * o.sz≤i * o.sz:=Nat.mul_le_mul_right _ (by omega)
      rw [List.getElem?_toArray,List.append_assoc,List.getElem?_append_right (by omega),hal,e1,List.getElem?_append_left (by simpa using hlt),Array.getElem?_toList]
      exact k4
     ·rw [List.getElem?_append_right Y1x] at hr
      have e2:i-(o.rows.take off++ys).length=i-(off+ys.length):=by simp;omega
      rw [e2,List.getElem?_drop,show off+ys.length+(i-(off+ys.length))=i by omega] at hr
      obtain ⟨k1,k2⟩:=hrow.2 i r hr
      refine ⟨k1,fun j v hv=>?_⟩
      obtain ⟨k3,u,k4,k5⟩:=k2 j v hv
      refine ⟨k3,u,?_,k5⟩
      have hge:(off+ys.length) * o.sz≤i * o.sz:=Nat.mul_le_mul_right _ (by omega)
      rw [Nat.add_mul,hyz] at hge
      have hl2:(arr.toList.take (off * o.sz)++news.toList).length=off * o.sz+news.size:=by simp;omega
      rw [List.getElem?_toArray,List.getElem?_append_right (by omega),hl2,List.getElem?_drop,show off * o.sz+news.size+(i * o.sz+j-(off * o.sz+news.size))=i * o.sz+j by omega,Array.getElem?_toList]
      exact k4
  have hw:=hc.heap.write (rows':=o.rows.take off++ys++o.rows.drop (off+ys.length)) hid hsl hp hbl hsize hnew
  exact key _ (some ⟨b,off * o.sz,none⟩) he hst hw.1 hw.2
theorem qre {f:FuncId} {fn:Func} {x y:Operand} {ts:Array TypeId} {tS tR e:TypeId} {id g off len cap id' g' off' len' cap' sz:Nat} {agg:Bool} {o o':AObj} [hu:SlI P tS e] [TyI P e agg sz]
  (hf : P.funcs[f]? = some fn) (hname : (fn.name == "runtime.NumGoroutine") = false) (hb : fn.body.isNone = true) (hn : Extern.findNext fn = none) (he : Extern.find fn = some (Extern.SlicesOverlaps.overlaps #[tS, tS] #[tR]))
  (hx:aev env x = .sl id g off len cap) (hid:H[id]?=some o) (hg:o.gen=g) (hy:aev env y = .sl id' g' off' len' cap') (hid':H[id']?=some o') (hg':o'.gen=g') (hne:id≠id') (h0:0<len) (h0':0<len') (hz:o'.sz=sz) :
  V1 P N (.call { callee:=.value (.func f),args:=#[x,y],argTypes:=ts }) ty env H (.bool false):=by
 subst hg;subst hg'
 refine qpd hf hname hb hn he fun S a w hc=>?_
 obtain ⟨s,c,hsl,ok,hcc,hlc,h⟩:=hc.slc hx hid
 obtain ⟨s',c',hsl',ok',hcc',hlc',h'⟩:=hc.slc hy hid'
 rcases h with ⟨q0,ad,hx1⟩ | ⟨b,arr,et,hp,hx1,hbl,hfit,hrow⟩
 ·omega
 rcases h' with ⟨q0,ad,hy1⟩ | ⟨b',arr',et',hp',hy1,hbl',hfit',hrow'⟩
 ·omega
 have hbb:b≠b':=fun e1=>hne (hc.heap.inj id id' s s' b hsl hsl' hp (e1▸hp'))
 refine ⟨.bool false,?_,.bool⟩
 have e1:(#[x,y]:Array Operand).map a.eval = #[a.eval x,a.eval y]:=by simp
 rw [e1,hx1,hy1]
 have hpos:=ok'.pos
 have hpos1:=ok.pos
 refine Lib.run_overlaps_apart w tS tR e hu.ud sz (fun w=>q4e (P:=P) (t:=e) (agg:=agg) (sz:=sz) w) ⟨b,off * o.sz,none⟩ ⟨b',off' * o'.sz,none⟩ len c len' c' hbb et et' arr.size arr'.size ?_ ?_ ?_ ?_ ?_
 ·simp [World.shape?,hbl]
 ·simp [World.shape?,hbl']
 ·have:1 * 1≤(off'+c') * o'.sz:=Nat.mul_le_mul (by omega) hpos
  omega
 ·simp [World.frozen?,hbl]
 ·simp [World.frozen?,hbl]
theorem CR.raw0 {S:List Slot} {a:Act} {w:World} (hc:CR N env H S a w) (t:Nat):CR N ((t,.raw (a.tmps.getD t undef)) :: env) H S a w :=
 ⟨hc.heap,fun t'=>by
  by_cases e:t=t'
  ·subst e;rw [qt];exact .raw
  ·rw [qg _ _ e];exact hc.env t',hc.size,hc.defers⟩
theorem lo1 {S:List Slot} {a:Act} {w:World} {QQ:Exit→Act→World→Prop} {d:Nat} {op:Op} {pos:String} {after:Array Edge} {v:AV} (hc:CR N env H S a w) (hd:d<N) (h1:V1 P N op ty env H v) (k:∀ a',CR N ((d,v) :: env) H S a' w→wpList P ops QQ rest a' w):wpList P ops QQ (⟨some d,op,ty,pos,after,none⟩ :: rest) a w:=by
 refine wpList_plain rfl fun next hnext=>?_
 obtain ⟨u,hr,hv⟩:=h1 S a w hc
 unfold Oper.wp
 rw [hr]
 exact hnext _ _ (k _ (CR.put (d:=some d) hc (Ext.refl S w) hc.heap Y1f hv))
theorem qlk {S:List Slot} {a:Act} {w:World} (hc:CR N env H S a w) {x:Operand} {u:Value} (h:aev env x = .raw u):a.eval x=u:=by
 have:=hc.ev x
 rw [h] at this
 generalize a.eval x=u' at this
 cases this
 rfl
theorem qy2 {t e:TypeId} {x:Operand} {ad:Option Addr} {l c:Nat} [hu:SlI P t e] (hx:aev env x = .raw (.slice ad l c)):V1 P N (.call { callee:=.builtin .cap,args:=#[x],argTypes:=#[t] }) ty env H (.int .i64 (c:Int)):=by
 intro S a w hc
 refine ⟨.int .i64 c,fun _ _ _ _=>?_,.int⟩
 simp [execOp,resolve,invoke,builtin,Builtin.cap_,qlk hc hx,q1a hu.ud,goInt]
theorem qqm {t e:TypeId} {x y:Operand} {b off n c i sz:Nat} {k:IntKind} {agg:Bool} [hu:SlI P t e] [TyI P e agg sz] (hx:aev env x = .raw (.slice (some ⟨b,off,none⟩) n c)) (hy:aev env y = .int k (i:Int)) (hi:i≤c) (hc0:0<c) :
  V1 P N (.slice t x none (some y) none) ty env H (.raw (.slice (some ⟨b,off,none⟩) i c)):=by
 intro S a w hc
 have hb':=q3s (P:=P) (lo:=none) (hi:=some y) (l:=0) (h:=i) (len:=n) hc true (cap:=c) rfl (.some hy rfl) (Nat.zero_le _) hi
 simp only [Option.map_none,Option.map_some] at hb'
 refine ⟨_,fun _ _ _ _=>?_,.raw⟩
 have e1:(⟨b,off,none⟩:Addr).add (0 * sz)=⟨b,off,none⟩:=by rw [q3z,Nat.zero_mul,Nat.add_zero]
 have e2:¬ c=0:=by omega
 simp [execOp,qlk hc hx,Instr.sliceAt,Instr.slice,q1a hu.ud,hb',q4e (P:=P) (t:=e) (agg:=agg) (sz:=sz),e2,q3z]
end
section
variable {P : Program} {N : Nat} {B : Base} {Q : q6g} {env : Env} {H H0 L : qf} {ty : TypeId} {ops : Array Oper} {rest : List Oper}
theorem qd9 {t t' e:TypeId} {sz bytes:Nat} {agg:Bool} {zs:List AV} [hu:SlI P t e] [hni:UdI P t' (.int .i64)] [ht:TyI P e agg sz] [hz:ZcI P e zs] [hby:ByI P e bytes] (S:List Slot) {w:World} {olds:Array Value} {ad:Addr} {i k c:Nat} (hzs:zs.length=sz) (hpos:0<sz)
  (hold:(Builtin.firstCells sz i (.slice (some ad) i c)).run P w.drew = .ok olds w.drew) (hk:0<k) (hroom:c<i+k) (h63:i+k≤9223372036854775807) (hb:(i+k) * bytes≤140737488355328) :
  ∃ cap' more rest,i+k≤cap'∧rest.size=(cap'-(i+k)) * sz∧CellsR S w (List.replicate k zs).flatten more∧(Builtin.append_ #[t,t'] ty #[.slice (some ad) i c,.int .i64 (k:Int)]).run P w = .ok (.slice (some ⟨w.heap.size,0,none⟩) (i+k) cap') (w.drew.alloc (.cells (olds++more++rest) e)):=by
 obtain ⟨z,hz0,hz1,hz2⟩:=hz.ze
 have hzr:CellsR S w zs z.cells:=.of_val hz1 hz2
 have htb:=hby.by_
 cases hi:P.info? e with
 | none=>simp [hi] at htb
 | some q =>
  simp [hi] at htb hz0
  have hfit:=growslice_fits (bytes:=q.bytes) hroom (by rw [htb];exact hb)
  have hzl:z.cells.size=sz:=by rw [← hzs,← hz1];simp
  have n0:¬ ((k:Int)<0):=by omega
  have nw:IntKind.i64.wrap (k:Int)=k:=by rw [IntKind.wrap_i64];omega
  have n1:¬ (i+k≤c):=by omega
  have n2:¬ ((9223372036854775807:Int)<((i:Int)+(k:Int))):=by omega
  have n3:¬ (281474976710656<Builtin.nextslicecap (i+k) c * q.bytes):=by omega
  have n4:¬ ((281474976710656:Int)<(k:Int) * (q.bytes:Int)):=by
   rw [← Int.natCast_mul]
   rw [← htb,Nat.add_mul] at hb
   omega
  have n5:¬ (k * sz=0):=Nat.mul_ne_zero (by omega) (by omega)
  have n6:k≠0:=by omega
  have n7:sz≠0:=by omega
  have hrep:=hzr.rep (by omega) k
  rw [hzs,← hzl] at hrep
  refine ⟨grownCap w (i+k) c e,Builtin.zeroCells z.cells k,Builtin.zeroCells z.cells (grownCap w (i+k) c e-(i+k)),grownCap_ge _ _ _ _,?_,hrep,?_⟩
  ·rw [size_zeroCells,hzl]
  ·have hiz:q.zero=some z:=hz0
   simp [Builtin.append_,q1a hu.ud,q1a hni.ud,q4e (P:=P) (t:=e) (agg:=agg) (sz:=sz),typeInfo,zeroValue,hi,hiz,asInt,asIntOf,nw,n0,n1,n2,n3,n4,n6,n7,Question.forced,hold,newRow,grownCap]
   intro hh;exact absurd hh n5
theorem qpt {t t' e:TypeId} {sz bytes:Nat} {agg:Bool} {zs:List AV} [hu:SlI P t e] [hni:UdI P t' (.int .i64)] [ht:TyI P e agg sz] [hz:ZcI P e zs] [hby:ByI P e bytes] {S:List Slot} {a:Act} {w:World} {QQ:Exit→Act→World→Prop} {d:Nat} {pos:String} {after:Array Edge} {x y:Operand} {b i k c id:Nat} {o:AObj} {s:Slot} {arr:Array Value} {et:TypeId}
  (hzs:zs.length=sz) (hc:CR N env H S a w) (hd:d<N) (hx:aev env x = .raw (.slice (some ⟨b,0,none⟩) i c)) (hy:aev env y = .int .i64 (k:Int)) (hid:H[id]?=some o) (hs:S[id]?=some s) (hp:s.place=some b) (hsz:o.sz=sz)
  (hb:w.heap[b]?=some (Obj.cells arr et (0,0))) (hfit:c * o.sz≤arr.size) (hic:i≤c) (hi:i≤o.rows.length) (hk:0<k) (hroom:c<i+k) (h63:i+k≤9223372036854775807) (hby':(i+k) * bytes≤140737488355328)
  (next:∀ a' S' w',CR N ((d,.sl H.length 0 0 (i+k) (i+k)) :: env) (H++[⟨0,sz,o.rows.take i++List.replicate k zs⟩]) S' a' w'→Ext S w S' w'→wpList P ops QQ rest a' w') :
  wpList P ops QQ (⟨some d,.call { callee:=.builtin .append,args:=#[x,y],argTypes:=#[t,t'] },ty,pos,after,none⟩ :: rest) a w:=by
 have ok:=hc.heap.obj id o s hid hs
 have hpos:=ok.pos
 have hc1:CR 1 [(0,.sl id o.gen 0 i i)] H S { tmps:=#[.slice (some ⟨b,0,none⟩) i c],defers:=[] } w:=⟨hc.heap,fun t=>by
   cases t with
   | zero=>exact .sl s hs Yz rfl fun _=>⟨c,by omega,by omega,.inr ⟨b,arr,et,hp,by rw [Nat.zero_mul];rfl,hb,by rw [← ok.sz,Nat.zero_add];exact hfit⟩⟩
   | succ t=>exact .junk,rfl,rfl⟩
 obtain ⟨olds,hr⟩:=qt4 (P:=P) hc1 (x:=.tmp 0) rfl hid (ys:=o.rows.take i) (by rw [List.drop_zero]) Y1x
 have hlen:(o.rows.take i).length=i:=by simp;omega
 have hold:=hr.first w.drew rfl
 rw [hlen,hsz] at hold
 obtain ⟨cap',more,rest',g1,g2,g3,g4⟩:=qd9 (P:=P) (t:=t) (t':=t') (e:=e) (ty:=ty) (sz:=sz) (bytes:=bytes) (agg:=agg) (zs:=zs) S (w:=w) (ad:=⟨b,0,none⟩) hzs (by omega) hold hk hroom h63 hby'
 have hm:=Made.drew_alloc w (olds++more++rest') e
 have hwide:∀ r∈o.rows.take i++List.replicate k zs,r.length=sz:=by
  intro r hr'
  rcases List.mem_append.1 hr' with h | h
  ·rw [← hsz];exact hr.wide r h
  ·rw [List.eq_of_mem_replicate h];exact hzs
 have hrow0:RowOK (own S) S w sz (olds++more++rest') (o.rows.take i++List.replicate k zs):=RowOK.of_cells hwide (by rw [List.flatten_append];exact hr.cells.append g3)
 obtain ⟨hh,hx'⟩:=hc.heap.made hm (by omega) hrow0
 refine wpList_plain rfl fun nx hnx=>?_
 have hrun:(execOp a.eval ⟨some d,.call { callee:=.builtin .append,args:=#[x,y],argTypes:=#[t,t'] },ty,pos,after,none⟩).run P w = .ok (.value (.slice (some ⟨w.heap.size,0,none⟩) (i+k) cap')) (w.drew.alloc (.cells (olds++more++rest') e)):=by
  simp [execOp,resolve,invoke,builtin,qlk hc hx,q1e hc hy,g4]
 unfold Oper.wp
 rw [hrun]
 refine hnx _ _ (next _ _ _ (CR.put (d:=some d) hc hx' hh Y1f ?_) hx')
 refine .sl ⟨0,sz,some w.heap.size⟩ (by rw [hc.heap.len];exact SExt.last S _) (Nat.le_refl _) rfl fun _=>⟨cap',g1,g1,.inr ⟨w.heap.size,_,_,rfl,by simp,hm.new,?_⟩⟩
 have h1:=hr.cells.1
 have h2:=g3.1
 rw [q3j hr.wide,hlen,hsz] at h1
 rw [q3j (sz:=sz) (fun r h=>by rw [List.eq_of_mem_replicate h];exact hzs),List.length_replicate] at h2
 simp only [Array.size_append,← h1,← h2,g2,Nat.zero_add,← Nat.add_mul]
 exact Nat.mul_le_mul_right _ (by omega)
theorem qu1 {tS t' e:TypeId} {sz bytes n m i id g cap r8 r9:Nat} {agg:Bool} {zs:List AV} [hu:SlI P tS e] [hni:UdI P t' (.int .i64)] [ht:TyI P e agg sz] [hz:ZcI P e zs] [hby:ByI P e bytes] {Y:Code} {o:AObj} {v:AV}
  {y1 y2 y3 y4 y5 y6 z1 z2 z3 z4 z5 z6 z7 z8 z9 z10:TypeId} {p1 p2 p3 p4 p5 p6 q1 q2 q3 q4 q5 q6 q7 q8 q9 q10:String} {a1 a2 a3 a4 a5 a6 b1 b2 b3 b4 b5 b6 b7 b8 b9 b10:Array Edge}
  {k1 k2 k3 k4 k5 k6 k7 k8:TypeId}
  (hN:41≤N) (h0:get env 0 = .sl id g 0 n cap) (h1:get env 1 = .int .i64 (i:Int)) (h2:get env 2=v) (h7:get env 7 = .int .i64 (m:Int)) (h8:get env 8 = .int .i64 (n:Int)) (hid:H[id]?=some o) (hg:o.gen=g) (hsz:o.sz=sz) (hzs:zs.length=sz)
  (hnr:n≤o.rows.length) (hi:i<n) (hm:0<m) (hbig:n+m≤1000000) (hbb:bytes≤1000000)
  (hroom:Q .nrm [(0,.sl id g 0 n (n+m)),(1,.int .i64 (i:Int)),(2,v),(7,.int .i64 (m:Int)),(8,.int .i64 (n:Int))] H)
  (hgrow:AWp P N B Y Q [(9,.sl H.length 0 0 (n+m) (n+m)),(0,.sl id g 0 n n),(1,.int .i64 (i:Int)),(2,v),(7,.int .i64 (m:Int)),(8,.int .i64 (n:Int))] (H++[⟨0,sz,o.rows.take i++List.replicate (n+m-i) zs⟩])) :
  AWp P N B (.seq (.region r8 #[⟨some 26,.move (.tmp 8),y1,p1,a1,none⟩,⟨some 27,.move (.tmp 7),y2,p2,a2,none⟩,⟨some 28,.binOp .add k1 (.tmp 26) (.tmp 27) k2,y3,p3,a3,none⟩,⟨some 29,.move (.tmp 0),y4,p4,a4,none⟩,
    ⟨some 30,.call { callee:=.builtin .cap,args:=#[.tmp 29],argTypes:=#[tS] },y5,p5,a5,none⟩,⟨some 31,.binOp .gtr k3 (.tmp 28) (.tmp 30) k4,y6,p6,a6,none⟩] false)
   (.cond (.tmp 31) (.seq (.region r9 #[⟨some 32,.move (.tmp 0),z1,q1,b1,none⟩,⟨some 33,.move (.tmp 1),z2,q2,b2,none⟩,⟨some 34,.slice tS (.tmp 32) none (some (.tmp 33)) none,z3,q3,b3,none⟩,⟨some 35,.move (.tmp 8),z4,q4,b4,none⟩,⟨some 36,.move (.tmp 7),z5,q5,b5,none⟩,
    ⟨some 37,.binOp .add k5 (.tmp 35) (.tmp 36) k6,z6,q6,b6,none⟩,⟨some 38,.move (.tmp 1),z7,q7,b7,none⟩,⟨some 39,.binOp .sub k7 (.tmp 37) (.tmp 38) k8,z8,q8,b8,none⟩,⟨some 40,.call { callee:=.builtin .append,args:=#[.tmp 34,.tmp 39],argTypes:=#[tS,t'] },z9,q9,b9,none⟩,⟨some 9,.assign (.tmp 40),z10,q10,b10,none⟩] false) Y) .skip)) Q env H:=by
 intro S a w hc hb
 subst hg
 obtain ⟨s,c,hs,ok,hcc,hlc,h⟩:=hc.slc (x:=.tmp 0) h0 hid
 rcases h with ⟨q0,ad,he⟩ | ⟨b,arr,et,hp,he,hbl,hfit,hrow⟩
 ·omega
 have he':a.tmps.getD 0 undef = .slice (some ⟨b,0 * o.sz,none⟩) n c:=he
 rw [Nat.zero_mul] at he'
 have hc0:=hc.raw0 0
 rw [he'] at hc0
 rw [Nat.zero_add] at hfit
 have w1:IntKind.i64.wrap ((n:Int)+(m:Int))=((n+m:Nat):Int):=by rw [IntKind.wrap_i64];omega
 have w2:IntKind.i64.wrap (((n+m:Nat):Int)-(i:Int))=((n+m-i:Nat):Int):=by rw [IntKind.wrap_i64];omega
 refine wp_seq (wp_region_lit ?_)
 refine lo1 hc0 (by omega) (qi (v:=.int .i64 (n:Int)) h8) fun a hc=>?_
 refine lo1 hc (by omega) (qi (v:=.int .i64 (m:Int)) h7) fun a hc=>?_
 refine lo1 hc (by omega) (q1x rfl rfl w1) fun a hc=>?_
 refine lo1 hc (by omega) (qi (v:=.raw (.slice (some ⟨b,0,none⟩) n c)) rfl) fun a hc=>?_
 refine lo1 hc (by omega) (qy2 (e:=e) rfl) fun a hc=>?_
 refine lo1 hc (by omega) (qwm rfl rfl) fun a hc=>?_
 refine wpList_nil ?_
 have hsl:∀ k,k≤c→VR (own S) w S (.sl id o.gen 0 n k) (.slice (some ⟨b,0,none⟩) n c):=fun k hk=>.sl s hs Yz rfl fun _=>⟨c,hk,hlc,.inr ⟨b,arr,et,hp,by rw [Nat.zero_mul],hbl,by rw [Nat.zero_add,← ok.sz];exact hfit⟩⟩
 by_cases hr:n+m≤c
 ·have e31:a.eval (.tmp 31) = .bool false:=qby hc (x:=.tmp 31) (by show AV.bool _=_;congr 1;simp;omega)
  refine wp_cond_false e31 ?_
  refine q86 hroom S a w ⟨hc.heap,fun t=>?_,hc.size,hc.defers⟩ hb
  have hv0:a.tmps.getD 0 undef = .slice (some ⟨b,0,none⟩) n c:=qlk hc (x:=.tmp 0) rfl
  have hv:=hc.env t
  by_cases e0:t=0
  ·subst e0
   rw [hv0]
   exact hsl _ hr
  by_cases e1:t=1
  ·subst e1;have:=hv;simp only [get,Nat.beq] at this ⊢;rw [h1] at this;exact this
  by_cases e2:t=2
  ·subst e2;have:=hv;simp only [get,Nat.beq] at this ⊢;rw [h2] at this;exact this
  by_cases e7:t=7
  ·subst e7;have:=hv;simp only [get,Nat.beq] at this ⊢;rw [h7] at this;exact this
  by_cases e8:t=8
  ·subst e8;have:=hv;simp only [get,Nat.beq] at this ⊢;rw [h8] at this;exact this
  ·rw [qg _ _ (Ne.symm e0),qg _ _ (Ne.symm e1),qg _ _ (Ne.symm e2),qg _ _ (Ne.symm e7),qg _ _ (Ne.symm e8)]
   exact .junk
 ·have e31:a.eval (.tmp 31) = .bool true:=qby hc (x:=.tmp 31) (by show AV.bool _=_;congr 1;simp;omega)
  refine wp_cond_true e31 ?_
  refine wp_seq (wp_region_lit ?_)
  refine lo1 hc (by omega) (qi (v:=.raw (.slice (some ⟨b,0,none⟩) n c)) rfl) fun a hc=>?_
  refine lo1 hc (by omega) (qi (v:=.int .i64 (i:Int)) h1) fun a hc=>?_
  refine lo1 hc (by omega) (qqm (e:=e) (agg:=agg) (sz:=sz) rfl rfl (by omega) (by omega)) fun a hc=>?_
  refine lo1 hc (by omega) (qi (v:=.int .i64 (n:Int)) h8) fun a hc=>?_
  refine lo1 hc (by omega) (qi (v:=.int .i64 (m:Int)) h7) fun a hc=>?_
  refine lo1 hc (by omega) (q1x rfl rfl w1) fun a hc=>?_
  refine lo1 hc (by omega) (qi (v:=.int .i64 (i:Int)) h1) fun a hc=>?_
  refine lo1 hc (by omega) (q30 rfl rfl w2) fun a hc=>?_
  have e9:i+(n+m-i)=n+m:=by omega
  have hbb':(i+(n+m-i)) * bytes≤140737488355328:=by
   rw [e9]
   exact Nat.le_trans (Nat.mul_le_mul hbig hbb) (by decide)
  refine qpt (e:=e) (agg:=agg) (bytes:=bytes) hzs hc (by omega) rfl rfl hid hs hp hsz hbl hfit (by omega) (by omega) (by omega) (by omega) (by omega) hbb' fun a S' w' hc hx'=>?_
  rw [e9] at hc
  refine lo1 hc (by omega) (q11 (v:=.sl H.length 0 0 (n+m) (n+m)) rfl) fun a hc=>?_
  refine wpList_nil ?_
  refine hgrow S' a w' ⟨hc.heap,fun t=>?_,hc.size,hc.defers⟩ (hb.trans hx')
  have hv0:a.tmps.getD 0 undef = .slice (some ⟨b,0,none⟩) n c:=qlk hc (x:=.tmp 0) rfl
  have hv:=hc.env t
  by_cases e9:t=9
  ·subst e9;exact hv
  by_cases e0:t=0
  ·subst e0
   rw [hv0]
   exact (hsl n hlc).ext hx'
  by_cases e1:t=1
  ·subst e1;have:=hv;simp only [get,Nat.beq] at this ⊢;rw [h1] at this;exact this
  by_cases e2:t=2
  ·subst e2;have:=hv;simp only [get,Nat.beq] at this ⊢;rw [h2] at this;exact this
  by_cases e7:t=7
  ·subst e7;have:=hv;simp only [get,Nat.beq] at this ⊢;rw [h7] at this;exact this
  by_cases e8:t=8
  ·subst e8;have:=hv;simp only [get,Nat.beq] at this ⊢;rw [h8] at this;exact this
  ·rw [qg _ _ (Ne.symm e9),qg _ _ (Ne.symm e0),qg _ _ (Ne.symm e1),qg _ _ (Ne.symm e2),qg _ _ (Ne.symm e7),qg _ _ (Ne.symm e8)]
   exact .junk
end
end Go.Av
namespace Go.Av
open Go.Proofs
theorem qw6 {P:Program} {N:Nat} {env:Env} {H0 L:qf} {ty:TypeId} {t t' e:TypeId} {x y:Operand} {n k g off len cap sz full:Nat} {agg:Bool} {o:AObj} (ys:List (List AV)) [hu:SlI P t e] [TyI P e agg sz] (hx:aev env x = .sl (Lid n k) g off len cap) (hn:H0.length=n) (hk:L[k]?=some o) (hg:o.gen=g) (hsz:o.sz=sz) (hoff:off≤o.rows.length)
  (hy:SrcN P N env (H0++L) y sz full ys) (hmin:Nat.min full len=ys.length) :
  V2 P N (.call { callee:=.builtin .copy,args:=#[x,y],argTypes:=#[t,t'] }) ty env (H0++L) (.int .i64 (ys.length:Int)) (H0++L.set k { o with rows:=o.rows.take off++ys++o.rows.drop (off+ys.length) }):=by
 subst hg
 have:=q104 (P:=P) (N:=N) (ty:=ty) (t:=t) (t':=t') (e:=e) (agg:=agg) hx (lk hn hk) hsz hoff hy hmin
 rwa [st hn] at this
theorem qv6 {P:Program} {N:Nat} {env:Env} {H0 L:qf} {ty:TypeId} {t t' e:TypeId} {x y:Operand} {id g off len cap sz full:Nat} {agg:Bool} {o:AObj} (ys:List (List AV)) [hu:SlI P t e] [TyI P e agg sz] (hx:aev env x = .sl id g off len cap) (hid:H0[id]?=some o) (hg:o.gen=g) (hsz:o.sz=sz) (hoff:off≤o.rows.length)
  (hy:SrcN P N env (H0++L) y sz full ys) (hmin:Nat.min full len=ys.length) :
  V2 P N (.call { callee:=.builtin .copy,args:=#[x,y],argTypes:=#[t,t'] }) ty env (H0++L) (.int .i64 (ys.length:Int)) (H0.set id { o with rows:=o.rows.take off++ys++o.rows.drop (off+ys.length) }++L):=by
 subst hg
 have:=q104 (P:=P) (N:=N) (ty:=ty) (t:=t) (t':=t') (e:=e) (agg:=agg) hx (lkF hid) hsz hoff hy hmin
 rwa [stF hid] at this
theorem qlu {P:Program} {B:Base} {rs:List ResultVar} {env:Env} {H M:qf} {v:AV} {R:AOut→qf→Prop} (h:Ends P B rs (Ret v M) .ret env H) (hr:R (.ret v) M):Ends P B rs R .ret env H:=by
 obtain ⟨vs,M',h1,h2,h3,h4⟩:=h
 exact ⟨vs,M',h1,h2,by rw [h3,h4];exact hr⟩
def InsR (v:AV) (H:qf) (id:Nat):AOut→qf→Prop:=fun o H'=>∃ q:AObj,o = .ret v∧H'=H.set id q
theorem qqi (x y:Held) (ia:Nat) (H:qf) (hx:x.things.length≤1000000) (hy:y.things.length≤1000000) (ha:H[ia]?=some ⟨0,4,[qj y]⟩):AC Tryz.prog 237 [.agg (qj x),.pt ia 0 0 0] H (Ret (.bool (q5y x y)) H):=by
 have hF:=ha
 refine AC.body (N:=7) [.tmp 3] Tryz.func237 rfl rfl rfl (Nat.le_of_ble_eq_true rfl) fun B hB=>?_
 refine Zc5 ?_
 refine Z2w ?_
 refine Z3v ?_
 refine Zci ?_
 refine Zcj ?_
 exact Z1q
theorem qca (F:Nat) [FnI Tryz.prog F] (caps:List AV) (p:Held→Bool) (l:List Held) (H:qf) (hl1:l.length≤1000000) (hF:∀ x∈l,∀ L',AC Tryz.prog F (.agg (qj x) :: caps) (H++L') (Ret (.bool (p x)) (H++L'))) :
  AC Tryz.prog 152 [.pl (l.map qj),.fn (.func F) [] caps] H (Ret (.int .i64 (ixf p l)) H):=by
 refine AC.body (N:=19) [.tmp 4] Tryz.func152 rfl rfl rfl (Nat.le_of_ble_eq_true rfl) fun B hB=>?_
 refine Z77 ?_
 refine qm (G:=Nat) (fun k=>k≤l.length∧∀ y∈l.take k,p y=false) (fun k=>[(0,.pl (l.map qj)),(1,.fn (.func F) [] caps),(7,.int .i64 (l.length:Int)),(8,.int .i64 (k:Int))]) (fun _=>H++[]) (fun k=>l.length-k) 0 ⟨Nat.zero_le _,by simp⟩ Y8 (Fit.refl _ _) ?_
 rintro k ⟨hk,hno⟩
 refine Z4r ?_
 refine qa rfl (fun hc=>?_) (fun hc=>?_)
 ·have hlt:k<l.length:=by simp at hc;omega
  obtain ⟨x,hx,hxl⟩:=qr hlt
  have hr:=qk qj hx
  have hcall:=hF x hxl
  refine Z1c ?_
  refine Z1s ?_
  refine Zbr ?_
  refine Z9t ?_
  refine Zli ?_
  refine Z48 ?_
  refine qa rfl (fun hc=>?_) (fun hc=>?_)
  ·refine Z1t ?_
   rw [qbi (p:=p) hx hc hno]
   exact Zb
  ·refine Z52 ?_
   refine ⟨k+1,by omega,⟨by omega,?_⟩,Y8,.refl _ _⟩
   rw [ql hx]
   intro y hy
   rcases List.mem_append.1 hy with h | h
   ·exact hno y h
   ·simp only [List.mem_singleton] at h
    subst h
    exact hc
 ·have:k=l.length:=by simp at hc;omega
  subst this
  rw [List.take_length] at hno
  rw [qba hno]
  exact Z18
theorem q9e (F:Nat) [FnI Tryz.prog F] (caps:List AV) (p:Held→Bool) (l:List Held) (H:qf) (hl1:l.length≤1000000) (hF:∀ x∈l,∀ L',AC Tryz.prog F (.agg (qj x) :: caps) (H++L') (Ret (.bool (p x)) (H++L'))) :
  AC Tryz.prog 112 [.pl (l.map qj),.fn (.func F) [] caps] H (Ret (.bool (l.any p)) H):=by
 refine AC.body (N:=9) [.tmp 4] Tryz.func112 rfl rfl rfl (Nat.le_of_ble_eq_true rfl) fun B hB=>?_
 refine Z1o ?_
 refine Z45 ?_
 refine Z1r ?_
 refine ao2 Y1k (V2.call (qca F caps p l _ hl1 (fun x hx L'=>by rw [List.append_assoc];exact hF x hx _)) rfl) ?_
 refine Z1p ?_
 refine Zbs ?_
 refine Z1 ?_
 rw [← q73]
 exact Zb
set_option maxHeartbeats 0 in
theorem qg0 (l:List Held) (h:Held) (i id g iv gv:Nat) (H:qf) (hid:H[id]?=some ⟨g,4,l.map qj⟩) (hiv:H[iv]?=some ⟨gv,4,[qj h]⟩) (hne:iv≠id) (hi:i≤l.length) (hl:l.length≤1000) :
  AC Tryz.prog 238 [.sl id g 0 l.length l.length,.int .i64 (i:Int),.sl iv gv 0 1 1] H (InsR (.pl ((l.take i++h :: l.drop i).map qj)) H id):=by
 have hF:=hid
 have hlm:(l.map qj).length=l.length:=by simp
 refine AC.body (N:=95) [.tmp 6] Tryz.func238 rfl rfl rfl (Nat.le_of_ble_eq_true rfl) fun B hB=>?_
 refine Z43 ?_
 refine Z8p ?_
 refine Zmu ?_
 refine qe ?_
 refine Z8o ?_
 refine ao1 (by decide) (qex rfl (lkF hiv) rfl) ?_
 refine Z4 ?_
 refine Z17 ?_
 refine qa rfl (fun hc=>?_) (fun hc=>?_)
 ·simp at hc
 clear hc
 refine Z8o ?_
 refine Zi7 ?_
 refine Z4 ?_
 refine Z2k ?_
 refine Z16 ?_
 refine qa rfl (fun hc=>?_) (fun hc=>?_)
 ·obtain rfl:i=l.length:=by simp at hc;omega
  refine Zi9 ?_
  refine ao2 Y1k (q5f (l.length+1) rfl hF rfl rfl (Src.sl (o:=⟨gv,4,[qj h]⟩) rfl (lkF hiv) rfl rfl rfl) rfl (by simp) Y1x Y1x (by simp)) ?_
  refine Z8s ?_
  try dsimp only [put]
  have hF2:(H.set id ⟨g+1,4,(l.map qj).take l.length++List.take 1 (List.drop 0 [qj h])⟩)[id]?=some ⟨g+1,4,(l.map qj).take l.length++List.take 1 (List.drop 0 [qj h])⟩:=List.getElem?_set_self (List.getElem?_eq_some_iff.1 hid).1
  refine Z1d ?_
  refine qe9 (o:=⟨g+1,4,(l.map qj).take l.length++List.take 1 (List.drop 0 [qj h])⟩) (ys:=(l.take l.length++h :: l.drop l.length).map qj) 6 rfl (lkF hF2) ?_ (by simp) (q1f 0 _) ?_
  ·rw [List.take_of_length_le (by simp),List.drop_length,List.map_append,List.take_of_length_le (by simp),List.take_of_length_le (by simp)]
   simp
  rw [stF hF2,List.set_set]
  refine q2z ?_
  refine qlu (M:=H.set id ⟨g+1+1,4,[]⟩) ?_ ⟨_,rfl,rfl⟩
  exact q3v hB (q2o rfl .nil) rfl rfl (by simp) (hB.heap.set _ _ (by simp))
 have hil:i<l.length:=by simp at hc;omega
 clear hc
 refine q86 ?_
 refine q5u ?_
 refine qaj ?_
 refine qu1 (N:=95) (v:=.sl iv gv 0 1 1) (n:=l.length) (m:=1) (i:=i) (e:=95) (sz:=4) (bytes:=48) (by decide) (by rfl) (by rfl) (by rfl) (by rfl) (by rfl) (lkF hF) (by rfl) (by rfl) (by rfl) (by simp) hil (by omega) (by omega) (by omega) ?_ ?_
 ·
  refine Zi6 ?_
  refine ao1 (by decide) (q1x (r:=((l.length+1:Nat):Int)) rfl rfl (by rw [show (l.length:Int)+((1:Nat):Int)=((l.length+1:Nat):Int) by omega];exact qc (by omega) (by omega))) ?_
  refine ao1 (by decide) (q59 rfl (lkF hF) rfl rfl .none (.some rfl rfl) (by omega) (by omega)) ?_
  refine Z8s ?_
  refine Z3z ?_
  refine Zi9 ?_
  refine Z2r ?_
  refine ao1 (by decide) (q1x (r:=((i+1:Nat):Int)) rfl rfl (by rw [show (i:Int)+((1:Nat):Int)=((i+1:Nat):Int) by omega];exact qc (by omega) (by omega))) ?_
  refine Zmu ?_
  refine ao1 (by decide) (qre (tS:=43) (tR:=4) Tryz.func255 Y1z Y1z Y1z Y1z rfl (lkF hiv) rfl rfl (lkF hF) rfl hne (by omega) (by omega) rfl) ?_
  refine Z3x ?_
  refine qa rfl (fun hc=>?_) (fun hc=>?_)
  ·clear hc
   have e1:((l.map qj).take (0+(i+1))).length=i+1:=by simp;omega
   have e2:((l.map qj).drop (0+i)).take (l.length-i)=(l.drop i).map qj:=by
    rw [Nat.zero_add,List.map_drop,List.take_of_length_le (by simp)]
   have e3:((l.drop i).map qj).length=l.length-i:=by simp
   refine Z1 ?_
   refine Zmv ?_
   refine Zbw ?_
   refine Z8z ?_
   refine Zmw ?_
   refine aqp 4 rfl Y1q (by decide) (fun G=>q59 rfl (lkF hF) rfl rfl (.some rfl rfl) .none (by omega) (by omega)) ?_
   refine Zlw ?_
   refine Zmx ?_
   refine aqs 8 rfl Y1q Y1b Y1k (qv6 ((l.drop i).map qj) rfl hF rfl rfl Y1x (SrcN.sl (n:=l.length-i) (o:=⟨g,4,l.map qj⟩) rfl (lkF hF) rfl rfl (by omega) e2 e3) (by rw [e3];simp [Nat.min_def]<;>omega)) ?_
   refine Z7d ?_
   try dsimp only [put]
   have e4:(l.map qj).take (0+(i+1))++(l.drop i).map qj++(l.map qj).drop (0+(i+1)+((l.drop i).map qj).length)=(l.take i++[(l[i]'hil)]++l.drop i).map qj:=by
    have h1:(l.map qj).take (0+(i+1))=(l.take i++[(l[i]'hil)]).map qj:=by rw [Nat.zero_add,← List.map_take,List.take_succ_eq_append_getElem hil]
    rw [h1,show (l.map qj).drop (0+(i+1)+((l.drop i).map qj).length)=[] from List.drop_eq_nil_of_le Y1x,List.append_nil]
    exact List.map_append.symm
   rw [e4]
   have hl2:(l.take i++[(l[i]'hil)]++l.drop i).length=l.length+1:=by simp;omega
   have e7:(l.take i++[(l[i]'hil)]++l.drop i).take i=l.take i:=by rw [List.append_assoc,List.take_append_of_le_length Y1x,List.take_take,Nat.min_self]
   have e8:(l.take i++[(l[i]'hil)]++l.drop i).drop (i+1)=l.drop i:=by
    have:(l.take i++[(l[i]'hil)]).length=i+1:=by simp;omega
    rw [← this,List.drop_left]
   generalize l.take i++[(l[i]'hil)]++l.drop i=m at *
   have hF2:(H.set id ⟨g,4,m.map qj⟩)[id]?=some ⟨g,4,m.map qj⟩:=List.getElem?_set_self (List.getElem?_eq_some_iff.1 hid).1
   have hiv2:(H.set id ⟨g,4,m.map qj⟩)[iv]?=some ⟨gv,4,[qj h]⟩:=by rw [List.getElem?_set_ne (Ne.symm hne)];exact hiv
   refine Z8p ?_
   refine ao1 (by decide) (q59 rfl (lkF hF2) rfl rfl (.some rfl rfl) .none (by omega) (by omega)) ?_
   refine Z8n ?_
   refine ao2 Y1k (qv6 [qj h] rfl hF2 rfl rfl Y1x (SrcN.sl (n:=1) (o:=⟨gv,4,[qj h]⟩) rfl (lkF hiv2) rfl rfl (Nat.le_refl _) rfl rfl) (by simp [Nat.min_def]<;>omega)) ?_
   refine qe ?_
   try dsimp only [put,List.length_cons,List.length_nil,Nat.reduceAdd]
   rw [List.set_set]
   have e9:(m.map qj).take (0+i)++[qj h]++(m.map qj).drop (0+i+1)=(l.take i++h :: l.drop i).map qj:=by
    rw [Nat.zero_add,← List.map_take,e7,← List.map_drop,e8]
    simp
   rw [e9]
   generalize hy:l.take i++h :: l.drop i=y at *
   have hyl:y.length=l.length+1:=by rw [← hy];simp;omega
   have hF3:(H.set id ⟨g,4,y.map qj⟩)[id]?=some ⟨g,4,y.map qj⟩:=List.getElem?_set_self (List.getElem?_eq_some_iff.1 hid).1
   refine Z8w ?_
   refine qe9 (o:=⟨g,4,y.map qj⟩) (ys:=y.map qj) 6 rfl (lkF hF3) Yk Y1x (q1f 0 _) ?_
   rw [stF hF3,List.set_set]
   refine q2z ?_
   refine qlu (M:=H.set id ⟨g+1,4,[]⟩) ?_ ⟨_,rfl,rfl⟩
   exact q3v hB (q2o rfl .nil) rfl rfl (by simp) (hB.heap.set _ _ (by simp))
  ·simp at hc
 ·rw [show (H++([]:qf)).length=Lid H.length 0 by simp [Lid],List.append_nil]
  have e1:((l.map qj).take i).length=i:=by simp;omega
  refine Z8p ?_
  refine ao1 (by decide) (q59 rfl (lk rfl rfl) rfl rfl (.some rfl rfl) .none (by omega) (by omega)) ?_
  refine Z8n ?_
  refine ao2 Y1k (qw6 [qj h] rfl rfl rfl rfl rfl Y1x (SrcN.sl (n:=1) (o:=⟨gv,4,[qj h]⟩) rfl (lkF hiv) rfl rfl (Nat.le_refl _) rfl rfl) (by simp [Nat.min_def];omega)) ?_
  refine qe ?_
  try dsimp only [put,List.length_cons,List.length_nil,Nat.reduceAdd,List.set_cons_zero]
  have e2:((l.map qj).drop (0+i)).take (l.length-i)=(l.drop i).map qj:=by
   rw [Nat.zero_add,List.map_drop,List.take_of_length_le (by simp)]
  have e3:((l.drop i).map qj).length=l.length-i:=by simp
  rw [show ∀ zs:List AV,((l.map qj).take i++List.replicate (l.length+1-i) zs).take (0+i)++[qj h]++((l.map qj).take i++List.replicate (l.length+1-i) zs).drop (0+i+1)=(l.map qj).take i++[qj h]++List.replicate (l.length-i) zs from fun zs=>by
   rw [Nat.zero_add,List.take_append_of_le_length (by omega),List.take_of_length_le (by omega),List.drop_append,List.drop_eq_nil_of_le (by omega),List.nil_append,List.drop_replicate,e1,show l.length+1-i-(i+1-i)=l.length-i by omega]]
  refine Z1 ?_
  refine Zmv ?_
  refine Zmy ?_
  refine Zbw ?_
  refine Z8z ?_
  refine Zmw ?_
  refine aqp 4 rfl Y1q (by decide) (fun G=>q59 rfl (lk rfl rfl) rfl rfl (.some rfl rfl) .none (by omega) (by omega)) ?_
  refine Zlw ?_
  refine Zmx ?_
  refine aqs 8 rfl Y1q Y1b Y1k (qw6 ((l.drop i).map qj) rfl rfl rfl rfl rfl Y1x (SrcN.sl (n:=l.length-i) (o:=⟨g,4,l.map qj⟩) rfl (lkF hF) rfl rfl (by omega) e2 e3) (by rw [e3];simp [Nat.min_def]<;>omega)) ?_
  refine Z7d ?_
  refine Z7a ?_
  rw [show ∀ zs:List AV,((l.map qj).take i++[qj h]++List.replicate (l.length-i) zs).take (0+(i+1))++(l.drop i).map qj++((l.map qj).take i++[qj h]++List.replicate (l.length-i) zs).drop (0+(i+1)+((l.drop i).map qj).length)=(l.take i++h :: l.drop i).map qj from fun zs=>by
   have h1:((l.map qj).take i++[qj h]).length=i+1:=by simp;omega
   rw [Nat.zero_add,show ((l.map qj).take i++[qj h]++List.replicate (l.length-i) zs).drop (i+1+((l.drop i).map qj).length)=[] from List.drop_eq_nil_of_le Y1x,List.append_nil,show ((l.map qj).take i++[qj h]++List.replicate (l.length-i) zs).take (i+1)=(l.map qj).take i++[qj h] by rw [← h1,List.take_left]]
   simp]
  generalize hy:l.take i++h :: l.drop i=y at *
  have hyl:y.length=l.length+1:=by rw [← hy];simp;omega
  refine Z8w ?_
  refine qp (ys:=y.map qj) 6 rfl rfl rfl rfl Yk Y1x (q1f 0 _) ?_
  refine q2z ?_
  refine qlu (M:=H) ?_ ⟨⟨g,4,l.map qj⟩,rfl,(q3k hid).symm⟩
  exact Zb
set_option maxHeartbeats 0 in
theorem qph (l:List Held) (h:Held) (H:qf) (hw:HW l) (hh:h.things.length≤1000000):AC Tryz.prog 204 [.pl (l.map qj),.agg (qj h)] H (Ret (.tup [.pl ((q1d l h).1.map qj),.int .i64 (q1d l h).2]) H):=by
 have hw1:=hw.1
 refine AC.body (N:=46) [.tmp 4,.tmp 5] Tryz.func204 rfl rfl rfl (Nat.le_of_ble_eq_true rfl) fun B hB=>?_
 refine Zc5 ?_
 refine Z41 ?_
 refine Z3t ?_
 refine Z45 ?_
 refine Zia ?_
 refine Z8s ?_
 refine Zib ?_
 refine Z1 ?_
 refine qq 18 (.bool (!(q2a l&&hmay h))) ?_ ?_
 ·refine Z44 ?_
  refine Zea ?_
  refine Z23 ?_
  refine qb rfl rfl (fun hg3=>?_) (fun hg3=>?_)
  ·refine Z3n ?_
   exact Zhi
  ·refine Z5i ?_
   refine q6d rfl rfl (by decide) (V2.call (qo9 _ _ Y1y) rfl) ?_
   refine Zhj ?_
   exact Zhi
 refine Z1 ?_
 refine qa rfl (fun hc=>?_) (fun hc=>?_)
 ·have he:q1d l h=(l,1):=by rw [q1d,if_pos hc]
  rw [he]
  refine Zhz ?_
  try dsimp only
  refine Z1d ?_
  refine Zic ?_
  exact Zi1
 have hyes:q2a l=true∧hmay h=true:=by simpa only [Bool.not_eq_false',Bool.and_eq_true] using hc
 have hs:=q8r hyes.1
 have hc1:=hc
 clear hc
 refine Z45 ?_
 refine Z30 ?_
 refine Zee ?_
 refine Z6j ?_
 refine Z3z ?_
 refine Z2n ?_
 refine Ze ?_
 refine qa rfl (fun hc=>?_) (fun hc=>?_)
 ·have he:q1d l h=(l,7):=by rw [q1d,if_neg Y1o,if_pos hc]
  rw [he]
  refine Zhz ?_
  try dsimp only
  refine Z1d ?_
  refine Zic ?_
  exact Zi1
 have hc2:=hc
 clear hc
 refine Z1 ?_
 refine qq 30 (.bool (decide (l.length=256)||l.any (fun x=>q5y x h))) ?_ ?_
 ·refine Z6t ?_
  refine Z3o ?_
  refine qb rfl rfl (fun hg3=>?_) (fun hg3=>?_)
  ·refine Z3c ?_
   refine Zn ?_
   exact Zjg
  ·refine Z9p ?_
   refine Zlo ?_
   refine q6d rfl rfl (by decide) (V2.call (q9e 237 [.pt (Lid H.length 0) 0 0 0] (fun x=>q5y x h) l _ hw1 (fun x hx L'=>qqi x h (Lid H.length 0) _ (hw.2 x hx) hh (lkF (lk rfl rfl)))) rfl) ?_
   refine Z3h ?_
   exact Zjg
 refine Z1 ?_
 refine qa rfl (fun hc=>?_) (fun hc=>?_)
 ·have he:q1d l h=(l,5):=by rw [q1d,if_neg Y1o,if_neg (by rw [hc2];decide),if_pos hc]
  rw [he]
  refine Zhz ?_
  try dsimp only
  refine Z1d ?_
  refine Zic ?_
  exact Zi1
 have he:q1d l h=(l.take (q2k l h.id)++h :: l.drop (q2k l h.id),0):=by rw [q1d,if_neg Y1o,if_neg (by rw [hc2];decide),if_neg Y1p]
 rw [he]
 have h256:l.length≤256:=by have:=hyes.1;simp only [q2a,Bool.and_eq_true,decide_eq_true_eq] at this;exact this.1
 have hpos:q2k l h.id≤l.length:=by unfold q2k;exact (List.takeWhile_prefix _).length_le
 generalize q2k l h.id=k at *
 generalize hy:l.take k++h :: l.drop k=y at *
 clear hc he hc1 hc2
 refine Z2 ?_
 refine ao1 (by decide) (qi (v:=.sl (Lid H.length 1) l.length 0 l.length l.length) rfl) ?_
 refine ao1 (by decide) (qi (v:=.int .i64 (k:Int)) rfl) ?_
 refine Z3u ?_
 refine ao2 Y1k (V2.call (qfg h _ hh) rfl) ?_
 refine ao2 Y1k (q2c (sz:=4) (k:=2) rfl (by decide) (by decide) rfl rfl rfl rfl rfl) ?_
 refine qfc rfl (by decide) (qg0 l h k (Lid H.length 1) l.length (Lid H.length 2) 0 _ (lk rfl rfl) (lk rfl rfl) Y1n hpos (by omega)) ?_ ?_
 ·rintro v H' ⟨q,e,rfl⟩
  injection e with e
  subst e
  rw [st rfl,hy]
  refine ao1 (by decide) (q11 (v:=.pl (y.map qj)) rfl) ?_
  refine ao1 (by decide) (q11 (v:=.int .i64 0) rfl) ?_
  refine qe ?_
  try dsimp only [put,AV.cells,List.cons_append,List.nil_append,List.set_cons_succ,List.set_cons_zero]
  exact Zi1
 ·rintro v H' ⟨q,e,_⟩
  cases e
end Go.Av
namespace Go.Av
open Go
section
variable {P : Program}
theorem qw3 {f:FuncId} {zs ds:List Int} {id g cap:Nat} {H:qf} {v:AV} (val:Option Addr→Nat→Value)
  (hid:H[id]?=some ⟨g,1,zs.map fun z=>[.int .i64 z]⟩) (hl:ds.length=zs.length)
  (h1:∀ blk off c w,Sort.Holds (Value.int .i64) w blk off zs.toArray→blk<w.heap.size→zs.length≤c→Calls P f #[.slice (some ⟨blk,off,none⟩) zs.length c] w fun e w'=>e = .returned (val (some ⟨blk,off,none⟩) c)∧∃ n os,w'=Sort.grow (Sort.putRow (Value.int .i64) (Sort.ahead w n) blk off ds.toArray) os)
  (h0:zs=[]→∀ a c w,Calls P f #[.slice a 0 c] w fun e w'=>e = .returned (val a c)∧w'=w)
  (hv:∀ S w ad c,VR (own S) w S (.sl id g 0 zs.length zs.length) (.slice ad zs.length c)→VR (own S) w S v (val ad c)) :
  AC P f [.sl id g 0 zs.length cap] H (Ret v (H.set id ⟨g,1,ds.map fun z=>[.int .i64 z]⟩)):=by
 intro S w cargs hH hargs
 obtain ⟨hal,hag⟩:=hargs
 have hsz:cargs.size=1:=by simpa using hal.symm
 obtain ⟨u,rfl⟩:∃ u,cargs = #[u]:=by
  match cargs,hsz with
  | ⟨[u]⟩,_=>exact ⟨u,rfl⟩
 have hu:=hag 0 _ u rfl rfl
 obtain ⟨s,hs,ok⟩:=hH.slot hid
 have hgen:s.gen=g:=ok.gen.symm
 have hssz:s.sz=1:=ok.sz.symm
 cases hu with
 | sl s' hs' hg' h1c hok =>
  rw [hs] at hs'
  obtain rfl:=Option.some.inj hs'
  obtain ⟨c,hcc,hlc,hcase⟩:=hok hgen
  rcases hcase with ⟨hc0,a,rfl⟩ | ⟨b,arr,ty,hp,rfl,hb,hfit⟩
  ·have hz:zs=[]:=List.eq_nil_of_length_eq_zero (by omega)
   subst hz
   have hd:ds=[]:=List.eq_nil_of_length_eq_zero (by simpa using hl)
   subst hd
   refine (h0 rfl a 0 w).mono ?_
   rintro e w' ⟨rfl,rfl⟩
   refine ⟨.ret v,_,S,⟨rfl,rfl⟩,.ret (hv S w' a 0 ?_),?_,Ext.refl S w'⟩
   ·exact .sl s hs (by omega) rfl fun _=>⟨0,Nat.le_refl _,Nat.le_refl _,.inl ⟨rfl,a,rfl⟩⟩
   ·have:H.set id ⟨g,1,List.map (fun z=>[AV.int .i64 z]) []⟩=H:=by
     apply List.ext_getElem?
     intro i
     by_cases ei:id=i
     ·subst ei
      rw [List.getElem?_set_self (List.getElem?_eq_some_iff.1 hid).1,hid]
     ·rw [List.getElem?_set_ne ei]
    rw [this]
    exact hH
  ·rw [Nat.zero_mul]
   rw [Nat.zero_mul] at h1c
   obtain ⟨arr',ty',h2,hrow⟩:=ok.row hp
   rw [hb] at h2
   injection h2 with h2
   injection h2 with e1 e2
   subst e1
   have hfit':zs.length≤arr.size:=by rw [hssz,Nat.zero_add,Nat.mul_one] at hfit;omega
   have hget:∀ j,(hj:j<zs.length)→arr[j]?=some (.int .i64 zs[j]):=by
    intro j hj
    have hr:((⟨g,1,zs.map fun z=>[.int .i64 z]⟩:AObj).rows)[j]?=some [.int .i64 zs[j]]:=by simp [hj]
    obtain ⟨k1,k2⟩:=hrow.2 j _ hr
    obtain ⟨_,u,k3,k4⟩:=k2 0 _ rfl
    simp only [Nat.mul_one,Nat.add_zero] at k3
    rw [k3]
    cases k4
    rfl
   have hholds:Sort.Holds (Value.int .i64) w b 0 zs.toArray:=by
    intro j hj
    have hj':j<zs.length:=by simpa using hj
    refine ⟨?_,by simp [World.frozen?,hb]⟩
    rw [cell_of_row w b (0+j) arr _ _ hb,Nat.zero_add,hget j hj']
    simp [hj']
   have hlt:b<w.heap.size:=qlc hH ⟨id,s,hs,hp⟩
   refine (h1 b 0 c w hholds hlt hlc).mono ?_
   rintro e w' ⟨rfl,n,os,rfl⟩
   have hrowsz:(Sort.putCells (Value.int .i64) 0 ds.toArray arr).size=arr.size:=by simp [Sort.putCells]
   have hw:=hH.write (rows':=ds.map fun z=>[.int .i64 z]) (arr':=Sort.putCells (Value.int .i64) 0 ds.toArray arr) hid hs hp hb hrowsz (by
    refine ⟨by rw [hrowsz];simp only [List.length_map,Nat.mul_one];omega,fun i r hr=>?_⟩
    rw [List.getElem?_map] at hr
    cases hd:ds[i]? with
    | none=>simp [hd] at hr
    | some z =>
     rw [hd] at hr
     obtain rfl:=Option.some.inj hr
     refine ⟨rfl,fun j v hv'=>?_⟩
     have hi:i<ds.length:=(List.getElem?_eq_some_iff.1 hd).1
     have hz:ds[i]=z:=(List.getElem?_eq_some_iff.1 hd).2
     have hj:j=0:=by
      have:=(List.getElem?_eq_some_iff.1 hv').1
      simpa using this
     subst hj
     obtain rfl:=Option.some.inj hv'
     refine ⟨rfl,.int .i64 z,?_,.int⟩
     have hi2:i<arr.size:=by omega
     simp [Sort.putCells,hi2,hi,hz])
   have hheap:∀ k,k<w.heap.size→(Sort.grow (Sort.putRow (Value.int .i64) (Sort.ahead w n) b 0 ds.toArray) os).heap[k]?=(w.setRow b (Sort.putCells (Value.int .i64) 0 ds.toArray arr)).heap[k]?:=by
    intro k hk
    rw [Sort.heap_grow_old _ _ (by simpa [Sort.ahead] using hk)]
    by_cases e:k=b
    ·subst e
     rw [setRow_heap w k arr _ ty (0,0) hb]
     simp [Sort.putRow,Sort.mapBlock,Sort.ahead,Array.getElem?_modify,hb,Sort.onCells]
    ·rw [setRow_other w b k _ e]
     simp [Sort.putRow,Sort.mapBlock,Sort.ahead,Array.getElem?_modify,Ne.symm e]
   have hx2:Ext S (w.setRow b (Sort.putCells (Value.int .i64) 0 ds.toArray arr)) S (Sort.grow (Sort.putRow (Value.int .i64) (Sort.ahead w n) b 0 ds.toArray) os):=by
    refine ⟨rfl,rfl,rfl,⟨by simp [Sort.grow,Sort.putRow,Sort.mapBlock,Sort.ahead],fun k hk ho=>⟨ho,?_⟩,fun k a t hk=>?_⟩,SExt.refl S⟩
    ·exact hheap k Y1s
    ·have hk':k<w.heap.size:=by have:=(Array.getElem?_eq_some_iff.1 hk).1;simpa using this
     exact ⟨a,by rw [hheap k hk'];exact hk,rfl⟩
   have hh:=q8y hw.1 hx2 (fun k hk=>hheap k Y1s)
   refine ⟨.ret v,_,S,⟨rfl,rfl⟩,.ret (hv S _ _ c ?_),hh,hw.2.trans hx2⟩
   have hvr:VR (own S) w S (.sl id g 0 zs.length zs.length) (.slice (some ⟨b,0,none⟩) zs.length c):=.sl s hs (by omega) rfl fun _=>⟨c,hlc,hlc,.inr ⟨b,arr,ty,hp,by rw [Nat.zero_mul],hb,hfit⟩⟩
   exact (hvr.ext hw.2).ext hx2
end
end Go.Av
namespace Go.Proofs
open Go.Shelf
def Tryz.laysSlN43_f264_ren:Go.Shelf.Ren:=⟨fun | 43=>264 | n=>n,fun | 22=>277 | 23=>2 | 3=>3 | 4=>4 | 0=>0 | n=>n,fun | n=>n⟩
theorem Tryz.laysSlN43_f264:Go.Proofs.SlLaysN.n43 Tryz.prog Tryz.laysSlN43_f264_ren:={
 mixed:=by kernel_rfl
 f43:=⟨Tryz.f264.name,by decide,Tryz.func264.trans (congrArg some (by kernel_rfl))⟩
 t0:=Tryz.underlying0
 a0:=Tryz.isAgg0
 z0:=Tryz.sizeOf0
 v0:=Tryz.zeroValue0
 t3:=Tryz.underlying3
 a3:=Tryz.isAgg3
 z3:=Tryz.sizeOf3
 v3:=Tryz.zeroValue3
 t4:=Tryz.underlying4
 a4:=Tryz.isAgg4
 z4:=Tryz.sizeOf4
 v4:=Tryz.zeroValue4
 t22:=Tryz.underlying277
 a22:=Tryz.isAgg277
 z22:=Tryz.sizeOf277
 v22:=Tryz.zeroValue277
 t23:=Tryz.underlying2
 a23:=Tryz.isAgg2
 z23:=Tryz.sizeOf2
 v23:=Tryz.zeroValue2
 i23:=by kernel_rfl }
open Go.RowKit Go.Lib Go.Sort in
theorem Tryz.slices_Compact_int (blk off cap:Nat) (zs:List Int) (w:World) (hH:Holds (Value.int .i64) w blk off zs.toArray) (hsz:zs.length≤9223372036854775807) (hcap:zs.length≤cap) :
  Calls Tryz.prog 264 #[.slice (some ⟨blk,off,none⟩) zs.length cap] w fun e w'=>e = .returned (.slice (some ⟨blk,off,none⟩) (Lib.compact zs).length cap)∧∃ q,w'=putRow (Value.int .i64) (Sort.ahead w q) blk off (Lib.compact zs++List.replicate (zs.length-(Lib.compact zs).length) 0).toArray:=AnyG.slices_Compact_int Tryz.laysSlN43_f264 blk off cap zs w hH hsz hcap
open Go.RowKit Go.Lib Go.Sort in
theorem Tryz.slices_Compact_int_empty (a:Option Addr) (cap:Nat) (w:World) :
  Calls Tryz.prog 264 #[.slice a 0 cap] w fun e w'=>e = .returned (.slice a 0 cap)∧w'=w:=AnyG.slices_Compact_int_empty Tryz.laysSlN43_f264 a cap w
def Tryz.laysSlM5_f263_ren:Go.Shelf.Ren:=⟨fun | 5=>263 | 8=>270 | 7=>269 | 19=>283 | 20=>284 | 10=>274 | 11=>275 | 12=>276 | 13=>277 | 14=>278 | 15=>279 | 16=>280 | 17=>281 | 18=>282 | 30=>285 | 31=>286 | 32=>287 | 33=>288 | 34=>289 | 35=>290 | 40=>291 | n=>n,fun | 23=>277 | 25=>2 | 3=>3 | 32=>134 | 22=>277 | 0=>0 | 44=>303 | 46=>77 | 4=>4 | 36=>296 | 35=>295 | 41=>155 | 5=>5 | 9=>9 | 53=>304 | 57=>308 | 63=>310 | 64=>311 | n=>n,fun | n=>n⟩
theorem Tryz.laysSlM5_f263:Go.Proofs.SlLaysM.n5 Tryz.prog Tryz.laysSlM5_f263_ren:={
 mixed:=by kernel_rfl
 f5:=⟨Tryz.f263.name,by decide,Tryz.func263.trans (congrArg some (by kernel_rfl))⟩
 f7:=⟨Tryz.f269.name,by decide,Tryz.func269.trans (congrArg some (by kernel_rfl))⟩
 f8:=Tryz.func270.trans (congrArg some (by kernel_rfl))
 f10:=⟨Tryz.f274.name,by decide,Tryz.func274.trans (congrArg some (by kernel_rfl))⟩
 f11:=⟨Tryz.f275.name,by decide,Tryz.func275.trans (congrArg some (by kernel_rfl))⟩
 f12:=⟨Tryz.f276.name,by decide,Tryz.func276.trans (congrArg some (by kernel_rfl))⟩
 f13:=⟨Tryz.f277.name,by decide,Tryz.func277.trans (congrArg some (by kernel_rfl))⟩
 f14:=⟨Tryz.f278.name,by decide,Tryz.func278.trans (congrArg some (by kernel_rfl))⟩
 f15:=⟨Tryz.f279.name,by decide,Tryz.func279.trans (congrArg some (by kernel_rfl))⟩
 f16:=⟨Tryz.f280.name,by decide,Tryz.func280.trans (congrArg some (by kernel_rfl))⟩
 f17:=⟨Tryz.f281.name,by decide,Tryz.func281.trans (congrArg some (by kernel_rfl))⟩
 f18:=⟨Tryz.f282.name,by decide,Tryz.func282.trans (congrArg some (by kernel_rfl))⟩
 f19:=Tryz.func283.trans (congrArg some (by kernel_rfl))
 f20:=Tryz.func284.trans (congrArg some (by kernel_rfl))
 f30:=⟨Tryz.f285.name,by decide,Tryz.func285.trans (congrArg some (by kernel_rfl))⟩
 f31:=Tryz.func286.trans (congrArg some (by kernel_rfl))
 f32:=Tryz.func287.trans (congrArg some (by kernel_rfl))
 f33:=⟨Tryz.f288.name,by decide,Tryz.func288.trans (congrArg some (by kernel_rfl))⟩
 f34:=⟨Tryz.f289.name,by decide,Tryz.func289.trans (congrArg some (by kernel_rfl))⟩
 f35:=⟨Tryz.f290.name,by decide,Tryz.func290.trans (congrArg some (by kernel_rfl))⟩
 f40:=⟨Tryz.f291.name,by decide,Tryz.func291.trans (congrArg some (by kernel_rfl))⟩
 t0:=Tryz.underlying0
 a0:=Tryz.isAgg0
 z0:=Tryz.sizeOf0
 v0:=Tryz.zeroValue0
 t3:=Tryz.underlying3
 a3:=Tryz.isAgg3
 z3:=Tryz.sizeOf3
 v3:=Tryz.zeroValue3
 t4:=Tryz.underlying4
 a4:=Tryz.isAgg4
 z4:=Tryz.sizeOf4
 v4:=Tryz.zeroValue4
 t5:=Tryz.underlying5
 a5:=Tryz.isAgg5
 z5:=Tryz.sizeOf5
 v5:=Tryz.zeroValue5
 t9:=Tryz.underlying9
 a9:=Tryz.isAgg9
 z9:=Tryz.sizeOf9
 v9:=Tryz.zeroValue9
 t22:=Tryz.underlying277
 a22:=Tryz.isAgg277
 z22:=Tryz.sizeOf277
 v22:=Tryz.zeroValue277
 t23:=Tryz.underlying277
 a23:=Tryz.isAgg277
 z23:=Tryz.sizeOf277
 v23:=Tryz.zeroValue277
 t25:=Tryz.underlying2
 a25:=Tryz.isAgg2
 z25:=Tryz.sizeOf2
 v25:=Tryz.zeroValue2
 t32:=Tryz.underlying134
 a32:=Tryz.isAgg134
 z32:=Tryz.sizeOf134
 v32:=Tryz.zeroValue134
 t35:=Tryz.underlying295
 a35:=Tryz.isAgg295
 z35:=Tryz.sizeOf295
 v35:=Tryz.zeroValue295
 t36:=Tryz.underlying296
 a36:=Tryz.isAgg296
 z36:=Tryz.sizeOf296
 v36:=Tryz.zeroValue296
 t41:=Tryz.underlying155
 a41:=Tryz.isAgg155
 z41:=Tryz.sizeOf155
 v41:=Tryz.zeroValue155
 t44:=Tryz.underlying303
 a44:=Tryz.isAgg303
 z44:=Tryz.sizeOf303
 v44:=Tryz.zeroValue303
 t46:=Tryz.underlying77
 a46:=Tryz.isAgg77
 z46:=Tryz.sizeOf77
 v46:=Tryz.zeroValue77
 t53:=Tryz.underlying304
 a53:=Tryz.isAgg304
 z53:=Tryz.sizeOf304
 v53:=Tryz.zeroValue304
 t57:=Tryz.underlying308
 a57:=Tryz.isAgg308
 z57:=Tryz.sizeOf308
 v57:=Tryz.zeroValue308
 t63:=Tryz.underlying310
 a63:=Tryz.isAgg310
 z63:=Tryz.sizeOf310
 v63:=Tryz.zeroValue310
 t64:=Tryz.underlying311
 a64:=Tryz.isAgg311
 z64:=Tryz.sizeOf311
 v64:=Tryz.zeroValue311 }
open Go.Sort Go.RowKit in
theorem Tryz.slices_Sort_int (blk off cap:Nat) (zs:List Int) (w:World) (hH:Holds (Value.int .i64) w blk off zs.toArray) (hblk:blk<w.heap.size) (hsz:zs.length<4611686018427387904) :
  Calls Tryz.prog 263 #[.slice (some ⟨blk,off,none⟩) zs.length cap] w fun e w' =>
   e = .returned (.tuple #[])∧∃ n os,w'=grow (putRow (Value.int .i64) (Sort.ahead w n) blk off (zs.mergeSort fun x y=>decide (x≤y)).toArray) os:=AnyM.slices_Sort_int Tryz.laysSlM5_f263 blk off cap zs w hH hblk hsz
open Go.RowKit Go.Sort in
theorem Tryz.slices_Sort_int_none (p:Option Addr) (cap:Nat) (w:World) :
  Calls Tryz.prog 263 #[.slice p 0 cap] w fun e w'=>e = .returned (.tuple #[])∧w'=w:=AnyM.slices_Sort_int_none Tryz.laysSlM5_f263 p cap w
end Go.Proofs
namespace Go.Av
open Go.Proofs
def leI:Int→Int→Bool:=fun x y=>decide (x≤y)
theorem qft (zs:List Int) (id g:Nat) (H:qf) (hid:H[id]?=some ⟨g,1,zs.map eI⟩) (hl:zs.length≤1000000):AC Tryz.prog 263 [.sl id g 0 zs.length zs.length] H (Ret (.tup []) (H.set id ⟨g,1,(zs.mergeSort leI).map eI⟩)) :=
 qw3 (fun _ _=>.tuple #[]) hid (by simp) (fun blk off c w hH hb hc=>Tryz.slices_Sort_int blk off c zs w hH hb (by omega)) (fun hz a c w=>Tryz.slices_Sort_int_none a c w) (fun S w ad c _=>.tup rfl (fun _ _ _ h=>by simp at h))
theorem qbl (zs:List Int) (id g:Nat) (H:qf) (hid:H[id]?=some ⟨g,1,zs.map eI⟩) (hl:zs.length≤1000000):AC Tryz.prog 264 [.sl id g 0 zs.length zs.length] H (Ret (.sl id g 0 (Lib.compact zs).length (Lib.compact zs).length) (H.set id ⟨g,1,(Lib.compact zs++List.replicate (zs.length-(Lib.compact zs).length) 0).map eI⟩)):=by
 have hle:=qnq zs
 refine qw3 (fun ad c=>.slice ad (Lib.compact zs).length c) hid Y1x (fun blk off c w hH hb hc=>?_) (fun hz a c w=>?_) (fun S w ad c hv=>?_)
 ·refine (Tryz.slices_Compact_int blk off c zs w hH (by omega) hc).mono ?_
  rintro e w' ⟨rfl,q,rfl⟩
  exact ⟨rfl,q,#[],by rw [Sort.grow_empty]⟩
 ·subst hz
  exact Tryz.slices_Compact_int_empty a c w
 ·cases hv with
  | sl s hs hg h1 h =>
   refine .sl s hs hg (by cases ad<;>rfl) fun e=>?_
   obtain ⟨c',hcc,hlc,hcase⟩:=h e
   rcases hcase with ⟨h0,a,he⟩ | ⟨b,arr,ty,hp,he,hb,hfit⟩
   ·injection he with e1 e2 e3
    subst e1;subst e3
    have:(Lib.compact zs).length=0:=by omega
    exact ⟨0,by omega,by omega,.inl ⟨rfl,ad,by rw [this]⟩⟩
   ·injection he with e1 e2 e3
    subst e3
    exact ⟨c,by omega,by omega,.inr ⟨b,arr,ty,hp,by rw [e1],hb,hfit⟩⟩
set_option maxHeartbeats 0 in
theorem quh (l:List Held) (frm:Int) (H:qf) (hw:HW l):AC Tryz.prog 253 [.pl (l.map qj),.int .i64 frm] H (Ret (.pl ((q46 l frm).map eI)) H):=by
 have hw1:=hw.1
 refine AC.body (N:=31) [.tmp 4] Tryz.func253 rfl rfl rfl (Nat.le_of_ble_eq_true rfl) fun B hB=>?_
 refine Z43 ?_
 refine Z46 ?_
 refine Zea ?_
 refine Z3x ?_
 refine qa rfl (fun hc=>?_) (fun hc=>?_)
 ·have hno:q2a l=false:=by simpa only [Bool.not_eq_true'] using hc
  rw [show q46 l frm=[] by rw [q46,hno];rfl]
  refine Z49 ?_
  refine q23 4 rfl ?_
  exact Z8x
 have hyes:q2a l=true:=by simpa only [Bool.not_eq_false'] using hc
 clear hc
 rw [show q46 l frm=qc0 ((l.filter fun h=>decide (frm<h.tto)).map (·.tto)) by rw [q46,hyes];rfl]
 refine Z1d ?_
 refine q1s (k:=0) 5 1 rfl (by decide) rfl ?_
 refine Zbf ?_
 refine Zc1 ?_
 refine Z1d ?_
 refine qm (G:=Nat) (fun k=>k≤l.length) (fun k=>[(1,.int .i64 frm),(5,.sl (Lid H.length 0) (((l.take k).filter fun h=>decide (frm<h.tto)).map (·.tto)).length 0 (((l.take k).filter fun h=>decide (frm<h.tto)).map (·.tto)).length (((l.take k).filter fun h=>decide (frm<h.tto)).map (·.tto)).length),(11,.pl (l.map qj)),(12,.int .i64 (l.length:Int)),(13,.int .i64 (k:Int))]) (fun k=>H++[⟨(((l.take k).filter fun h=>decide (frm<h.tto)).map (·.tto)).length,1,(((l.take k).filter fun h=>decide (frm<h.tto)).map (·.tto)).map eI⟩]) (fun k=>l.length-k) 0 (Nat.zero_le _) Y8 (.inl rfl) ?_
 intro k hk
 refine Z4r ?_
 refine qa rfl (fun hc=>?_) (fun hc=>?_)
 ·have hlt:k<l.length:=by simpa using hc
  obtain ⟨x,hx,hxl⟩:=qr hlt
  have hr:=qk qj hx
  have hst:(((l.take (k+1)).filter fun h=>decide (frm<h.tto)).map (·.tto))=if frm<x.tto then ((l.take k).filter fun h=>decide (frm<h.tto)).map (·.tto)++[x.tto] else ((l.take k).filter fun h=>decide (frm<h.tto)).map (·.tto):=by
   rw [ql hx,List.filter_append,List.map_append]
   by_cases h:frm<x.tto<;>simp [h]
  have hle:(((l.take k).filter fun h=>decide (frm<h.tto)).map (·.tto)).length≤k:=by
   rw [List.length_map]
   exact Nat.le_trans (List.length_filter_le _ _) Y1x
  generalize ((l.take k).filter fun h=>decide (frm<h.tto)).map (·.tto)=z at *
  clear hc
  refine Zhv ?_
  refine Zbh ?_
  refine Z6c ?_
  refine Z2p ?_
  refine Z4m ?_
  refine qa rfl (fun hc=>?_) (fun hc=>?_)
  ·rw [if_pos Y1t] at hst
   clear hc
   refine Zbi ?_
   refine Z30 ?_
   refine ao2 Y1k (q5e (sz:=1) (v:=.int .i64 x.tto) (cs:=eI x.tto) rfl (by decide) (by decide) rfl rfl rfl rfl rfl) ?_
   refine ao2 Y1k (q47 rfl rfl rfl rfl rfl (Src.pl (ys:=[eI x.tto]) rfl (by simp)) rfl (by simp) (by simp) Y1x Y1x) ?_
   refine Z8s ?_
   refine Zmz ?_
   rw [List.take_of_length_le (by simp)]
   refine Z52 ?_
   refine ⟨k+1,by omega,by omega,by rw [hst,List.length_append];exact Y8,?_⟩
   rw [hst,List.length_append]
   refine Fit.loc hB Y1a Y1 ?_
   intro o ho r hr
   simp only [List.mem_singleton] at ho
   subst ho
   exact q3a _ _ r hr
  ·rw [if_neg Y1t] at hst
   clear hc
   refine Z52 ?_
   refine ⟨k+1,by omega,by omega,by rw [hst];exact Y8,?_⟩
   rw [hst]
   refine Fit.loc hB rfl Y1 ?_
   intro o ho r hr
   simp only [List.mem_singleton] at ho
   subst ho
   exact q3a _ _ r hr
 ·have:k=l.length:=by simp at hc;omega
  subst this
  rw [List.take_length]
  have hle:((l.filter fun h=>decide (frm<h.tto)).map (·.tto)).length≤l.length:=by
   rw [List.length_map]
   exact List.length_filter_le _ _
  generalize (l.filter fun h=>decide (frm<h.tto)).map (·.tto)=z at *
  clear hc
  refine Z8o ?_
  refine ao2 Y1k (V2.callS (qft z (Lid H.length 0) z.length _ (lk rfl rfl) (by omega)) rfl) ?_
  refine Zbd ?_
  have hzl:(z.mergeSort leI).length=z.length:=by simp
  have hcs:Lib.compact (z.mergeSort leI)=qc0 z:=qjz z
  have hul:=qfa z
  rw [← hcs] at hul ⊢
  generalize z.mergeSort leI=y at *
  rw [← hzl] at hle hul ⊢
  refine Z8o ?_
  refine ao2 Y1k (V2.callo3 (qbl y (Lid H.length 0) y.length _ (lk rfl rfl) (by omega)) rfl rfl) ?_
  refine Z8s ?_
  refine Z7a ?_
  refine Z1d ?_
  refine qp (ys:=(Lib.compact y).map eI) 4 rfl rfl rfl rfl (by rw [List.drop_zero,← List.map_take,List.take_left]) (by simp) (q3a 0 _) ?_
  exact Z8x
theorem qry {P:Program} {N:Nat} {env:Env} {H0 L:qf} {ty:TypeId} {t t' e:TypeId} {x y:Operand} {n k g len cap sz bytes:Nat} {agg:Bool} {zs:List AV} {o:AObj} {ys:List (List AV)} (m:Nat) [hu:SlI P t e] [NiI P t'] [TyI P e agg sz] [hz:ZcI P e zs] [ByI P e bytes]
  (hx:aev env x = .sl (Lid n k) g 0 len cap) (hn:H0.length=n) (hk:L[k]?=some o) (hg:o.gen=g) (hsz:o.sz=sz) (hy:Src P N env (H0++L) y sz ys) (hz':zs.length=sz) (hlen:len≤o.rows.length) (h63:len+ys.length≤9223372036854775807) (hb:(len+ys.length) * bytes≤140737488355328) (hm:m≤max cap (len+ys.length)) :
  V2 P N (.call { callee:=.builtin .append,args:=#[x,y],argTypes:=#[t,t'] }) ty env (H0++L) (.sl (Lid n k) (g+1) 0 (len+ys.length) m) (H0++L.set k ⟨g+1,o.sz,o.rows.take len++ys⟩):=by
 have:=qkl (P:=P) (N:=N) (ty:=ty) (t:=t) (t':=t') (e:=e) (agg:=agg) (zs:=zs) (bytes:=bytes) m hx (lk hn hk) hg hsz hy hz' hlen h63 hb hm
 rwa [st hn] at this
set_option maxHeartbeats 0 in
theorem qvv (l:List Held) (frm tto:Int) (H:qf) (hw:HW l):ACT Tryz.prog KD 266 [.pl (l.map qj),.int .i64 frm,.int .i64 tto] H (Ret (.pl ((qb3 l frm tto).map q35)) H):=by
 have hw1:=hw.1
 refine ACT.body (N:=29) [.tmp 6] Tryz.func266 rfl rfl rfl (Nat.le_of_ble_eq_true rfl) fun B hB=>?_
 refine Z43 ?_
 refine Z43 ?_
 refine Z76 ?_
 refine q23 7 rfl ?_
 refine qm (G:=Nat) (fun k=>k≤l.length) (fun k=>[(KT,KD.av),(1,.int .i64 frm),(2,.int .i64 tto),(7,.pl ((qb3 (l.take k) frm tto).map q35)),(10,.pl (l.map qj)),(11,.int .i64 (l.length:Int)),(12,.int .i64 (k:Int))]) (fun _=>H++[]) (fun k=>l.length-k) 0 (Nat.zero_le _) Y8 (Fit.refl _ _) ?_
 intro k hk
 refine Z4r ?_
 refine qa rfl (fun hc=>?_) (fun hc=>?_)
 ·have hlt:k<l.length:=by simp at hc;omega
  obtain ⟨x,hx,hxl⟩:=qr hlt
  have hr:=qk qj hx
  have hxw:=hw.2 x hxl
  have hstep:=qr2 hx frm tto
  have hbl:=qp2 (l.take k) frm tto
  refine Zhv ?_
  refine Z9y ?_
  refine Z58 ?_
  refine Z30 ?_
  refine Z2r ?_
  refine Zcf ?_
  refine Z4m ?_
  refine qa rfl (fun hc=>?_) (fun hc=>?_)
  ·rw [if_pos hc] at hstep
   refine Zbe ?_
   refine Z4i ?_
   refine ao2 Y1k (V2.callT (qj1 _ _ (by omega) (by omega) _) rfl rfl) ?_
   refine Zmt ?_
   refine Z6k ?_
   refine Z52 ?_
   refine ⟨k+1,by omega,by omega,by rw [hstep];exact Y8,Fit.loc hB (L:=[]) rfl Y1 (fun o ho=>by simp at ho)⟩
  ·rw [if_neg (by simp [hc])] at hstep
   refine Z52 ?_
   refine ⟨k+1,by omega,by omega,by rw [hstep];exact Y8,Fit.loc hB (L:=[]) rfl Y1 (fun o ho=>by simp at ho)⟩
 ·have:k=l.length:=by simp at hc;omega
  subst this
  rw [List.take_length]
  refine Z45 ?_
  refine Z4c ?_
  refine Z9 ?_
  exact Zb
set_option maxHeartbeats 0 in
theorem qqo (g:List Thing) (use:List Int) (l:List Held) (s:Spec) (t til:Int) (H:qf) (hw:HW l) (hg:g.length≤1000000) (hu:use.length≤1000000) :
  ACT Tryz.prog KD 254 [.pl (g.map qw),.pl (use.map eI),.pl (l.map qj),.agg (q1i s),.int .i64 t,.int .i64 til] H (Ret (.tup [.pl ((q4l g use l s t til).1.map eI),.bool (q4l g use l s t til).2]) H):=by
 have hbl:=qp2 l t (q21 s t)
 have hsl:(qra use (qb3 l t (q21 s t))).length≤1000000:=qn0 _ _ _
 refine ACT.body (N:=41) [.tmp 12,.tmp 13] Tryz.func254 rfl rfl rfl (Nat.le_of_ble_eq_true rfl) fun B hB=>?_
 refine Z2u ?_
 refine Z41 ?_
 refine Z2w ?_
 refine Z3v ?_
 refine Z8 ?_
 refine qu (qea _ _ _) rfl (by decide) ?_
 refine Za ?_
 refine qq 29 (.bool (!tm t||decide (t=4611686018427387904)||decide (til<q21 s t))) ?_ ?_
 ·refine Z8 ?_
  refine Z54 ?_
  refine Z23 ?_
  refine qb rfl rfl (fun hg3=>?_) (fun hg3=>?_)
  ·refine Z62 ?_
   refine Z3n ?_
   exact Zn0
  ·refine Z5r ?_
   refine Z3g ?_
   refine qb rfl rfl (fun hg7=>?_) (fun hg7=>?_)
   ·refine Z3n ?_
    exact Zn0
   ·refine Z2s ?_
    refine Z3f ?_
    refine Zr ?_
    exact Zn0
 refine Z1 ?_
 refine qa rfl (fun hc=>?_) (fun hc=>?_)
 ·have he:q4l g use l s t til=([],false):=by rw [q4l,if_pos hc]
  rw [he]
  refine Zkn ?_
  try dsimp only
  refine Z1d ?_
  refine q23 12 rfl ?_
  exact Zi1
 have he:q4l g use l s t til=qb9 g (qra use (qb3 l t (q21 s t))) s:=by rw [q4l,if_neg Y1p]
 rw [he]
 refine Z1 ?_
 refine Za0 ?_
 refine Z6v ?_
 refine Zjk ?_
 refine Zn1 ?_
 refine Zby ?_
 refine Z1j ?_
 refine q9b 5 rfl Y1q (by decide) (fun _=>V2.callT (qvv l t (q21 s t) _ hw) rfl rfl) ?_
 refine q9b 6 rfl Y1q (by decide) (fun _=>V2.callT (qwx use (qb3 l t (q21 s t)) (by omega) (by omega) _) rfl rfl) ?_
 refine Zjl ?_
 refine q9b 8 rfl Y1q (by decide) (fun _=>V2.callT (qg8 g (qra use (qb3 l t (q21 s t))) s _ hg hsl) rfl rfl) ?_
 refine Zn2 ?_
 refine aq0 10 rfl Y1q (by decide) (fun _=>q2f (v:=.bool _) rfl rfl) ?_
 refine aq0 11 rfl Y1q (by decide) (fun _=>q11 (v:=.pl _) rfl) ?_
 refine aq0 12 rfl Y1q (by decide) (fun _=>q11 (v:=.bool _) rfl) ?_
 refine Z1k ?_
 exact Ze6
theorem q90 {g:List Thing} {use:List Int} {l:List Held} {s:Spec} {til:Int}:∀ {k:Nat} {ts:List Int},(∀ t∈ts.take k,(q4l g use l s t til).2=false)→q39 g use l s til ts=q39 g use l s til (ts.drop k)
 | 0,ts,_=>rfl
 | k+1,[],_=>rfl
 | k+1,t :: ts,h=>by
  have h1:=h t (by simp)
  have h2:=q90 (k:=k) (ts:=ts) (fun x hx=>h x (by simp [hx]))
  show (if (q4l g use l s t til).2 then _ else _)=_
  rw [if_neg (by rw [h1];decide)]
  exact h2
set_option maxHeartbeats 0 in
theorem qmb (g:List Thing) (use:List Int) (l:List Held) (s:Spec) (frm til:Int) (H:qf) (hw:HW l) (hg:g.length≤1000000) (hu:use.length≤1000000) :
  ACT Tryz.prog KD 234 [.pl (g.map qw),.pl (use.map eI),.pl (l.map qj),.agg (q1i s),.int .i64 frm,.int .i64 til] H (Ret (.tup [.int .i64 (qv g use l s frm til).1,.pl ((qv g use l s frm til).2.1.map eI),.bool (qv g use l s frm til).2.2]) H):=by
 have hw1:=hw.1
 refine ACT.body (N:=47) [.tmp 12,.tmp 13,.tmp 14] Tryz.func234 rfl rfl rfl (Nat.le_of_ble_eq_true rfl) fun B hB=>?_
 refine Z2u ?_
 refine Z3 ?_
 refine Z41 ?_
 refine Z2w ?_
 refine Z45 ?_
 refine Zea ?_
 refine Z3x ?_
 refine qa rfl (fun hc=>?_) (fun hc=>?_)
 ·have he:qv g use l s frm til=(0,[],false):=by rw [qv,if_pos hc]
  rw [he]
  refine Z2 ?_
  refine Z3 ?_
  refine Z41 ?_
  refine Z1n ?_
  try dsimp only
  refine Z1d ?_
  refine q23 13 rfl ?_
  exact Zje
 have he:qv g use l s frm til=q39 g use l s til (frm :: q46 l frm):=by rw [qv,if_neg Y1p]
 rw [he]
 have hel:(q46 l frm).length≤1000000:=by
  unfold q46
  split
  ·refine Nat.le_trans (qfa _) ?_
   rw [List.length_map]
   exact Nat.le_trans (List.length_filter_le _ _) hw1
  ·simp
 clear hc he
 refine Z11 ?_
 refine ao2 Y1k (q2c (sz:=1) (k:=1) (v:=.int .i64 frm) (cs:=eI frm) rfl (by decide) (by decide) rfl rfl rfl rfl rfl) ?_
 refine Zbr ?_
 refine qu (quh _ _ _ Y1y) rfl (by decide) ?_
 refine ao2 Y1k (qry (1+((q46 l frm).map eI).length) rfl rfl rfl rfl rfl (Src.pl (ys:=(q46 l frm).map eI) rfl (qx4 (q46 l frm))) rfl (by simp) Y1x Y1x (by simp)) ?_
 refine Zki ?_
 refine Z4n ?_
 try dsimp only [put,Nat.reduceAdd,List.cons_append,List.nil_append,List.take_succ_cons,List.take_zero,List.set_cons_succ,List.set_cons_zero]
 generalize q46 l frm=es at *
 refine Z1d ?_
 refine qp (ys:=(frm :: es).map eI) 27 rfl rfl rfl rfl (by rw [List.drop_zero,List.take_of_length_le Y1x];rfl) Y1x (q3a 0 _) ?_
 rw [show (1+(es.map eI).length:Nat)=(frm :: es).length by simp;omega]
 have htl:(frm :: es).length≤1000001:=by simp;omega
 generalize frm :: es=ts at *
 refine qm (G:=Nat) (fun k=>k≤ts.length∧∀ t∈ts.take k,(q4l g use l s t til).2=false) (fun k=>[(KT,KD.av),(0,.pl (g.map qw)),(1,.pl (use.map eI)),(2,.pl (l.map qj)),(9,.pt (Lid H.length 0) 0 0 0),(5,.int .i64 til),(27,.pl (ts.map eI)),(28,.int .i64 (ts.length:Int)),(29,.int .i64 (k:Int))]) (fun _=>H++[⟨0,7,[q1i s]⟩]) (fun k=>ts.length-k) 0 ⟨Nat.zero_le _,by simp⟩ Y8 (Fit.loc hB rfl Y1 ?_) ?_
 ·intro o ho r hr
  simp only [List.mem_singleton] at ho
  subst ho
  simp only [List.mem_singleton] at hr
  subst hr
  rfl
 rintro k ⟨hk,hno⟩
 refine Z4r ?_
 refine qa rfl (fun hc=>?_) (fun hc=>?_)
 ·have hlt:k<ts.length:=by simpa using hc
  obtain ⟨t,ht,htl⟩:=qr hlt
  have hr:=qk eI ht
  clear hc
  refine Zfo ?_
  refine Z7t ?_
  refine Z44 ?_
  refine Z3u ?_
  refine Z2r ?_
  refine ao2 Y1k (V2.callT (qqo g use l s t til _ hw hg hu) rfl rfl) ?_
  refine Zio ?_
  refine Z6f ?_
  refine Z4c ?_
  refine Zbs ?_
  refine Z2n ?_
  refine Z9 ?_
  refine qa rfl (fun hc=>?_) (fun hc=>?_)
  ·have he:q39 g use l s til ts=(t,(q4l g use l s t til).1,true):=by
    rw [q90 hno,List.drop_eq_getElem_cons hlt,show ts[k]=t from (List.getElem?_eq_some_iff.1 ht).2]
    show (if (q4l g use l s t til).2 then _ else _)=_
    rw [if_pos hc]
   rw [he]
   refine Z11 ?_
   refine Z44 ?_
   refine Z3 ?_
   refine Z4c ?_
   refine Z1n ?_
   try dsimp only
   refine Z1 ?_
   exact Zjd
  ·refine Z52 ?_
   refine ⟨k+1,by omega,⟨by omega,?_⟩,Y8,.inl rfl⟩
   rw [ql ht]
   intro y hy
   rcases List.mem_append.1 hy with h | h
   ·exact hno y h
   ·simp only [List.mem_singleton] at h
    subst h
    exact hc
 ·have:k=ts.length:=by simp at hc;omega
  subst this
  have he:q39 g use l s til ts=(0,[],false):=by rw [q90 hno,List.drop_length];rfl
  rw [he]
  refine Z2 ?_
  refine Z3 ?_
  refine Z41 ?_
  refine Z1n ?_
  try dsimp only
  refine Z1d ?_
  refine q23 13 rfl ?_
  exact Zje
abbrev qfw (w:Want):List AV:=.int .i64 w.id :: q1i w.spec
theorem qsh (g:List Thing) (free:List Int) (s:Spec):(qb9 g free s).1.length≤256:=by
 unfold qb9
 split
 ·simp
 ·split
  ·simp
  ·exact qf0 free s _
theorem qr3 (g:List Thing) (use:List Int) (l:List Held) (s:Spec) (t til:Int):(q4l g use l s t til).1.length≤256:=by
 unfold q4l
 split
 ·simp
 ·exact qsh _ _ _
theorem qd6 (g:List Thing) (use:List Int) (l:List Held) (s:Spec) (til:Int):∀ ts,(q39 g use l s til ts).2.1.length≤256
 | []=>by simp [q39]
 | t :: ts=>by
  unfold q39
  split
  ·exact qr3 _ _ _ _ _ _
  ·exact qd6 g use l s til ts
theorem qbb (g:List Thing) (use:List Int) (l:List Held) (s:Spec) (frm til:Int):(qv g use l s frm til).2.1.length≤256:=by
 unfold qv
 split
 ·simp
 ·exact qd6 _ _ _ _ _ _
theorem HW.add {l:List Held} {h:Held} (hw:HW l) (hh:h.things.length≤1000000):HW (q1d l h).1:=by
 unfold q1d
 split
 ·exact hw
 ·rename_i h1
  split
  ·exact hw
  ·split
   ·exact hw
   ·have hr:q2a l=true:=by cases e:q2a l<;>simp [e] at h1 ⊢
    have h256:l.length≤256:=by simp only [q2a,Bool.and_eq_true,decide_eq_true_eq] at hr;exact hr.1
    refine ⟨?_,fun x hx=>?_⟩
    ·simp only [List.length_append,List.length_take,List.length_cons,List.length_drop]
     omega
    ·rcases List.mem_append.1 hx with hx | hx
     ·exact hw.2 x (List.mem_of_mem_take hx)
     ·rcases List.mem_cons.1 hx with rfl | hx
      ·exact hh
      ·exact hw.2 x (List.mem_of_mem_drop hx)
theorem qbt {g:List Thing} {use:List Int} {now til policy depth:Int} {s:PickS} {w:Want} {ws:List Want} {t:Int} {th:List Int} {ok:Bool} (hf:qv g use s.l w.spec now til=(t,th,ok)) :
  q7n g use now til policy depth s (w :: ws)=if !ok then q7n g use now til policy depth s ws
   else if t≠now∧policy=1 then (s.begun,s.kept,0)
   else if t≠now∧qwj policy depth≤(s.kept.length:Int) then q7n g use now til policy depth s ws
   else if (q1d s.l ⟨w.id,th,t,q21 w.spec t⟩).2≠0 then ([],[],(q1d s.l ⟨w.id,th,t,q21 w.spec t⟩).2)
   else if t=now then q7n g use now til policy depth ⟨(q1d s.l ⟨w.id,th,t,q21 w.spec t⟩).1,s.begun++[⟨w.id,th,t,q21 w.spec t⟩],s.kept⟩ ws
   else q7n g use now til policy depth ⟨(q1d s.l ⟨w.id,th,t,q21 w.spec t⟩).1,s.begun,s.kept++[⟨w.id,th,t,q21 w.spec t⟩]⟩ ws:=by
 rw [q7n,hf]
theorem qtp (policy depth:Int) (H:qf):AC Tryz.prog 235 [.int .i64 policy,.int .i64 depth] H (Ret (.int .i64 (qwj policy depth)) H):=by
 refine AC.body (N:=11) [.tmp 4] Tryz.func235 rfl rfl rfl (Nat.le_of_ble_eq_true rfl) fun B hB=>?_
 refine Z5 ?_
 refine Z11 ?_
 refine qe ?_
 refine Z5a ?_
 refine qa rfl (fun hc=>?_) (fun hc=>?_)
 ·rw [show qwj policy depth=1 by rw [qwj,if_pos Y1t]]
  exact Z18
 ·have h2:¬ policy=2:=by simpa using hc
  clear hc
  refine Z5a ?_
  refine qa rfl (fun hc=>?_) (fun hc=>?_)
  ·rw [show qwj policy depth=depth by rw [qwj,if_neg h2,if_pos Y1t]]
   refine Z11 ?_
   exact Zc
  ·rw [show qwj policy depth=0 by rw [qwj,if_neg h2,if_neg Y1t]]
   exact Z18
set_option maxHeartbeats 0 in
theorem qv0 (g:List Thing) (use:List Int) (l:List Held) (ws:List Want) (now til policy depth:Int) (H:qf) (hw:HW l) (hg:g.length≤1000000) (hu:use.length≤1000000) (hn:ws.length≤1000000) :
  ACT Tryz.prog KD 202 [.pl (g.map qw),.pl (use.map eI),.pl (l.map qj),.pl (ws.map qfw),.int .i64 now,.int .i64 til,.int .i64 policy,.int .i64 depth] H
   (Ret (.tup [.pl ((q5p g use l ws now til policy depth).1.map qj),.pl ((q5p g use l ws now til policy depth).2.1.map qj),.int .i64 (q5p g use l ws now til policy depth).2.2]) H):=by
 refine ACT.body (N:=119) [.tmp 16,.tmp 17,.tmp 18] Tryz.func202 rfl rfl rfl (Nat.le_of_ble_eq_true rfl) fun B hB=>?_
 refine Z42 ?_
 refine Z41 ?_
 refine Za ?_
 refine qq 47 (.bool (decide (policy<1)||decide (3<policy)||decide (depth<0)||decide (64<depth)||!q2a l)) ?_ ?_
 ·refine Zw ?_
  refine qb rfl rfl (fun hg2=>?_) (fun hg2=>?_)
  ·refine Z62 ?_
   refine Z62 ?_
   refine Z62 ?_
   refine Z3n ?_
   exact Zhi
  ·refine Z65 ?_
   refine Z3g ?_
   refine qb rfl rfl (fun hg6=>?_) (fun hg6=>?_)
   ·refine Z62 ?_
    refine Z62 ?_
    refine Z3n ?_
    exact Zhi
   ·refine Zl ?_
    refine Z3g ?_
    refine qb rfl rfl (fun hg10=>?_) (fun hg10=>?_)
    ·refine Z62 ?_
     refine Z3n ?_
     exact Zhi
    ·refine Z65 ?_
     refine Z3g ?_
     refine qb rfl rfl (fun hg14=>?_) (fun hg14=>?_)
     ·refine Z3n ?_
      exact Zhi
     ·refine Z9p ?_
      refine Zgx ?_
      refine Zhj ?_
      exact Zjg
 refine Z1 ?_
 refine qa rfl (fun hc=>?_) (fun hc=>?_)
 ·have he:q5p g use l ws now til policy depth=([],[],1):=by rw [q5p,if_pos hc]
  rw [he]
  refine Z42 ?_
  refine Z41 ?_
  refine Z4 ?_
  try dsimp only
  refine Z1d ?_
  refine q23 16 rfl ?_
  refine q23 17 rfl ?_
  exact Zje
 have he:q5p g use l ws now til policy depth=q7n g use now til policy depth ⟨l,[],[]⟩ ws:=by rw [q5p,if_neg Y1p]
 rw [he]
 clear hc he
 refine Z42 ?_
 refine Z8i ?_
 refine Z1d ?_
 refine q1s (k:=0) 19 4 rfl (by decide) rfl ?_
 refine q1s (k:=1) 20 4 rfl (by decide) rfl ?_
 refine Zbf ?_
 try dsimp only [List.nil_append,List.cons_append]
 refine Z1d ?_
 refine qm (G:=Nat×PickS) (fun q=>q.1≤ws.length∧HW q.2.l∧q.2.begun.length≤q.1∧q.2.kept.length≤q.1∧q7n g use now til policy depth ⟨l,[],[]⟩ ws=q7n g use now til policy depth q.2 (ws.drop q.1))
  (fun q=>[(KT,KD.av),(0,.pl (g.map qw)),(1,.pl (use.map eI)),(2,.pl (q.2.l.map qj)),(4,.int .i64 now),(5,.int .i64 til),(6,.int .i64 policy),(7,.int .i64 depth),(19,.sl (Lid H.length 0) q.2.begun.length 0 q.2.begun.length q.2.begun.length),(20,.sl (Lid H.length 1) q.2.kept.length 0 q.2.kept.length q.2.kept.length),(48,.pl (ws.map qfw)),(49,.int .i64 (ws.length:Int)),(50,.int .i64 (q.1:Int))])
  (fun q=>H++[⟨q.2.begun.length,4,q.2.begun.map qj⟩,⟨q.2.kept.length,4,q.2.kept.map qj⟩]) (fun q=>ws.length-q.1) (0,⟨l,[],[]⟩) ⟨Nat.zero_le _,hw,Nat.le_refl _,Nat.le_refl _,rfl⟩ Y8 (.inl rfl) ?_
 rintro ⟨k,⟨sl,sb,sk⟩⟩ ⟨hk,hsw,hsb,hsk,hI⟩
 simp only at hk hsw hsb hsk hI ⊢
 rw [hI]
 clear hI
 refine Z4r ?_
 refine qa rfl (fun hc=>?_) (fun hc=>?_)
 ·have hlt:k<ws.length:=by simpa using hc
  obtain ⟨w,hwk,hwl⟩:=qr hlt
  have hr:=qk qfw hwk
  have hd:ws.drop k=w :: ws.drop (k+1):=by rw [List.drop_eq_getElem_cons hlt,show ws[k]=w from (List.getElem?_eq_some_iff.1 hwk).2]
  rw [hd]
  have hfl:=qbb g use sl w.spec now til
  clear hc
  refine Zfx ?_
  refine ao2 Y1k (q3y (sz:=8) rfl (by decide) rfl) ?_
  refine ao2 Y1w (q2q (sz:=8) rfl rfl rfl rfl rfl rfl rfl rfl (Nat.le_of_ble_eq_true rfl)) ?_
  refine Zbh ?_
  refine Z7t ?_
  refine Z44 ?_
  refine Zn3 ?_
  refine Z2r ?_
  refine ao2 Y1k (V2.callT (qmb g use sl w.spec now til _ hsw hg hu) rfl rfl) ?_
  refine Z6e ?_
  refine Z14 ?_
  refine Zin ?_
  refine Z6f ?_
  refine Z3 ?_
  refine Z4c ?_
  refine Z1n ?_
  refine Z6k ?_
  generalize hf:qv g use sl w.spec now til=f at *
  obtain ⟨t,th,ok⟩:=f
  simp only at hfl ⊢
  have hst:=qbt (policy:=policy) (depth:=depth) (s:=⟨sl,sb,sk⟩) (w:=w) (ws:=ws.drop (k+1)) (til:=til) (now:=now) hf
  rw [hst]
  clear hst hf hd hr hwk
  refine Z2n ?_
  refine Z19 ?_
  refine qe ?_
  try dsimp only
  refine Z1 ?_
  refine qa rfl (fun hc=>?_) (fun hc=>?_)
  ·rw [if_pos hc]
   refine Z52 ?_
   refine ⟨(k+1,⟨sl,sb,sk⟩),by simp only;omega,⟨by simp only;omega,hsw,by simp only;omega,by simp only;omega,rfl⟩,Y8,Fit.loc hB rfl Y1 ?_⟩
   intro o ho r hr
   simp only [List.mem_cons,List.not_mem_nil,or_false] at ho
   rcases ho with rfl | rfl
   ·exact q1f _ _ r hr
   ·exact q1f _ _ r hr
  rw [if_neg Y1p]
  clear hc
  refine Z1 ?_
  refine qq 74 (.bool (decide (t≠now∧policy=1))) ?_ ?_
  ·refine Z2r ?_
   refine Z2l ?_
   refine Zh ?_
   refine qb rfl rfl (fun hg3=>?_) (fun hg3=>?_)
   ·refine Z5r ?_
    refine Zm ?_
    exact qe (Out.mk (by (refine congrArg AV.bool ?_;(clear hB;grind))) Yb)
   ·refine Zs ?_
    exact Zhi
  refine Z1 ?_
  refine qa rfl (fun hc=>?_) (fun hc=>?_)
  ·rw [if_pos (of_decide_eq_true hc)]
   refine Zi9 ?_
   refine Z8r ?_
   refine Z8r ?_
   refine Z4 ?_
   try dsimp only
   refine Z1d ?_
   refine Zn4 ?_
   refine Zn5 ?_
   exact Zje
  rw [if_neg (of_decide_eq_false hc)]
  clear hc
  refine Z1 ?_
  refine qq 85 (.bool (decide (t≠now∧qwj policy depth≤(sk.length:Int)))) ?_ ?_
  ·refine Z2r ?_
   refine Z2l ?_
   refine Zh ?_
   refine qb rfl rfl (fun hg3=>?_) (fun hg3=>?_)
   ·refine Zbm ?_
    refine q1j rfl rfl (by decide) (qex rfl (lk rfl rfl) rfl) ?_
    refine Z2s ?_
    refine q6d rfl rfl (by decide) (V2.call (qtp _ _ _) rfl) ?_
    refine Z24 ?_
    refine Zm ?_
    exact Zhi
   ·refine Z29 ?_
    refine Zs ?_
    exact Zhi
  refine Z1 ?_
  refine qa rfl (fun hc=>?_) (fun hc=>?_)
  ·rw [if_pos (of_decide_eq_true hc)]
   refine Z52 ?_
   refine ⟨(k+1,⟨sl,sb,sk⟩),by simp only;omega,⟨by simp only;omega,hsw,by simp only;omega,by simp only;omega,rfl⟩,Y8,Fit.loc hB rfl Y1 ?_⟩
   intro o ho r hr
   simp only [List.mem_cons,List.not_mem_nil,or_false] at ho
   rcases ho with rfl | rfl
   ·exact q1f _ _ r hr
   ·exact q1f _ _ r hr
  rw [if_neg (of_decide_eq_false hc)]
  clear hc
  refine Z1 ?_
  refine Zg2 ?_
  refine Z7x ?_
  refine Za1 ?_
  refine Za2 ?_
  refine Zn1 ?_
  refine Zby ?_
  refine aqp 4 rfl Y1q (by decide) (fun G=>qd rfl (lk rfl rfl) rfl (by decide)) ?_
  refine aqp 5 rfl Y1q (by decide) (fun G=>q7q (cs:=[_,_,_,_,_,_,_]) rfl (lk rfl rfl) rfl rfl rfl rfl) ?_
  refine Zlv ?_
  refine q9b 7 rfl Y1q (by decide) (fun _=>V2.call (qea _ _ _) rfl) ?_
  refine aq0 8 rfl Y1q (by decide) (fun _=>V1.up (q3w (cs:=[.int _ _,_,.int _ _,.int _ _]) rfl)) ?_
  refine aqs 9 rfl Y1q Y1b Y1k (q3y (sz:=4) rfl (by decide) rfl) ?_
  refine aqs 10 rfl Y1q Y1b Y1w (q2q (sz:=4) rfl rfl rfl rfl rfl rfl rfl rfl (Nat.le_of_ble_eq_true rfl)) ?_
  refine Z1k ?_
  refine Zja ?_
  have hth:th.length≤1000000:=by omega
  have hadd:(⟨w.id,th,t,q21 w.spec t⟩:Held).things.length≤1000000:=hth
  have hsw2:=hsw.add hadd
  refine Z45 ?_
  refine Z3u ?_
  refine ao2 Y1k (V2.call (qph sl ⟨w.id,th,t,q21 w.spec t⟩ _ hsw hadd) rfl) ?_
  refine Zn6 ?_
  generalize q1d sl ⟨w.id,th,t,q21 w.spec t⟩=r at *
  obtain ⟨rl,rc⟩:=r
  simp only at hsw2 ⊢
  refine Z8m ?_
  refine qa rfl (fun hc=>?_) (fun hc=>?_)
  ·have hne:rc≠0:=by simpa using hc
   rw [if_pos hne]
   refine Z11 ?_
   refine Z41 ?_
   refine Z41 ?_
   refine Z4 ?_
   try dsimp only
   refine Z1d ?_
   refine q23 16 rfl ?_
   refine q23 17 rfl ?_
   exact Zje
  have hne:¬ rc≠0:=by simpa using hc
  rw [if_neg hne]
  clear hc
  refine Z45 ?_
  refine Zmt ?_
  refine Z2k ?_
  refine Z16 ?_
  refine qa rfl (fun hc=>?_) (fun hc=>?_)
  ·rw [if_pos Y1t]
   clear hc
   refine Zbi ?_
   refine Z3u ?_
   refine Zn7 ?_
   refine Zn8 ?_
   refine Z8s ?_
   refine Zmz ?_
   rw [List.take_of_length_le (by simp)]
   refine Z52 ?_
   refine ⟨(k+1,⟨rl,sb++[⟨w.id,th,t,q21 w.spec t⟩],sk⟩),by simp only;omega,⟨by simp only;omega,hsw2,by simp;omega,by simp only;omega,rfl⟩,by simp only [List.length_append];exact Y8,?_⟩
   simp only [List.length_append]
   refine Fit.loc hB Y1a Y1 ?_
   intro o ho r hr
   simp only [List.mem_cons,List.not_mem_nil,or_false] at ho
   rcases ho with rfl | rfl
   ·exact q1f _ _ r hr
   ·exact q1f _ _ r hr
  ·rw [if_neg Y1t]
   clear hc
   refine Zbi ?_
   refine Z3u ?_
   refine Zn7 ?_
   refine Zn8 ?_
   refine Z8s ?_
   refine Zms ?_
   rw [List.take_of_length_le (by simp)]
   refine Z52 ?_
   refine ⟨(k+1,⟨rl,sb,sk++[⟨w.id,th,t,q21 w.spec t⟩]⟩),by simp only;omega,⟨by simp only;omega,hsw2,by simp only;omega,by simp;omega,rfl⟩,by simp only [List.length_append];exact Y8,?_⟩
   simp only [List.length_append]
   refine Fit.loc hB Y1a Y1 ?_
   intro o ho r hr
   simp only [List.mem_cons,List.not_mem_nil,or_false] at ho
   rcases ho with rfl | rfl
   ·exact q1f _ _ r hr
   ·exact q1f _ _ r hr
 ·have:k=ws.length:=by simp at hc;omega
  subst this
  rw [List.drop_length]
  clear hc
  refine Zi9 ?_
  refine Z8r ?_
  refine Z8r ?_
  refine Z8l ?_
  refine Zn4 ?_
  refine Zn5 ?_
  exact Zje
theorem Fit.locF {B:Base} {E:Env} {H M L:qf} {args:List AV} (hB:Begun B H args) (hl:M.length=H.length) (hE:EBel H.length E) (hM:HBel H.length M):Fit B E (M++L) (M++[]):=by
 rw [List.append_nil]
 exact .inr ⟨L,rfl,by rw [hl,hB.len];exact Nat.le_refl _,by rw [hl];exact hE,by rw [hl];exact hM⟩
theorem V2.callF {P:Program} {N:Nat} {env:Env} {H0 L:qf} {ty:TypeId} {f p:Nat} {xs:Array Operand} {ts:Array TypeId} {vs:List AV} {v:AV} {o o0:AObj} [FnI P f] (hac:AC P f vs (H0++L) (Ret v ((H0++L).set p o))) (hvs:xs.toList.map (aev env)=vs) (hp:H0[p]?=some o0) :
  V2 P N (.call { callee:=.value (.func f),args:=xs,argTypes:=ts }) ty env (H0++L) v (H0.set p o++L):=by
 have:=V2.call (N:=N) (ty:=ty) (ts:=ts) hac hvs
 rwa [stF hp] at this
theorem q60 (n:Nat) (w:Inst):∀ r∈(AObj.mk 0 9 [q1l w]).rows,AV.bels n r=true:=by
 intro r hr
 simp only [List.mem_singleton] at hr
 subst hr
 rfl
set_option maxHeartbeats 0 in
theorem qif (w:Inst) (p:Nat) (H:qf) (hw:RI w) (hid:H[p]?=some ⟨0,9,[q1l w]⟩):ACT Tryz.prog KD 163 [.pt p 0 0 0] H (Ret (.tup []) (H.set p ⟨0,9,[q1l (q3h w)]⟩)):=by
 have hpl:p<H.length:=(List.getElem?_eq_some_iff.1 hid).1
 have hF:=hid
 have w1:=hw.iw.graph
 have w4:=hw.iw.health
 have w5:=hw.iw.lease
 have w6:=hw.iw.table
 have w7:=w6.1
 have hbl:=ql2 w.graph w.health 1
 refine ACT.body (N:=48) [] Tryz.func163 rfl rfl rfl (Nat.le_of_ble_eq_true rfl) fun B hB=>?_
 refine Z1 ?_
 refine Z1g ?_
 refine Zgz ?_
 refine Zh0 ?_
 refine Zh1 ?_
 refine Zh2 ?_
 refine Zh3 ?_
 refine Zh4 ?_
 refine Zh5 ?_
 refine Zh6 ?_
 refine Zh7 ?_
 refine Zh8 ?_
 refine Zh9 ?_
 refine Zha ?_
 refine Zhb ?_
 refine Zhc ?_
 refine Zhd ?_
 refine q9b 15 rfl Y1q (by decide) (fun _=>V2.call (qjk _ _ _ (by omega) (by omega)) rfl) ?_
 refine q9b 16 rfl Y1q (by decide) (fun _=>V2.callT (qol w.lease (q2p w.graph w.health 1) (by omega) (by omega) _) rfl rfl) ?_
 refine Zhe ?_
 refine Zhf ?_
 have hml:(q7b w.lease (q2p w.graph w.health 1)).length≤1000000:=qn0 _ _ _
 refine Zik ?_
 refine Zim ?_
 refine qu (qhg _ _ (by omega)) rfl (by decide) ?_
 refine Z4q ?_
 have hF0:∀ k,(H.set p ⟨0,9,[q1l (brk w k)]⟩)[p]?=some ⟨0,9,[q1l (brk w k)]⟩:=fun k=>List.getElem?_set_self (List.getElem?_eq_some_iff.1 hid).1
 refine qm (G:=Nat) (fun k=>k≤w.table.length) (fun k=>[(0,.pt p 0 0 0),(2,.pl ((q7b w.lease (q2p w.graph w.health 1)).map q35)),(27,.pl (w.table.map qj)),(28,.int .i64 (w.table.length:Int)),(29,.int .i64 (k:Int))]) (fun k=>H.set p ⟨0,9,[q1l (brk w k)]⟩++[]) (fun k=>w.table.length-k) 0 (Nat.zero_le _) Y8 (.inl (by rw [qyb,q3k hid])) ?_
 intro k hk
 have hri:=hw.brk k
 clear hF
 have hF:=hF0 k
 refine Z4r ?_
 refine qa rfl (fun hc=>?_) (fun hc=>?_)
 ·have hlt:k<w.table.length:=by simpa using hc
  obtain ⟨x,hx,hxl⟩:=qr hlt
  have hr:=qk qj hx
  have hxw:=w6.2 x hxl
  have hst:=qwz hx
  clear hc
  refine Zhv ?_
  refine Z9y ?_
  refine Z4j ?_
  refine Z44 ?_
  refine qu (qya _ _ (by omega) (by omega) _) rfl (by decide) ?_
  refine Z19 ?_
  refine Z4m ?_
  refine qa rfl (fun hc=>?_) (fun hc=>?_)
  ·have hc1:¬ q33 x.things (q7b w.lease (q2p w.graph w.health 1))=true:=by simpa using hc
   rw [if_neg hc1] at hst
   clear hc hr hx
   refine Zmv ?_
   refine Zmy ?_
   refine Zgz ?_
   refine Zn9 ?_
   refine Zna ?_
   refine Znb ?_
   refine Znc ?_
   refine Znd ?_
   refine Zne ?_
   refine Znf ?_
   refine aqs 8 rfl Y1q Y1b Y1k (V2.callF (q8v (brk w k) x.id 5 (brk w k).now p _ hri.jw (hri.jw.do _ _ _) hri.iw.table (lkF hF)) rfl hF) ?_
   refine Z7d ?_
   refine Zng ?_
   rw [List.set_set,← hst]
   refine Z52 ?_
   refine ⟨k+1,by omega,by omega,Y8,Fit.locF hB (by simp) Y1 (hB.heap.set p _ (q60 _ _))⟩
  ·have hc1:q33 x.things (q7b w.lease (q2p w.graph w.health 1))=true:=by simpa using hc
   rw [if_pos hc1] at hst
   clear hc hr hx
   rw [← hst]
   refine Z52 ?_
   refine ⟨k+1,by omega,by omega,Y8,Fit.locF hB (by simp) Y1 (hB.heap.set p _ (q60 _ _))⟩
 ·have:k=w.table.length:=by simp at hc;omega
  subst this
  rw [qs5]
  refine Z1 ?_
  exact q3v hB .nil rfl rfl (by simp) (hB.heap.set p _ (q60 _ _))
set_option maxHeartbeats 0 in
theorem qiy (w:Inst) (p:Nat) (H:qf) (hw:RI w) (hid:H[p]?=some ⟨0,9,[q1l w]⟩):ACT Tryz.prog KD 164 [.pt p 0 0 0] H (Ret (.tup []) (H.set p ⟨0,9,[q1l (q4v w)]⟩)):=by
 have hpl:p<H.length:=(List.getElem?_eq_some_iff.1 hid).1
 have hF:=hid
 have hjw:=hw.jw
 have w7:=hjw.1
 have hll:(q43 w.jobs).length≤1000000:=by
  cases h:q2v w.jobs with
  | false=>rw [show q43 w.jobs=[] by rw [q43,h];rfl];simp
  | true =>
   rw [qes _ h]
   exact Nat.le_trans (qgn _ _) w7
 refine ACT.body (N:=52) [] Tryz.func164 rfl rfl rfl (Nat.le_of_ble_eq_true rfl) fun B hB=>?_
 refine Zik ?_
 refine Zim ?_
 refine qu (qqf _ _ Y1y) rfl (by decide) ?_
 refine Z4c ?_
 refine Z4l ?_
 refine Zik ?_
 refine Zim ?_
 refine qu (qib _ _ (by omega)) rfl (by decide) ?_
 refine Z4q ?_
 have hF0:∀ k,(H.set p ⟨0,9,[q1l (rfs w k)]⟩)[p]?=some ⟨0,9,[q1l (rfs w k)]⟩:=fun k=>List.getElem?_set_self (List.getElem?_eq_some_iff.1 hid).1
 refine qm (G:=Nat) (fun k=>k≤w.jobs.length) (fun k=>[(KT,KD.av),(0,.pt p 0 0 0),(2,.pl ((q43 w.jobs).map eI)),(16,.pl (w.jobs.map qx)),(17,.int .i64 (w.jobs.length:Int)),(18,.int .i64 (k:Int))]) (fun k=>H.set p ⟨0,9,[q1l (rfs w k)]⟩++[]) (fun k=>w.jobs.length-k) 0 (Nat.zero_le _) Y8 (.inl (by rw [show rfs w 0=w from rfl,q3k hid])) ?_
 intro k hk
 have hri:=hw.rfs k
 have hgl:=hri.iw.graph
 clear hF
 have hF:=hF0 k
 refine Z4r ?_
 refine qa rfl (fun hc=>?_) (fun hc=>?_)
 ·have hlt:k<w.jobs.length:=by simpa using hc
  obtain ⟨x,hx,hxl⟩:=qr hlt
  have hr:=qk qx hx
  have hst:=qxm hx
  clear hc
  refine Zfz ?_
  refine Z9y ?_
  refine Z1 ?_
  refine q20 41 (.bool (decide (x.state≤1)&&((q43 w.jobs).contains x.id||!qkv (rfs w k).graph x.spec))) ?_ ?_
  ·refine Za0 ?_
   refine Za1 ?_
   refine Za2 ?_
   refine aq0 2 rfl Y1q (by decide) (fun _=>o_le rfl rfl) ?_
   refine Z7l ?_
   refine q13 (g:=25) rfl (fun hg3=>?_) (fun hg3=>?_)
   ·refine q2l (g:=25) 4 rfl Y1q (by decide) rfl rfl (fun _=>qi (v:=.pl _) rfl) ?_
    refine q31 (g:=25) 5 rfl Y1q (by decide) rfl rfl (fun G=>qd rfl (lk rfl rfl) rfl (by decide)) ?_
    refine q31 (g:=25) 6 rfl Y1q (by decide) rfl rfl (fun G=>qh (v:=.int _ _) rfl (lk rfl rfl) rfl rfl rfl) ?_
    refine qbg (g:=25) 7 rfl Y1q (by decide) rfl rfl (fun _=>V2.call (q8e _ _ _ (by omega)) rfl) ?_
    refine q2l (g:=25) 8 rfl Y1q (by decide) rfl rfl (fun _=>qi (v:=.bool _) rfl) ?_
    refine q13 (g:=30) rfl (fun hg8=>?_) (fun hg8=>?_)
    ·refine q15 (g:=30) 9 rfl Y1q (by decide) rfl rfl rfl ?_
     refine q15 (g:=30) 10 rfl Y1q (by decide) rfl rfl rfl ?_
     refine q15 (g:=30) 11 rfl Y1q (by decide) rfl rfl rfl ?_
     refine q15 (g:=30) 12 rfl Y1q (by decide) rfl rfl rfl ?_
     refine q15 (g:=30) 13 rfl Y1q (by decide) rfl rfl rfl ?_
     refine q15 (g:=30) 14 rfl Y1q (by decide) rfl rfl rfl ?_
     refine q15 (g:=30) 15 rfl Y1q (by decide) rfl rfl rfl ?_
     refine q15 (g:=30) 16 rfl Y1q (by decide) rfl rfl rfl ?_
     refine q15 (g:=30) 17 rfl Y1q (by decide) rfl rfl rfl ?_
     refine q2l (g:=25) 18 rfl Y1q (by decide) rfl rfl (fun _=>q1n (v:=.bool _) rfl rfl) ?_
     refine Znh ?_
     exact Zni
    ·refine q2l (g:=30) 9 rfl Y1q (by decide) rfl rfl (fun _=>qi (v:=.pt _ _ _ _) rfl) ?_
     refine q31 (g:=30) 10 rfl Y1q (by decide) rfl rfl (fun G=>qy rfl (lkF hF) rfl) ?_
     refine q31 (g:=30) 11 rfl Y1q (by decide) rfl rfl (fun G=>qd rfl (lkF hF) rfl (by decide)) ?_
     refine q31 (g:=30) 12 rfl Y1q (by decide) rfl rfl (fun G=>qd rfl (lkF hF) rfl (by decide)) ?_
     refine q31 (g:=30) 13 rfl Y1q (by decide) rfl rfl (fun G=>qh (v:=.pl _) rfl (lkF hF) rfl rfl rfl) ?_
     refine q31 (g:=30) 14 rfl Y1q (by decide) rfl rfl (fun G=>qd rfl (lk rfl rfl) rfl (by decide)) ?_
     refine q31 (g:=30) 15 rfl Y1q (by decide) rfl rfl (fun G=>q7q (cs:=[_,_,_,_,_,_,_]) rfl (lk rfl rfl) rfl rfl rfl rfl) ?_
     refine qbg (g:=30) 16 rfl Y1q (by decide) rfl rfl (fun _=>V2.callT (qn6 (rfs w k).graph x.spec _ hgl) rfl rfl) ?_
     refine q2l (g:=30) 17 rfl Y1q (by decide) rfl rfl (fun _=>qc1 rfl) ?_
     refine q2l (g:=25) 18 rfl Y1q (by decide) rfl rfl (fun _=>q1m (v:=.bool _) rfl rfl) ?_
     refine Znh ?_
     exact Zni
   ·refine q15 (g:=25) 4 rfl Y1q (by decide) rfl rfl rfl ?_
    refine q15 (g:=25) 5 rfl Y1q (by decide) rfl rfl rfl ?_
    refine q15 (g:=25) 6 rfl Y1q (by decide) rfl rfl rfl ?_
    refine Zfc ?_
    refine Zfd ?_
    refine q50 (g:=30) 9 rfl Y1q (by decide) rfl rfl ?_
    refine q50 (g:=30) 10 rfl Y1q (by decide) rfl rfl ?_
    refine q50 (g:=30) 11 rfl Y1q (by decide) rfl rfl ?_
    refine q50 (g:=30) 12 rfl Y1q (by decide) rfl rfl ?_
    refine q50 (g:=30) 13 rfl Y1q (by decide) rfl rfl ?_
    refine q50 (g:=30) 14 rfl Y1q (by decide) rfl rfl ?_
    refine q50 (g:=30) 15 rfl Y1q (by decide) rfl rfl ?_
    refine q50 (g:=30) 16 rfl Y1q (by decide) rfl rfl ?_
    refine q50 (g:=30) 17 rfl Y1q (by decide) rfl rfl ?_
    refine Z9k ?_
    refine aq0 19 rfl Y1q (by decide) (fun _=>q1m (v:=.bool _) rfl rfl) ?_
    exact q1y Y1q Y1b (Out.mk (by (refine congrArg AV.bool ?_;(clear hB hst hr hF hF0;(simp_all;omega)))) Yb)
  refine Z1 ?_
  refine qa rfl (fun hc=>?_) (fun hc=>?_)
  ·rw [if_pos hc] at hst
   clear hc hr hx
   refine Zmv ?_
   refine Zmy ?_
   refine Zgz ?_
   refine Zn9 ?_
   refine Zna ?_
   refine Znb ?_
   refine Znc ?_
   refine Znd ?_
   refine Zne ?_
   refine Znf ?_
   refine aqs 8 rfl Y1q Y1b Y1k (V2.callF (q8v (rfs w k) x.id 7 (rfs w k).now p _ hri.jw (hri.jw.do _ _ _) hri.iw.table (lkF hF)) rfl hF) ?_
   refine Z7d ?_
   refine Zng ?_
   rw [List.set_set,← hst]
   refine Z52 ?_
   refine ⟨k+1,by omega,by omega,Y8,Fit.locF hB (by simp) Y1 (hB.heap.set p _ (q60 _ _))⟩
  ·rw [if_neg Y1p] at hst
   clear hc hr hx
   rw [← hst]
   refine Z52 ?_
   refine ⟨k+1,by omega,by omega,Y8,Fit.locF hB (by simp) Y1 (hB.heap.set p _ (q60 _ _))⟩
 ·have:k=w.jobs.length:=by simp at hc;omega
  subst this
  rw [qsr]
  refine Z1 ?_
  exact q3v hB .nil rfl rfl (by simp) (hB.heap.set p _ (q60 _ _))
theorem q5k {g:List Thing} {use:List Int} {now til policy depth:Int}:∀ (ws:List Want) (s:PickS),(∀ h∈s.begun,h.things.length≤256)→∀ h∈(q7n g use now til policy depth s ws).1,h.things.length≤256
 | [],s,hs,h,hh=>hs h hh
 | w :: ws,s,hs,h,hh=>by
  have hl:=qbb g use s.l w.spec now til
  generalize hf:qv g use s.l w.spec now til=f at hl
  obtain ⟨t,th,ok⟩:=f
  rw [qbt hf] at hh
  split at hh
  ·exact q5k ws s hs h hh
  ·split at hh
   ·exact hs h hh
   ·split at hh
    ·exact q5k ws s hs h hh
    ·split at hh
     ·simp at hh
     ·split at hh
      ·refine q5k ws _ (fun x hx=>?_) h hh
       rcases List.mem_append.1 hx with hx | hx
       ·exact hs x hx
       ·simp only [List.mem_singleton] at hx
        subst hx
        exact hl
      ·exact q5k ws ⟨(q1d s.l ⟨w.id,th,t,q21 w.spec t⟩).1,s.begun,s.kept++[⟨w.id,th,t,q21 w.spec t⟩]⟩ hs h hh
theorem qb7 (w:Inst):∀ h∈q5l w,h.things.length≤1000000:=by
 intro h hh
 unfold q5l q5p at hh
 split at hh
 ·simp at hh
 ·exact Nat.le_trans (q5k _ _ (by simp) h hh) (by decide)
theorem qav {g:List Thing} {use:List Int} {now til policy depth:Int}:∀ (ws:List Want) (s:PickS),(q7n g use now til policy depth s ws).1.length≤s.begun.length+ws.length
 | [],s=>by simp [q7n]
 | w :: ws,s=>by
  generalize hf:qv g use s.l w.spec now til=f
  obtain ⟨t,th,ok⟩:=f
  rw [qbt hf]
  have h1:=qav ws s (g:=g) (use:=use) (now:=now) (til:=til) (policy:=policy) (depth:=depth)
  split
  ·simp;omega
  ·split
   ·simp
   ·split
    ·simp;omega
    ·split
     ·simp
     ·split
      ·have:=qav ws ⟨(q1d s.l ⟨w.id,th,t,q21 w.spec t⟩).1,s.begun++[⟨w.id,th,t,q21 w.spec t⟩],s.kept⟩ (g:=g) (use:=use) (now:=now) (til:=til) (policy:=policy) (depth:=depth)
       simp at this ⊢;omega
      ·have:=qav ws ⟨(q1d s.l ⟨w.id,th,t,q21 w.spec t⟩).1,s.begun,s.kept++[⟨w.id,th,t,q21 w.spec t⟩]⟩ (g:=g) (use:=use) (now:=now) (til:=til) (policy:=policy) (depth:=depth)
       simp at this ⊢;omega
theorem qqn (w:Inst):(q5l w).length≤(q6j w).length:=by
 unfold q5l q5p
 split
 ·simp
 ·exact Nat.le_trans (qav _ _) (by simp)
theorem qkx (l:List Job):(q1h l).length≤l.length:=by
 unfold q1h
 split
 ·rw [List.length_map,q24]
  exact List.length_filter_le _ _
 ·simp
def bgn (w:Inst) (k:Nat):Inst:=((q5l w).take k).foldl (fun a h=>{ (wdo a h.id 3 a.now).1 with table:=(q1d (wdo a h.id 3 a.now).1.table h).1 }) w
theorem qwd (w:Inst):bgn w (q5l w).length=q6a w:=by rw [bgn,List.take_length];rfl
theorem qpc {w:Inst} {k:Nat} {h:Held} (e:(q5l w)[k]?=some h):bgn w (k+1)=qog (wdo (bgn w k) h.id 3 (bgn w k).now).1 (q1d (wdo (bgn w k) h.id 3 (bgn w k).now).1.table h).1:=by
 rw [bgn,bgn,List.take_add_one,e,List.foldl_append];rfl
theorem RI.bgn {w:Inst} (hw:RI w):∀ k,RI (bgn w k)
 | 0=>hw
 | k+1=>by
  cases e:(q5l w)[k]? with
  | none =>
   have hl:(q5l w).length≤k:=by simpa using e
   have:Av.bgn w (k+1)=Av.bgn w k:=by rw [Av.bgn,Av.bgn,List.take_of_length_le (by omega),List.take_of_length_le hl]
   rw [this]
   exact RI.bgn hw k
  | some h =>
   rw [qpc e]
   have h1:=(RI.bgn hw k).wdo h.id 3 (Av.bgn w k).now
   have h2:=qb7 w h (List.mem_of_getElem? e)
   exact ⟨⟨h1.iw.graph,h1.iw.health,h1.iw.lease,h1.iw.jobs,h1.iw.table.add h2⟩,h1.jw⟩
theorem RI.begin {w:Inst} (hw:RI w):RI (q6a w):=by rw [← qwd];exact hw.bgn _
set_option maxHeartbeats 0 in
theorem qk1 (w:Inst) (p:Nat) (H:qf) (hw:RI w) (h20:w.jobs.length<1000000) (hid:H[p]?=some ⟨0,9,[q1l w]⟩):ACT Tryz.prog KD 165 [.pt p 0 0 0] H (Ret (.tup []) (H.set p ⟨0,9,[q1l (q6a w)]⟩)):=by
 have hpl:p<H.length:=(List.getElem?_eq_some_iff.1 hid).1
 have hF:=hid
 have hjw:=hw.jw
 have hrl:=qkx w.jobs
 have hwl:(q6j w).length=(q1h w.jobs).length:=by simp [q6j]
 refine ACT.body (N:=109) [] Tryz.func165 rfl rfl rfl (Nat.le_of_ble_eq_true rfl) fun B hB=>?_
 refine Z49 ?_
 refine q1s (k:=0) 2 8 rfl (by decide) rfl ?_
 refine Zit ?_
 refine Zij ?_
 refine Zim ?_
 refine qu (qly _ _ Y1y Y1y) rfl (by decide) ?_
 refine Z4o ?_
 refine Zkh ?_
 refine Z1d ?_
 refine qm (G:=Nat) (fun k=>k≤(q1h w.jobs).length) (fun k=>[(KT,KD.av),(0,.pt p 0 0 0),(2,.sl (Lid H.length 0) k 0 k k),(17,.pl ((q1h w.jobs).map eI)),(18,.int .i64 ((q1h w.jobs).length:Int)),(19,.int .i64 (k:Int))]) (fun k=>H++[⟨k,8,((q6j w).take k).map qfw⟩]) (fun k=>(q1h w.jobs).length-k) 0 (Nat.zero_le _) Y8 (.inl rfl) ?_
 intro k hk
 refine Z4r ?_
 refine qa rfl (fun hc=>?_) (fun hc=>?_)
 ·have hlt:k<(q1h w.jobs).length:=by simpa using hc
  obtain ⟨x,hx,hxl⟩:=qr hlt
  have hr:=qk eI hx
  have hwk:(q6j w)[k]?=some ⟨x,(q49 w.jobs x).1.spec⟩:=by rw [q6j,List.getElem?_map,hx];rfl
  have htk:=ql hwk
  clear hc
  refine Zfo ?_
  refine Zik ?_
  refine Zim ?_
  refine Z8 ?_
  refine Zis ?_
  refine Z7h ?_
  refine Zfy ?_
  refine Z1n ?_
  refine Zg1 ?_
  refine Z8p ?_
  refine Zn3 ?_
  refine ao1 (by decide) (V1.up (q3w (cs:=[.int _ _,.int _ _,.int _ _,.int _ _,.str _,.bool _,.int _ _,.int _ _]) rfl)) ?_
  refine ao2 Y1k (q5e (sz:=8) (v:=.agg (qfw ⟨x,(q49 w.jobs x).1.spec⟩)) (cs:=qfw ⟨x,(q49 w.jobs x).1.spec⟩) rfl (by decide) (by decide) rfl rfl rfl rfl rfl) ?_
  refine ao2 Y1k (q47 rfl rfl rfl rfl rfl (Src.pl (ys:=[qfw ⟨x,(q49 w.jobs x).1.spec⟩]) rfl (by simp)) rfl Y1x (by simp) Y1x Y1x) ?_
  refine Z8s ?_
  refine Znj ?_
  rw [show ((q6j w).take k).map qfw=((q6j w).take k).map qfw from rfl,List.take_of_length_le Y1x]
  refine Z52 ?_
  refine ⟨k+1,by omega,by omega,Y8,?_⟩
  rw [htk]
  refine Fit.loc hB Y1a Y1 ?_
  intro o ho r hr
  simp only [List.mem_singleton] at ho
  subst ho
  simp only [List.mem_map] at hr
  obtain ⟨y,_,rfl⟩:=hr
  rfl
 ·have:k=(q1h w.jobs).length:=by simp at hc;omega
  subst this
  rw [← hwl,List.take_length]
  have hwn:(q6j w).length≤1000000:=by omega
  clear hc
  refine Z1 ?_
  refine qp (ys:=(q6j w).map qfw) 2 rfl rfl rfl rfl Ym (by simp) (fun r hr=>by
   simp only [List.mem_map] at hr
   obtain ⟨y,_,rfl⟩:=hr
   rfl) ?_
  have w1:=hw.iw.graph
  have w6:=hw.iw.table
  have hul:(q6q w).length≤1000000:=qn0 _ _ _
  refine Zls ?_
  try dsimp only [List.set_cons_zero,List.take_zero]
  refine Zgz ?_
  refine Zh0 ?_
  refine Zh1 ?_
  refine Zh2 ?_
  refine Zh3 ?_
  refine Zh4 ?_
  refine aqp2 6 rfl Y1q (by decide) (fun G=>V2.callT (qit w p _ hw.iw (lkF hF)) rfl rfl) ?_
  refine Znk ?_
  refine aqp 8 rfl Y1q (by decide) (fun G=>qy rfl (lkF hF) rfl) ?_
  refine aqp 9 rfl Y1q (by decide) (fun G=>qd rfl (lkF hF) rfl (by decide)) ?_
  refine aqp 10 rfl Y1q (by decide) (fun G=>qd rfl (lkF hF) rfl (by decide)) ?_
  refine aqp 11 rfl Y1q (by decide) (fun G=>qh (v:=.pl _) rfl (lkF hF) rfl rfl rfl) ?_
  refine aq0 12 rfl Y1q (by decide) (fun _=>qi (v:=.pl _) rfl) ?_
  refine aq0 13 rfl Y1q (by decide) (fun _=>qi (v:=.pt _ _ _ _) rfl) ?_
  refine aqp 14 rfl Y1q (by decide) (fun G=>qy rfl (lkF hF) rfl) ?_
  refine aqp 15 rfl Y1q (by decide) (fun G=>qd rfl (lkF hF) rfl (by decide)) ?_
  refine aqp 16 rfl Y1q (by decide) (fun G=>qd rfl (lkF hF) rfl (by decide)) ?_
  refine aqp 17 rfl Y1q (by decide) (fun G=>qh (v:=.int _ _) rfl (lkF hF) rfl rfl rfl) ?_
  refine aq0 18 rfl Y1q (by decide) (fun _=>qi (v:=.pt _ _ _ _) rfl) ?_
  refine aqp 19 rfl Y1q (by decide) (fun G=>qy rfl (lkF hF) rfl) ?_
  refine aqp 20 rfl Y1q (by decide) (fun G=>qd rfl (lkF hF) rfl (by decide)) ?_
  refine aqp 21 rfl Y1q (by decide) (fun G=>qd rfl (lkF hF) rfl (by decide)) ?_
  refine aqp 22 rfl Y1q (by decide) (fun G=>qh (v:=.int _ _) rfl (lkF hF) rfl rfl rfl) ?_
  refine aq0 23 rfl Y1q (by decide) (fun _=>qi (v:=.pt _ _ _ _) rfl) ?_
  refine aqp 24 rfl Y1q (by decide) (fun G=>qy rfl (lkF hF) rfl) ?_
  refine aqp 25 rfl Y1q (by decide) (fun G=>qd rfl (lkF hF) rfl (by decide)) ?_
  refine aqp 26 rfl Y1q (by decide) (fun G=>qd rfl (lkF hF) rfl (by decide)) ?_
  refine aqp 27 rfl Y1q (by decide) (fun G=>qh (v:=.int _ _) rfl (lkF hF) rfl rfl rfl) ?_
  refine aq0 28 rfl Y1q (by decide) (fun _=>qi (v:=.pt _ _ _ _) rfl) ?_
  refine aqp 29 rfl Y1q (by decide) (fun G=>qy rfl (lkF hF) rfl) ?_
  refine aqp 30 rfl Y1q (by decide) (fun G=>qd rfl (lkF hF) rfl (by decide)) ?_
  refine aqp 31 rfl Y1q (by decide) (fun G=>qd rfl (lkF hF) rfl (by decide)) ?_
  refine aqp 32 rfl Y1q (by decide) (fun G=>qh (v:=.int _ _) rfl (lkF hF) rfl rfl rfl) ?_
  refine q9b 33 rfl Y1q (by decide) (fun _=>V2.callT (qv0 w.graph (q6q w) w.table (q6j w) w.now w.til w.policy w.depth _ w6 w1 hul hwn) rfl rfl) ?_
  refine aq0 34 rfl Y1q (by decide) (fun _=>qi (v:=.tup _) rfl) ?_
  refine aq0 35 rfl Y1q (by decide) (fun _=>q2f (v:=.pl _) rfl rfl) ?_
  refine aq0 36 rfl Y1q (by decide) (fun _=>q2f (v:=.pl _) rfl rfl) ?_
  refine aq0 37 rfl Y1q (by decide) (fun _=>q2f (v:=.int _ _) rfl rfl) ?_
  refine aq0 38 rfl Y1q (by decide) (fun _=>q11 (v:=.pl _) rfl) ?_
  refine aq0 39 rfl Y1q (by decide) (fun _=>q11 (v:=.pl _) rfl) ?_
  refine aq0 40 rfl Y1q (by decide) (fun _=>q11 (v:=.int _ _) rfl) ?_
  refine Zhf ?_
  refine Z76 ?_
  have hF0:∀ k,(H.set p ⟨0,9,[q1l (bgn w k)]⟩)[p]?=some ⟨0,9,[q1l (bgn w k)]⟩:=fun k=>List.getElem?_set_self (List.getElem?_eq_some_iff.1 hid).1
  clear hk
  refine qm (G:=Nat) (fun k=>k≤(q5l w).length) (fun k=>[(0,.pt p 0 0 0),(79,.pl ((q5l w).map qj)),(80,.int .i64 ((q5l w).length:Int)),(81,.int .i64 (k:Int))]) (fun k=>H.set p ⟨0,9,[q1l (bgn w k)]⟩++[]) (fun k=>(q5l w).length-k) 0 (Nat.zero_le _) (by refine .cons rfl (.cons rfl (.cons ?_ (.cons rfl .nil)));show AV.int .i64 _=_;rw [List.length_map];rfl) (by rw [show bgn w 0=w from rfl,q3k hid];exact Fit.loc hB rfl Y1 (fun o ho=>by simp at ho)) ?_
  intro k hk
  have hri:=hw.bgn k
  have hwl2:=qqn w
  clear hF
  have hF:=hF0 k
  refine Z4r ?_
  refine qa rfl (fun hc=>?_) (fun hc=>?_)
  ·have hlt:k<(q5l w).length:=by simpa using hc
   obtain ⟨x,hx,hxl⟩:=qr hlt
   have hr:=qk qj hx
   have hxw:=qb7 w x hxl
   have hst:=qpc hx
   have hri1:=hri.wdo x.id 3 (bgn w k).now
   clear hc
   refine Zhv ?_
   refine Z9y ?_
   clear hr hx
   refine Z1 ?_
   refine Zmv ?_
   refine Zmy ?_
   refine Zgz ?_
   refine Zn9 ?_
   refine Zna ?_
   refine Znb ?_
   refine Znc ?_
   refine Znd ?_
   refine Zne ?_
   refine Znf ?_
   refine aqs 8 rfl Y1q Y1b Y1k (V2.callF (q8v (bgn w k) x.id 3 (bgn w k).now p _ hri.jw (hri.jw.do _ _ _) hri.iw.table (lkF hF)) rfl hF) ?_
   refine Z7d ?_
   refine Zng ?_
   rw [List.set_set]
   generalize (wdo (bgn w k) x.id 3 (bgn w k).now).1=a1 at *
   clear hF
   have hF:(H.set p ⟨0,9,[q1l a1]⟩)[p]?=some ⟨0,9,[q1l a1]⟩:=List.getElem?_set_self (List.getElem?_eq_some_iff.1 hid).1
   have hat:=hri1.iw.table
   rw [show (H.set p ⟨0,9,[q1l (bgn w k)]⟩).length=(H.set p ⟨0,9,[q1l a1]⟩).length by rw [List.length_set,List.length_set]]
   refine Z1 ?_
   refine q3i mixed (some 14) 999 ?_
   refine Zmy ?_
   refine Zgz ?_
   refine aq0 1 rfl Y1q (by decide) (fun _=>qi (v:=.pt _ _ _ _) rfl) ?_
   refine aqp 2 rfl Y1q (by decide) (fun G=>qy rfl (lkF hF) rfl) ?_
   refine Zh2 ?_
   refine Zld ?_
   refine aqp 5 rfl Y1q (by decide) (fun G=>qh (v:=.pl _) rfl (lkF hF) rfl rfl rfl) ?_
   refine aqp 6 rfl Y1q (by decide) (fun G=>q1q rfl (lk rfl rfl) rfl rfl rfl) ?_
   refine q9b 7 rfl Y1q (by decide) (fun _=>V2.call (qph a1.table x _ hat hxw) rfl) ?_
   refine aq0 8 rfl Y1q (by decide) (fun _=>qi (v:=.tup _) rfl) ?_
   refine Zn2 ?_
   refine aq0 10 rfl Y1q (by decide) (fun _=>q2f (v:=.int _ _) rfl rfl) ?_
   refine qss [13,12,11] 11 rfl Y1q (by decide) (fun G=>qy rfl (lkF hF) rfl) ?_
   refine qss [13,12] 12 rfl Y1q (by decide) (fun G=>qd rfl (lkF hF) rfl (by decide)) ?_
   refine Zhc ?_
   refine aqs 14 rfl Y1q Y1b Y1w (q1b (r':=q1l (qog a1 (q1d a1.table x).1)) rfl hF rfl rfl rfl rfl rfl (Nat.le_of_ble_eq_true rfl) rfl) ?_
   refine Z7d ?_
   refine Z60 ?_
   simp only [List.set_cons_zero,List.set_set]
   rw [← hst]
   refine Z52 ?_
   refine ⟨k+1,by omega,by omega,Y8,Fit.locF hB (by simp) Y1 (hB.heap.set p _ (q60 _ _))⟩
  ·have:k=(q5l w).length:=by simp at hc;omega
   subst this
   rw [qwd]
   refine Z1 ?_
   exact q3v hB .nil rfl rfl (by simp) (hB.heap.set p _ (q60 _ _))
theorem V2.callTF {P:Program} {N:Nat} {env:Env} {K:Know} {H0 L:qf} {ty:TypeId} {f p:Nat} {xs:Array Operand} {ts:Array TypeId} {vs:List AV} {v:AV} {o o0:AObj} [FnI P f] (hac:ACT P K f vs (H0++L) (Ret v ((H0++L).set p o))) (hvs:xs.toList.map (aev env)=vs) (hk:get env KT=K.av) (hp:H0[p]?=some o0) :
  V2 P N (.call { callee:=.value (.func f),args:=xs,argTypes:=ts }) ty env (H0++L) v (H0.set p o++L):=by
 have:=V2.callT (N:=N) (ty:=ty) (ts:=ts) hac hvs hk
 rwa [stF hp] at this
theorem V2.callTS {P:Program} {N:Nat} {env:Env} {K:Know} {H0 L:qf} {ty:TypeId} {f k:Nat} {xs:Array Operand} {ts:Array TypeId} {vs:List AV} {v:AV} {o:AObj} [FnI P f] (hac:ACT P K f vs (H0++L) (Ret v ((H0++L).set (Lid H0.length k) o))) (hvs:xs.toList.map (aev env)=vs) (hk:get env KT=K.av) :
  V2 P N (.call { callee:=.value (.func f),args:=xs,argTypes:=ts }) ty env (H0++L) v (H0++L.set k o):=by
 have:=V2.callT (N:=N) (ty:=ty) (ts:=ts) hac hvs hk
 rwa [st rfl] at this
set_option maxHeartbeats 0 in
theorem q83 (w:Inst) (p:Nat) (H:qf) (hw:RI w) (h20:w.jobs.length<1000000) (hid:H[p]?=some ⟨0,9,[q1l w]⟩):ACT Tryz.prog KD 130 [.pt p 0 0 0] H (Ret (.agg (q1l (q5w w))) (H.set p ⟨0,9,[q1l (q5w w)]⟩)):=by
 have hpl:p<H.length:=(List.getElem?_eq_some_iff.1 hid).1
 have hF0:∀ w,(H.set p ⟨0,9,[q1l w]⟩)[p]?=some ⟨0,9,[q1l w]⟩:=fun w=>List.getElem?_set_self hpl
 refine ACT.body (N:=13) [.cell 2 45] Tryz.func130 rfl rfl rfl (Nat.le_of_ble_eq_true rfl) fun B hB=>?_
 refine Z2 ?_
 refine Zhg ?_
 refine qe ?_
 refine Znl ?_
 refine Zih ?_
 refine ao2 Y1k (V2.callTF (qif w p _ hw (lkF hid)) rfl rfl hid) ?_
 refine Z47 ?_
 rw [show H.length=(H.set p ⟨0,9,[q1l (q3h w)]⟩).length by rw [List.length_set]]
 refine Zih ?_
 refine ao2 Y1k (V2.callTF (qiy (q3h w) p _ hw.broken (lkF (hF0 _))) rfl rfl (hF0 _)) ?_
 refine Z47 ?_
 rw [List.set_set]
 refine Zih ?_
 refine ao2 Y1k (V2.callTF (qk1 (q4v (q3h w)) p _ hw.broken.refuse (by rw [qjp,qkg];exact h20) (lkF (hF0 _))) rfl rfl (hF0 _)) ?_
 refine Z47 ?_
 rw [List.set_set]
 have hF:=hF0 (q6a (q4v (q3h w)))
 rw [show q5w w=q6a (q4v (q3h w)) from rfl]
 generalize q6a (q4v (q3h w))=z at *
 rw [show (H.set p ⟨0,9,[q1l (q3h w)]⟩).length=(H.set p ⟨0,9,[q1l z]⟩).length by rw [List.length_set,List.length_set]]
 refine Zik ?_
 refine Zci ?_
 refine Zhl ?_
 refine Z61 ?_
 refine Z1 ?_
 exact q3v hB (q6o rfl (lk rfl rfl) rfl rfl rfl .nil) rfl rfl (by simp) (hB.heap.set p _ (q60 _ _))
def inow (i:Inst) (now:Int):Inst:=⟨i.graph,i.health,i.lease,i.til,i.jobs,i.table,now,i.policy,i.depth⟩
set_option maxHeartbeats 0 in
theorem qw5 (i:Inst) (now:Int) (H:qf) (hw:RI i) (h20:i.jobs.length<1000000):ACT Tryz.prog KD 94 [.agg (q1l i),.int .i64 now] H (Ret (.tup [.agg (q1l (q8j i now).1),.int .i64 (q8j i now).2]) H):=by
 have hiw:=hw.iw
 have hjw:=hw.jw
 have w6:=hiw.table
 have w7:=w6.1
 refine ACT.body (N:=61) [.cell 4 45,.tmp 5] Tryz.func94 rfl rfl rfl (Nat.le_of_ble_eq_true rfl) fun B hB=>?_
 refine Zfw ?_
 refine Zhg ?_
 refine Z4 ?_
 refine Zcd ?_
 refine qq 24 (.bool (!q3c i||!tm now||decide (now<i.now))) ?_ ?_
 ·refine Z3u ?_
  refine Znm ?_
  refine Z23 ?_
  refine qb rfl rfl (fun hg3=>?_) (fun hg3=>?_)
  ·refine Z3d ?_
   refine Z4x ?_
   exact Zn0
  ·refine Zj ?_
   refine Z5j ?_
   refine Z66 ?_
   refine qb rfl rfl (fun hg8=>?_) (fun hg8=>?_)
   ·refine Z4x ?_
    exact Zn0
   ·refine Zj ?_
    refine Z32 ?_
    refine Zk ?_
    refine Zr ?_
    exact Zn0
 refine Z1 ?_
 refine qa rfl (fun hc=>?_) (fun hc=>?_)
 ·have he:q8j i now=(i,1):=by rw [q8j,if_pos hc]
  rw [he]
  refine Znn ?_
  exact Zno
 have he:q8j i now=(q5w ((q1r i.table now).2.foldl (fun a h=>(wdo a h.id 5 h.tto).1) { i with now:=now }),0):=by rw [q8j,if_neg Y1p]
 rw [he,← qst]
 clear hc he
 refine Znn ?_
 refine Zhk ?_
 refine Zfv ?_
 refine Znp ?_
 refine Zih ?_
 refine Z8 ?_
 refine Zjs ?_
 refine Z2y ?_
 refine ao2 Y1w (q1k (r':=q1l (inow i now)) rfl rfl rfl rfl rfl rfl rfl rfl (Nat.le_of_ble_eq_true rfl) rfl) ?_
 refine Zj7 ?_
 have hol:=qk8 i.table now
 refine Zih ?_
 refine Zjs ?_
 refine Z4i ?_
 refine Z8 ?_
 refine qu (qsj _ _ _ Y1y) rfl (by decide) ?_
 refine Zio ?_
 refine Zin ?_
 refine Z4c ?_
 refine Z4c ?_
 refine Z4l ?_
 rw [show (inow i now).table=i.table from rfl]
 refine Z76 ?_
 refine qm (G:=Nat) (fun k=>k≤(q1r i.table now).2.length) (fun k=>[(KT,KD.av),(4,.pt (Lid H.length 1) 0 0 0),(6,.pt (Lid H.length 2) 0 0 0),(46,.pl ((q1r i.table now).2.map qj)),(47,.int .i64 ((q1r i.table now).2.length:Int)),(48,.int .i64 (k:Int))]) (fun k=>H++[⟨0,9,[q1l i]⟩,⟨0,9,[z9]⟩,⟨0,9,[q1l (tck i now k)]⟩]) (fun k=>(q1r i.table now).2.length-k) 0 (Nat.zero_le _) Y8 (.inl rfl) ?_
 intro k hk
 have hri:=hw.tck now k
 refine Z4r ?_
 refine qa rfl (fun hc=>?_) (fun hc=>?_)
 ·have hlt:k<(q1r i.table now).2.length:=by simpa using hc
  obtain ⟨x,hx,hxl⟩:=qr hlt
  have hr:=qk qj hx
  have hst:=qz2 hx
  clear hc
  refine Zhv ?_
  refine Zbh ?_
  refine Zih ?_
  refine Zce ?_
  refine ao2 Y1k (V2.callS (q8v (tck i now k) x.id 5 x.tto (Lid H.length 2) _ hri.jw (hri.jw.do _ _ _) hri.iw.table (lk rfl rfl)) rfl) ?_
  refine qe ?_
  refine Zj9 ?_
  rw [← hst]
  refine Z52 ?_
  refine ⟨k+1,by omega,by omega,Y8,Fit.loc hB rfl Y1 ?_⟩
  intro o ho r hr
  simp only [List.mem_cons,List.not_mem_nil,or_false] at ho
  rcases ho with rfl | rfl | rfl
  ·simp only [List.mem_singleton] at hr;subst hr;rfl
  ·simp only [List.mem_singleton] at hr;subst hr;rfl
  ·simp only [List.mem_singleton] at hr;subst hr;rfl
 ·have:k=(q1r i.table now).2.length:=by simp at hc;omega
  subst this
  clear hc
  have h20':=qyt i now (q1r i.table now).2.length
  generalize tck i now (q1r i.table now).2.length=z at *
  refine Zih ?_
  refine Znq ?_
  refine Zhm ?_
  refine Zif ?_
  exact Z6p
def qvm (i:Inst) (l:List Job):Inst:=⟨i.graph,i.health,i.lease,i.til,l,i.table,i.now,i.policy,i.depth⟩
set_option maxHeartbeats 0 in
theorem qmq (i:Inst) (s:Spec) (needs:List Int) (H:qf) (hw:RI i) (h20:i.jobs.length<999999) (hn:needs.length≤1000000):ACT Tryz.prog KD 92 [.agg (q1l i),.agg (q1i s),.pl (needs.map eI)] H (Ret (.tup [.agg (q1l (q3l i s needs).1),.int .i64 (q3l i s needs).2.1,.int .i64 (q3l i s needs).2.2]) H):=by
 have hiw:=hw.iw
 have hjw:=hw.jw
 refine ACT.body (N:=52) [.cell 6 45,.tmp 7,.tmp 8] Tryz.func92 rfl rfl rfl (Nat.le_of_ble_eq_true rfl) fun B hB=>?_
 refine Zfw ?_
 refine Z2t ?_
 refine Zhg ?_
 refine Z15 ?_
 refine Z5x ?_
 refine Z3v ?_
 refine Znm ?_
 refine Z3x ?_
 refine qa rfl (fun hc=>?_) (fun hc=>?_)
 ·have he:q3l i s needs=(i,0,1):=by rw [q3l,if_pos hc]
  rw [he]
  refine Znn ?_
  refine Zhl ?_
  exact Znt
 have hr0:¬ (!q3c i)=true:=by rw [hc];decide
 clear hc
 refine Znn ?_
 refine Zhk ?_
 refine Zfv ?_
 refine Znp ?_
 refine Z1 ?_
 refine q3i mixed none 4 ?_
 refine Z7x ?_
 refine Zgz ?_
 refine Znu ?_
 refine Znv ?_
 refine Zix ?_
 refine Ziy ?_
 refine aqp 5 rfl Y1q (by decide) (fun G=>q1q rfl (lk rfl rfl) rfl rfl rfl) ?_
 refine aq0 6 rfl Y1q (by decide) (fun _=>qi (v:=.pl _) rfl) ?_
 refine Znk ?_
 refine aqp 8 rfl Y1q (by decide) (fun G=>qy rfl (lk rfl rfl) rfl) ?_
 refine Zj0 ?_
 refine aqp 10 rfl Y1q (by decide) (fun G=>qd rfl (lk rfl rfl) rfl (by decide)) ?_
 refine aqp 11 rfl Y1q (by decide) (fun G=>qh (v:=.int _ _) rfl (lk rfl rfl) rfl rfl rfl) ?_
 refine q9b 12 rfl Y1q (by decide) (fun _=>V2.call (qug i.jobs s needs i.now _ hjw hn) rfl) ?_
 refine Znw ?_
 refine Znx ?_
 refine Zny ?_
 refine aq0 16 rfl Y1q (by decide) (fun _=>q2f (v:=.int _ _) rfl rfl) ?_
 refine Zhe ?_
 refine aq0 18 rfl Y1q (by decide) (fun _=>q11 (v:=.int _ _) rfl) ?_
 refine aq0 19 rfl Y1q (by decide) (fun _=>q11 (v:=.int _ _) rfl) ?_
 refine Zhf ?_
 refine Z8m ?_
 refine qa rfl (fun hc=>?_) (fun hc=>?_)
 ·have hne:(q19 i.jobs s needs i.now).2.2≠0:=by simpa using hc
  have he:q3l i s needs=(i,0,(q19 i.jobs s needs i.now).2.2):=by rw [q3l,if_neg hr0,if_pos hne]
  rw [he]
  refine Znn ?_
  refine Z8 ?_
  refine Zhl ?_
  exact Znt
 have hne:¬ (q19 i.jobs s needs i.now).2.2≠0:=by simpa using hc
 have he:q3l i s needs=(q5w (qvm i (q19 i.jobs s needs i.now).1),(q19 i.jobs s needs i.now).2.1,0):=by rw [q3l,if_neg hr0,if_neg hne];rfl
 rw [he]
 clear hc he hne
 have hal:=qnb i.jobs s needs i.now
 have hri:RI (qvm i (q19 i.jobs s needs i.now).1):=hw.jobs (hjw.add s i.now hn (by omega))
 have hjl:(qvm i (q19 i.jobs s needs i.now).1).jobs.length<1000000:=by show (q19 i.jobs s needs i.now).1.length<1000000;omega
 refine Zih ?_
 refine Z44 ?_
 refine Zjs ?_
 refine Z2y ?_
 refine ao2 Y1w (q1k (r':=q1l (qvm i (q19 i.jobs s needs i.now).1)) rfl rfl rfl rfl rfl rfl rfl rfl (Nat.le_of_ble_eq_true rfl) rfl) ?_
 refine Zj7 ?_
 refine Zih ?_
 refine ao2 Y1k (V2.callTS (q83 (qvm i (q19 i.jobs s needs i.now).1) (Lid H.length 3) _ hri hjl (lk rfl rfl)) rfl rfl) ?_
 refine Z8 ?_
 refine Zhl ?_
 refine Z15 ?_
 refine Zif ?_
 refine Z1 ?_
 exact Zns
set_option maxHeartbeats 0 in
theorem q114 (i:Inst) (id what:Int) (H:qf) (hw:RI i) (h20:i.jobs.length<1000000):ACT Tryz.prog KD 93 [.agg (q1l i),.int .i64 id,.int .i64 what] H (Ret (.tup [.agg (q1l (ido i id what).1),.int .i64 (ido i id what).2]) H):=by
 have hiw:=hw.iw
 have hjw:=hw.jw
 refine ACT.body (N:=41) [.cell 6 45,.tmp 7] Tryz.func93 rfl rfl rfl (Nat.le_of_ble_eq_true rfl) fun B hB=>?_
 refine Zfw ?_
 refine Zhg ?_
 refine Z4 ?_
 refine Zcd ?_
 refine qq 18 (.bool (!q3c i||!([1,2,4,6]:List Int).contains what)) ?_ ?_
 ·refine Z3u ?_
  refine Znm ?_
  refine Z23 ?_
  refine qb rfl rfl (fun hg3=>?_) (fun hg3=>?_)
  ·refine Z4x ?_
   exact Zhi
  ·refine q6d rfl rfl (by decide) (qpb (sz:=1) (([1,2,4,6]:List Int).map eI) rfl (by decide) (by decide) (by decide) rfl rfl (by simp) rfl Y1e) ?_
   refine Zj ?_
   refine q6d rfl rfl (by decide) (V2.call (q8e [1,2,4,6] what _ (by decide)) rfl) ?_
   refine Zhj ?_
   exact Zhi
 refine Z1 ?_
 refine qa rfl (fun hc=>?_) (fun hc=>?_)
 ·have he:ido i id what=(i,1):=by rw [ido,if_pos hc]
  rw [he]
  refine Znn ?_
  exact Zno
 have hr0:¬ (!q3c i||!([1,2,4,6]:List Int).contains what)=true:=by rw [hc];decide
 clear hc
 refine Znn ?_
 refine Zhk ?_
 refine Zfv ?_
 refine Znp ?_
 refine Zih ?_
 refine Z2r ?_
 refine Zig ?_
 refine Zjs ?_
 refine Z30 ?_
 refine ao2 Y1k (V2.callS (q8v i id what i.now (Lid H.length 2) _ hjw (hjw.do _ _ _) hiw.table (lk rfl rfl)) rfl) ?_
 refine Z4 ?_
 refine Znz ?_
 refine Z8m ?_
 refine qa rfl (fun hc=>?_) (fun hc=>?_)
 ·have hne:(wdo i id what i.now).2≠0:=by simpa using hc
  have he:ido i id what=(i,(wdo i id what i.now).2):=by rw [ido,if_neg hr0,if_pos hne]
  rw [he]
  refine Znn ?_
  refine Z8 ?_
  exact Zno
 have hne:¬ (wdo i id what i.now).2≠0:=by simpa using hc
 have he:ido i id what=(q5w (wdo i id what i.now).1,0):=by rw [ido,if_neg hr0,if_neg hne]
 rw [he]
 clear hc he hne
 have hri:=hw.wdo id what i.now
 have hjl:=qde i id what i.now
 generalize (wdo i id what i.now).1=z at *
 refine Zih ?_
 refine Znq ?_
 refine Zhm ?_
 refine Zif ?_
 exact Z6p
def q13b (i:Inst) (l:List Int):Inst:=⟨i.graph,i.health,l,i.til,i.jobs,i.table,i.now,i.policy,i.depth⟩
def qyv (i:Inst) (l:List Int) (til:Int):Inst:=⟨i.graph,i.health,l,til,i.jobs,i.table,i.now,i.policy,i.depth⟩
set_option maxHeartbeats 0 in
theorem qtw (i:Inst) (lease:List Int) (til:Int) (H:qf) (hw:RI i) (h20:i.jobs.length<1000000) (hl:lease.length≤1000000):ACT Tryz.prog KD 95 [.agg (q1l i),.pl (lease.map eI),.int .i64 til] H (Ret (.tup [.agg (q1l (q9i i lease til).1),.int .i64 (q9i i lease til).2]) H):=by
 have hiw:=hw.iw
 have hjw:=hw.jw
 have w1:=hiw.graph
 refine ACT.body (N:=43) [.cell 6 45,.tmp 7] Tryz.func95 rfl rfl rfl (Nat.le_of_ble_eq_true rfl) fun B hB=>?_
 refine Zfw ?_
 refine Zhg ?_
 refine Z4 ?_
 refine Zcd ?_
 refine qq 23 (.bool (!q3c i||!q2r i.graph lease||!tm til)) ?_ ?_
 ·refine Z3u ?_
  refine Znm ?_
  refine Z23 ?_
  refine qb rfl rfl (fun hg3=>?_) (fun hg3=>?_)
  ·refine Z3b ?_
   refine Z3d ?_
   refine Z3n ?_
   exact Zn0
  ·refine Zc7 ?_
   refine Z9p ?_
   refine Zgt ?_
   refine Z66 ?_
   refine qb rfl rfl (fun hg10=>?_) (fun hg10=>?_)
   ·refine Z3n ?_
    exact Zn0
   ·refine Zj ?_
    refine Z5j ?_
    refine Zhj ?_
    exact Zn0
 refine Z1 ?_
 refine qa rfl (fun hc=>?_) (fun hc=>?_)
 ·have he:q9i i lease til=(i,1):=by rw [q9i,if_pos hc]
  rw [he]
  refine Znn ?_
  exact Zno
 have he:q9i i lease til=(q5w (qyv i lease til),0):=by rw [q9i,if_neg Y1p];rfl
 rw [he]
 clear hc he
 have hri:RI (qyv i lease til):=hw.lend til hl
 refine Znn ?_
 refine Zhk ?_
 refine Zfv ?_
 refine Znp ?_
 refine Zih ?_
 refine Zig ?_
 refine Z44 ?_
 refine qu (q3m _ _ (by omega)) rfl (by decide) ?_
 refine Z8 ?_
 refine Zjs ?_
 refine Z2y ?_
 refine ao2 Y1w (q1k (r':=q1l (q13b i lease)) rfl rfl rfl rfl rfl rfl rfl rfl (Nat.le_of_ble_eq_true rfl) rfl) ?_
 refine Zjs ?_
 refine Z2y ?_
 refine ao2 Y1w (q1k (r':=q1l (qyv i lease til)) rfl rfl rfl rfl rfl rfl rfl rfl (Nat.le_of_ble_eq_true rfl) rfl) ?_
 refine Zj7 ?_
 refine Zih ?_
 refine ao2 Y1k (V2.callTS (q83 (qyv i lease til) (Lid H.length 2) _ hri h20 (lk rfl rfl)) rfl rfl) ?_
 refine Zhm ?_
 refine Zif ?_
 exact Z6p
def qhq (i:Inst) (h:List Int):Inst:=⟨i.graph,h,i.lease,i.til,i.jobs,i.table,i.now,i.policy,i.depth⟩
set_option maxHeartbeats 0 in
theorem qtg (i:Inst) (n how:Int) (H:qf) (hw:RI i) (h20:i.jobs.length<1000000):ACT Tryz.prog KD 96 [.agg (q1l i),.int .i64 n,.int .i64 how] H (Ret (.tup [.agg (q1l (q8c i n how).1),.int .i64 (q8c i n how).2]) H):=by
 have hiw:=hw.iw
 have hjw:=hw.jw
 have w1:=hiw.graph
 have w2:=hiw.health
 refine ACT.body (N:=48) [.cell 6 45,.tmp 7] Tryz.func96 rfl rfl rfl (Nat.le_of_ble_eq_true rfl) fun B hB=>?_
 refine Zfw ?_
 refine Zhg ?_
 refine Z4 ?_
 refine Z5x ?_
 refine Z3v ?_
 refine Znm ?_
 refine Z3x ?_
 refine qa rfl (fun hc=>?_) (fun hc=>?_)
 ·have he:q8c i n how=(i,1):=by rw [q8c,if_pos hc]
  rw [he]
  refine Znn ?_
  exact Zno
 have hr0:¬ (!q3c i)=true:=by rw [hc];decide
 clear hc
 refine Znn ?_
 refine Zhk ?_
 refine Zfv ?_
 refine Znp ?_
 refine Z1 ?_
 refine Zg2 ?_
 refine Z7x ?_
 refine Zgz ?_
 refine Znu ?_
 refine Znv ?_
 refine Zix ?_
 refine Ziy ?_
 refine Zh4 ?_
 refine aqp 6 rfl Y1q (by decide) (fun G=>qy rfl (lk rfl rfl) rfl) ?_
 refine Zbz ?_
 refine aqp 8 rfl Y1q (by decide) (fun G=>qd rfl (lk rfl rfl) rfl (by decide)) ?_
 refine aqp 9 rfl Y1q (by decide) (fun G=>qh (v:=.pl _) rfl (lk rfl rfl) rfl rfl rfl) ?_
 refine Zm3 ?_
 refine Zlz ?_
 refine q9b 12 rfl Y1q (by decide) (fun _=>V2.call (qps i.graph i.health n how _ w1 w2) rfl) ?_
 refine Znw ?_
 refine Znx ?_
 refine Zny ?_
 refine Zle ?_
 refine aq0 17 rfl Y1q (by decide) (fun _=>q11 (v:=.int _ _) rfl) ?_
 refine Zhf ?_
 refine Z8m ?_
 refine qa rfl (fun hc=>?_) (fun hc=>?_)
 ·have hne:(q57 i.graph i.health n how).2≠0:=by simpa using hc
  have he:q8c i n how=(i,(q57 i.graph i.health n how).2):=by rw [q8c,if_neg hr0,if_pos hne]
  rw [he]
  refine Znn ?_
  refine Z8 ?_
  exact Zno
 have hne:¬ (q57 i.graph i.health n how).2≠0:=by simpa using hc
 have he:q8c i n how=(q5w (qhq i (q57 i.graph i.health n how).1),0):=by rw [q8c,if_neg hr0,if_neg hne];rfl
 rw [he]
 clear hc he hne
 have hri:RI (qhq i (q57 i.graph i.health n how).1):=hw.mark n how
 refine Zih ?_
 refine Z44 ?_
 refine Zjs ?_
 refine Z2y ?_
 refine ao2 Y1w (q1k (r':=q1l (qhq i (q57 i.graph i.health n how).1)) rfl rfl rfl rfl rfl rfl rfl rfl (Nat.le_of_ble_eq_true rfl) rfl) ?_
 refine Zj7 ?_
 refine Zih ?_
 refine ao2 Y1k (V2.callTS (q83 (qhq i (q57 i.graph i.health n how).1) (Lid H.length 2) _ hri h20 (lk rfl rfl)) rfl rfl) ?_
 refine Zhm ?_
 refine Zif ?_
 exact Z6p
abbrev TE:Nat:=30
def rdR (H:qf) (id g:Nat) (res:Except Int (AV×List UInt8)):AOut→qf→Prop:=fun o H'=>match res with
 | .ok (v,rest)=>o = .ret v∧H'=H.set id ⟨g,1,[[.pl (rest.map qz)]]⟩
 | .error e=>o = .pan (.ifc TE (.int .i64 e))∧∃ rest:List UInt8,H'=H.set id ⟨g,1,[[.pl (rest.map qz)]]⟩
theorem qv5 {P:Program} {B:Base} {rs:List ResultVar} {R:AOut→qf→Prop} {v:AV} {env:Env} {H L M:qf} {args:List AV} (hB:Begun B H args) (hR:R (.pan v) M) (hb:v.bel H.length=true) (hl:M.length=H.length) (hM:HBel H.length M):Ends P B rs R (.pan v) env (M++L) :=
 ⟨M,.inr ⟨L,rfl,by rw [hB.len,hl];exact Nat.le_refl _,by rw [hl];exact hb,by rw [hl];exact hM⟩,hR⟩
theorem qc5 {P:Program} {B:Base} {rs:List ResultVar} {R:AOut→qf→Prop} {vs:List AV} {v:AV} {env:Env} {H L M:qf} {args:List AV} (hB:Begun B H args) (h:ResVs P env (M++L) rs vs) (hv:qwp vs=v) (hR:R (.ret v) M) (hb:v.bel H.length=true) (hl:M.length=H.length) (hM:HBel H.length M):Ends P B rs R .ret env (M++L) :=
 ⟨vs,M,h,.inr ⟨L,rfl,by rw [hB.len,hl];exact Nat.le_refl _,by rw [hv,hl];exact hb,by rw [hl];exact hM⟩,by rw [hv];exact hR⟩
def q12z (b:Bool) (e:Int) (H:qf):AOut→qf→Prop:=fun o H'=>H'=H∧o=if b then .ret (.tup []) else .pan (.ifc TE (.int .i64 e))
theorem qo (l:List UInt8):∀ r∈l.map qz,r.length=1:=q5a (e:=qz) (n:=1) (fun _=>rfl) l
theorem q14 (b:Bool) (e:Int) (H:qf):AC Tryz.prog 125 [.bool b,.int .i64 e] H (q12z b e H):=by
 refine AC.body (N:=8) [] Tryz.func125 rfl rfl rfl (Nat.le_of_ble_eq_true rfl) fun B hB=>?_
 refine Z6l ?_
 refine qa rfl (fun hc=>?_) (fun hc=>?_)
 ·have hb:b=false:=by simpa using hc
  subst hb
  refine Z6n ?_
  refine ao1 (by decide) (qlp (v:=.int _ _) rfl) ?_
  refine qz4 rfl ?_ Y1w
  exact qv5 hB ⟨rfl,rfl⟩ rfl rfl hB.heap
 ·have hb:b=true:=by simpa using hc
  subst hb
  refine Z1 ?_
  exact qc5 (vs:=[]) hB .nil rfl ⟨rfl,rfl⟩ rfl rfl hB.heap
theorem qqj (e:Int) (H:qf):AC Tryz.prog 125 [.bool true,.int .i64 e] H (Ret (.tup []) H):=(q14 true e H).mono fun o H' h=>⟨h.2,h.1⟩
theorem qqq (e:Int) (H:qf):AC Tryz.prog 125 [.bool false,.int .i64 e] H (fun o H'=>H'=H∧o = .pan (.ifc TE (.int .i64 e))):=q14 false e H
def q12g:List UInt8→Except Int (AV×List UInt8) | []=>.error 2 | c :: r=>.ok (.int .u8 c.toNat,r)
theorem qt5 (bs:List UInt8) (H:qf) (id g:Nat) (hF:H[id]?=some ⟨g,1,[[.pl (bs.map qz)]]⟩):AC Tryz.prog 159 [.pt id g 0 0] H (rdR H id g (q12g bs)):=by
 refine AC.body (N:=26) [.tmp 2] Tryz.func159 rfl rfl rfl (Nat.le_of_ble_eq_true rfl) fun B hB=>?_
 refine Z5 ?_
 cases bs with
 | nil =>
  refine Zo0 ?_
  refine Z4k ?_
  refine Z2p ?_
  refine qfc (vs:=[.bool false,.int .i64 2]) rfl (by decide) (qqq 2 _) (by rintro v H' ⟨_,h⟩;cases h) (by rintro v H' ⟨rfl,h⟩;cases h;(repeat (refine q4u ?_));exact qv5 hB ⟨rfl,[],(q3k hF).symm⟩ rfl rfl hB.heap)
 | cons c r =>
  refine Zo0 ?_
  refine Z4k ?_
  refine Z2p ?_
  refine qu (qqj 2 _) (by show [AV.bool (decide (0<(((c :: r).map qz).length:Int))),AV.int .i64 2]=_;simp) (by decide) ?_
  refine Z4l ?_
  have hr:((c :: r).map qz)[(0:Int).toNat]?=some (qz c):=rfl
  refine Zo0 ?_
  refine Z4u ?_
  refine Z40 ?_
  refine Zih ?_
  refine Ziu ?_
  refine Zil ?_
  refine ao1 (by decide) (qb1 (sz:=1) (l:=1) (h:=r.length+1) rfl (.some rfl rfl) (by simpa using Bd.none) (by omega) (by simp) (qo _)) ?_
  refine Zij ?_
  refine ao2 Y1w (q1b (sz:=1) (v:=.pl _) (r':=[.pl (r.map qz)]) rfl hF rfl rfl rfl rfl rfl (Nat.le_refl 1) (by simp [List.take_of_length_le,AV.cells])) ?_
  refine Z61 ?_
  refine Z1t ?_
  exact qc5 hB (q2o rfl .nil) rfl ⟨rfl,rfl⟩ rfl (by simp) (HBel.set hB.heap _ _ Y1e)
def Hs (H:qf) (id g:Nat) (bs:List UInt8):qf:=H.set id ⟨g,1,[[.pl (bs.map qz)]]⟩
theorem qzn {H:qf} {id g:Nat} {bs:List UInt8} (h:id<H.length):(Hs H id g bs)[id]?=some ⟨g,1,[[.pl (bs.map qz)]]⟩:=by
 unfold Hs;rw [List.getElem?_set_self h]
theorem qhm (H:qf) (id g:Nat) (bs cs:List UInt8):Hs (Hs H id g bs) id g cs=Hs H id g cs:=by unfold Hs;rw [List.set_set]
theorem qtb {H L:qf} {id g:Nat} {bs:List UInt8} (h:id<H.length):Hs (H++L) id g bs=Hs H id g bs++L:=by unfold Hs;rw [List.set_append_left _ _ h]
theorem q3x (H:qf) (id g:Nat) (bs:List UInt8):(Hs H id g bs).length=H.length:=by unfold Hs;rw [List.length_set]
theorem qgh {n:Nat} {H:qf} (h:HBel n H) (id g:Nat) (bs:List UInt8):HBel n (Hs H id g bs):=HBel.set h _ _ Y1e
def rdS (H:qf) (id g:Nat) (res:Except Int (AV×List UInt8)):AOut→qf→Prop:=fun o H'=>match res with
 | .ok (v,rest)=>o = .ret v∧H'=Hs H id g rest
 | .error e=>o = .pan (.ifc TE (.int .i64 e))∧∃ rest:List UInt8,H'=Hs H id g rest
theorem AC.rd {P:Program} {f:FuncId} {args:List AV} {H:qf} {id g:Nat} {bs:List UInt8} {res:Except Int (AV×List UInt8)} (h:AC P f args (Hs H id g bs) (rdR (Hs H id g bs) id g res)):AC P f args (Hs H id g bs) (rdS H id g res):=h.mono fun o H' k=>by
 cases res with
 | ok x=>obtain ⟨k1,k2⟩:=k;exact ⟨k1,by rw [k2];exact qhm _ _ _ _ _⟩
 | error e=>obtain ⟨k1,r,k2⟩:=k;exact ⟨k1,r,by rw [k2];exact qhm _ _ _ _ _⟩
section
variable {P : Program} {N : Nat} {B : Base} {Q : q6g} {env : Env} {H L : qf} {ty : TypeId} {ops : Array Oper} {rest : List Oper}
theorem q3o {d f id g:Nat} {xs:Array Operand} {ts:Array TypeId} {pos:String} {after:Array Edge} {vs:List AV} {bs:List UInt8} {res:Except Int (AV×List UInt8)} [FnI P f] (hvs:xs.toList.map (aev env)=vs) (hd:d<N) (hlt:id<H.length) (hac:∀ H,id<H.length→AC P f vs (Hs H id g bs) (rdS H id g res))
  (hK:∀ v r,res = .ok (v,r)→q61 P N B ops rest Q ((d,v) :: env) (Hs H id g r++L)) (hX:∀ e r,res = .error e→Q (.pan (.ifc TE (.int .i64 e))) env (Hs H id g r++L)) :
  q61 P N B ops (⟨some d,.call { callee:=.value (.func f),args:=xs,argTypes:=ts },ty,pos,after,none⟩ :: rest) Q env (Hs H id g bs++L):=by
 have hlt':id<(H++L).length:=by rw [List.length_append];omega
 have h:=hac (H++L) hlt'
 rw [qtb hlt] at h
 refine qfc hvs hd h ?_ ?_
 ·rintro v H' h
  cases res with
  | ok x=>obtain ⟨h1,h2⟩:=h;cases h1;rw [h2,qtb hlt];exact hK _ _ rfl
  | error e=>obtain ⟨h1,_⟩:=h;cases h1
 ·rintro v H' h
  cases res with
  | ok x=>obtain ⟨h1,_⟩:=h;cases h1
  | error e=>obtain ⟨h1,r,h2⟩:=h;cases h1;rw [h2,qtb hlt];exact hX _ _ rfl
theorem q1w {d f:Nat} {xs:Array Operand} {ts:Array TypeId} {pos:String} {after:Array Edge} {b:Bool} {e:Int} {H:qf} [FnI P f] (hvs:xs.toList.map (aev env)=[.bool b,.int .i64 e]) (hd:d<N) (hac:∀ b e H,AC P f [.bool b,.int .i64 e] H (q12z b e H))
  (hK:b=true→q61 P N B ops rest Q ((d,.tup []) :: env) H) (hX:b=false→Q (.pan (.ifc TE (.int .i64 e))) env H) :
  q61 P N B ops (⟨some d,.call { callee:=.value (.func f),args:=xs,argTypes:=ts },ty,pos,after,none⟩ :: rest) Q env H:=by
 refine qfc hvs hd (hac b e H) ?_ ?_
 ·rintro v H' ⟨rfl,h⟩
  cases b with
  | true=>cases h;exact hK rfl
  | false=>cases h
 ·rintro v H' ⟨rfl,h⟩
  cases b with
  | true=>cases h
  | false=>cases h;exact hX rfl
theorem qfy {args:List AV} {rs:List ResultVar} {id g:Nat} {bs r:List UInt8} {e:Int} {res:Except Int (AV×List UInt8)} (hB:Begun B (Hs H id g bs) args) (hr:res = .error e):Ends P B rs (rdS H id g res) (.pan (.ifc TE (.int .i64 e))) env (Hs H id g r++L):=by
 subst hr
 have hbel:=qgh hB.heap id g r
 rw [qhm] at hbel
 exact qv5 hB ⟨rfl,r,rfl⟩ rfl (by rw [q3x,q3x]) hbel
theorem e_rd {args:List AV} {rs:List ResultVar} {vs:List AV} {v:AV} {id g:Nat} {bs r:List UInt8} {res:Except Int (AV×List UInt8)} (hB:Begun B (Hs H id g bs) args) (h:ResVs P env (Hs H id g r++L) rs vs) (hv:qwp vs=v) (hr:res = .ok (v,r)) (hb:v.bel H.length=true):Ends P B rs (rdS H id g res) .ret env (Hs H id g r++L):=by
 subst hr
 have hbel:=qgh hB.heap id g r
 rw [qhm] at hbel
 exact qc5 hB h hv ⟨rfl,rfl⟩ (by rw [q3x];exact hb) (by rw [q3x,q3x]) hbel
end
theorem q67 (bs:List UInt8) (id g:Nat) (H:qf) (h:id<H.length):AC Tryz.prog 159 [.pt id g 0 0] (Hs H id g bs) (rdS H id g (q12g bs)):=(qt5 bs _ id g (qzn h)).rd
def qmx (k:Int):List UInt8→Except Int (AV×List UInt8) | []=>.error 2 | c :: r=>if (c.toNat:Int)=k then .ok (.tup [],r) else .error 3
theorem q7h (bs:List UInt8) (k:Int) (id g:Nat) (H:qf) (h:id<H.length):AC Tryz.prog 126 [.pt id g 0 0,.int .u8 k] (Hs H id g bs) (rdS H id g (qmx k bs)):=by
 refine AC.body (N:=9) [] Tryz.func126 rfl rfl rfl (Nat.le_of_ble_eq_true rfl) fun B hB=>?_
 cases bs with
 | nil =>
  refine Zit ?_
  refine q3o rfl (by decide) h (q67 [] id g) Y1g (by rintro e r e1;cases e1;(repeat (fail));exact qfy hB rfl)
 | cons c r =>
  refine Zit ?_
  refine q3o rfl (by decide) h (q67 (c :: r) id g) (fun v r' e=>?_) Y1d;cases e
  refine Z8 ?_
  refine Z12 ?_
  refine q1w rfl (by decide) q14 (fun hb=>?_) (fun hb=>(by (repeat (fail));exact qfy hB (by simp only [qmx];rw [if_neg Y1r])))
  refine qe ?_
  exact e_rd hB .nil rfl (by simp only [qmx];rw [if_pos Y1r];rfl) rfl
theorem q12n:∀ n:Nat,n<256→IntKind.u8.wrap ((BitVec.ofInt IntKind.u8.bits (n:Int) &&& BitVec.ofInt IntKind.u8.bits (127:Int)).toNat:Int)=((n % 128:Nat):Int):=by decide +kernel
theorem p128 (i:Nat):128 ^ i=2 ^ (7 * i):=by rw [Nat.pow_mul]
theorem qzc {n m i:Nat} (h:n<128 ^ i):n ||| m * 2 ^ (7 * i)=n+m * 128 ^ i:=by
 rw [p128] at h ⊢
 have:=Nat.shiftLeft_add_eq_or_of_lt h m
 rw [Nat.shiftLeft_eq] at this
 rw [Nat.or_comm,← this,Nat.add_comm]
theorem q11b {n c i:Nat} (h:n<128 ^ i):n+c % 128 * 128 ^ i<128 ^ (i+1):=by
 have h1:c % 128+1≤128:=by omega
 have h2:=Nat.mul_le_mul_right (128 ^ i) h1
 rw [Nat.pow_succ]
 rw [Nat.add_mul,Nat.one_mul] at h2
 omega
theorem qvu {i:Nat} (h:i≤9):128 ^ i≤9223372036854775808:=by
 have:=Nat.pow_le_pow_right (n:=128) (by decide) h
 rwa [show (128:Nat) ^ 9=9223372036854775808 by decide] at this
def gotR (x:Except Int (Nat×List UInt8)):Except Int (AV×List UInt8):=match x with
 | .ok (n,r)=>.ok (.int .i64 (n:Int),r)
 | .error e=>.error e
set_option maxHeartbeats 0 in
theorem q63 (b0:List UInt8) (id g:Nat) (H:qf) (h:id<H.length):AC Tryz.prog 127 [.pt id g 0 0] (Hs H id g b0) (rdS H id g (gotR (got 0 0 b0))):=by
 refine AC.body (N:=35) [.tmp 2] Tryz.func127 rfl rfl rfl (Nat.le_of_ble_eq_true rfl) fun B hB=>?_
 refine Z5 ?_
 refine Z5 ?_
 refine Z1e ?_
 refine qm (G:=Nat×Nat×List UInt8) (fun s=>got s.1 s.2.1 s.2.2=got 0 0 b0∧s.1≤9∧s.2.1<128 ^ s.1) (fun s=>[(0,.pt id g 0 0),(3,.int .u64 (s.2.1:Int)),(4,.int .i64 ((7 * s.1:Nat):Int))]) (fun s=>Hs H id g s.2.2) (fun s=>s.2.2.length) (0,0,b0) ⟨rfl,Nat.zero_le _,Nat.lt_of_sub_pos (by show 0<128 ^ 0-0;decide)⟩ Y8 (.inl (by rw [List.append_nil])) ?_
 rintro ⟨i,n,bs⟩ ⟨hgot,hi9,hn⟩
 simp only at hgot hi9 hn ⊢
 rw [← List.append_nil (Hs H id g bs)]
 have hp9:=qvu hi9
 cases bs with
 | nil =>
  refine Zih ?_
  refine q3o rfl (by decide) h (q67 [] id g) Y1g (by rintro e r e1;cases e1;(repeat (first | refine q4u ?_ | refine qij ?_));exact qfy hB (by rw [← hgot];rfl))
 | cons c r =>
  have hc256:c.toNat<256:=c.toNat_lt
  refine Zih ?_
  refine q3o rfl (by decide) h (q67 (c :: r) id g) (fun v r' e=>?_) Y1d;cases e
  refine Z4 ?_
  try dsimp only [List.length_cons]
  by_cases hbad:8<i∨(0<i∧c=0)
  ·have hres:gotR (got 0 0 b0) = .error 3:=by rw [← hgot,got,if_pos hbad];rfl
   have hbad':8<i∨(0<i∧c.toNat=0):=hbad.imp (fun e=>e) fun e=>⟨e.1,by rw [e.2];rfl⟩
   clear hgot hbad
   refine Z11 ?_
   refine Zv ?_
   refine qb rfl rfl (fun hg2=>?_) (fun hg2=>?_)
   ·refine Z65 ?_
    refine Z25 ?_
    refine qb rfl rfl (fun hg5=>?_) (fun hg5=>?_)
    ·refine Z3b ?_
     refine Z26 ?_
     refine Zm ?_
     refine q1w (b:=false) Ye (by decide) q14 (fun hb=>Y20) (fun _=>Yc)
    ·refine Z5r ?_
     refine Z2a ?_
     refine Zm ?_
     refine q1w (b:=false) Ye (by decide) q14 (fun hb=>Y20) (fun _=>Yc)
   ·refine Zo2 ?_
    refine q1w (b:=false) Yg (by decide) q14 (fun hb=>Y20) (fun _=>Yc)
  have hok:i≤8∧(i=0∨c.toNat≠0):=by
   refine ⟨by omega,?_⟩
   by_cases h0:i=0
   ·exact .inl h0
   ·refine .inr fun e=>hbad (.inr ⟨by omega,?_⟩)
    exact UInt8.toNat_inj.1 e
  rw [got,if_neg hbad] at hgot
  obtain ⟨hi8,hc0⟩:=hok
  clear hbad
  refine Z1 ?_
  refine q2x ([(0,.pt id g 0 0),(3,.int .u64 (n:Int)),(4,.int .i64 ((7 * i:Nat):Int)),(5,.int .u8 (c.toNat:Int))]) (Hs H id g r++[]) ?_ ?_
  ·refine Z11 ?_
   refine Zv ?_
   refine qb rfl rfl (fun hg2=>?_) (fun hg2=>?_)
   ·refine Z65 ?_
    refine Z25 ?_
    refine qb rfl rfl (fun hg5=>?_) (fun hg5=>?_)
    ·refine Z3b ?_
     refine Z26 ?_
     refine Zm ?_
     refine q1w (b:=true) Yg (by decide) q14 (fun _=>?_) (fun hb=>Y20)
     refine qe ?_
     exact q1u Y8 (.inl rfl)
    ·refine Z5r ?_
     refine Z2a ?_
     refine Zm ?_
     refine q1w (b:=true) Yg (by decide) q14 (fun _=>?_) (fun hb=>Y20)
     refine qe ?_
     exact q1u Y8 (.inl rfl)
   ·refine Zo2 ?_
    refine q1w (b:=true) Ye (by decide) q14 (fun _=>?_) (fun hb=>Y20)
    refine qe ?_
    exact q1u Y8 (.inl rfl)
  have hp:128 ^ i=2 ^ (7 * i):=p128 i
  have hstep:=q11b (c:=c.toNat) hn
  have hp10:=qvu (i:=i+1) (by omega)
  have hmul:c.toNat % 128 * 128 ^ i<18446744073709551616:=by omega
  refine Z2k ?_
  refine ao1 (by decide) (qw8 (r:=((c.toNat % 128:Nat):Int)) rfl rfl (q12n _ hc256)) ?_
  refine ao1 (by decide) (qn (r:=((c.toNat % 128:Nat):Int)) rfl (q34 _ (by omega))) ?_
  refine Z8 ?_
  refine ao1 (by decide) (qsl (r:=((c.toNat % 128 * 2 ^ (7 * i):Nat):Int)) rfl rfl (by omega) (by rw [show min ((7 * i:Nat):Int).toNat IntKind.u64.bits=7 * i by show min _ 64=_;omega,show ((c.toNat % 128:Nat):Int) * 2 ^ (7 * i)=((c.toNat % 128 * 2 ^ (7 * i):Nat):Int) by push_cast;rfl];exact q34 _ (by rw [← hp];exact hmul))) ?_
  refine ao1 (by decide) (o_or (r:=((n+c.toNat % 128 * 128 ^ i:Nat):Int)) rfl rfl (by rw [qor _ _ (by omega) (by rw [← hp];exact hmul),qzc hn])) ?_
  refine Z4 ?_
  refine Z11 ?_
  refine Zjq ?_
  generalize hm:n+c.toNat % 128 * 128 ^ i=m at hgot hstep
  refine Z1 ?_
  refine qa rfl (fun hc=>?_) (fun hc=>?_)
  ·have hlt:c.toNat<128:=by simp at hc;omega
   rw [if_pos hlt] at hgot
   by_cases hbig:4611686018427387904<m
   ·rw [if_pos hbig] at hgot
    have hres:gotR (got 0 0 b0) = .error 3:=by rw [← hgot];rfl
    refine Zo3 ?_
    refine q1w (b:=false) Ye (by decide) q14 (fun hb=>Y20) (fun _=>Yc)
   ·rw [if_neg hbig] at hgot
    have hres:gotR (got 0 0 b0) = .ok (.int .i64 (m:Int),r):=by rw [← hgot];rfl
    refine Zo3 ?_
    refine q1w (b:=true) Ye (by decide) q14 (fun _=>?_) (fun hb=>Y20)
    refine qe ?_
    refine Z11 ?_
    refine ao1 (by decide) (qn (r:=(m:Int)) rfl (qc (by omega) (by omega))) ?_
    refine Za ?_
    exact e_rd hB (q2o rfl .nil) rfl hres rfl
  ·have hlt:¬ c.toNat<128:=by simp at hc;omega
   rw [if_neg hlt] at hgot
   refine Z11 ?_
   refine ao1 (by decide) (q1x (r:=((7 * (i+1):Nat):Int)) rfl rfl (by rw [show ((7 * i:Nat):Int)+7=((7 * (i+1):Nat):Int) by omega];exact qc (by omega) (by omega))) ?_
   refine Za ?_
   exact ⟨(i+1,m,r),by simp,⟨hgot,by simp only;omega,hstep⟩,Y8,.inl (by rw [List.append_nil])⟩
def setR (x:Except Int (List Int×List UInt8)):Except Int (AV×List UInt8):=match x with
 | .ok (l,r)=>.ok (.pl (l.map q35),r)
 | .error e=>.error e
theorem qsq (n:Nat) (l:List Int):∀ r∈l.map q35,AV.bels n r=true:=q5z (e:=q35) (fun _=>rfl) l
theorem qv2 (l:List Int):∀ r∈l.map q35,r.length=1:=q5a (e:=q35) (n:=1) (fun _=>rfl) l
theorem qxg (a m:Nat):(qo4 a (a+m)).length=m+1:=by unfold qo4;rw [List.length_map,List.length_range];omega
def qln (a k:Nat):List Int:=(List.range k).map fun j=>((a+j:Nat):Int)
theorem qty (a k:Nat):qln a (k+1)=qln a k++[((a+k:Nat):Int)]:=by unfold qln;rw [List.range_succ,List.map_append];rfl
theorem qrv (a m:Nat):qln a (m+1)=qo4 a (a+m):=by unfold qln qo4;rw [show a+m+1-a=m+1 by omega]
set_option maxHeartbeats 0 in
theorem qu8 (b0 : List UInt8) (id g : Nat) (H : qf) (h : id < H.length) : AC Tryz.prog 86 [.pt id g 0 0] (Hs H id g b0) (rdS H id g (setR (qac b0))) := by
  refine AC.body (N := 71) [.tmp 2] Tryz.func86 rfl rfl rfl (Nat.le_of_ble_eq_true rfl) fun B hB => ?_
  refine Z43 ?_
  cases b0 with
  | nil =>
    refine Zih ?_
    refine q3o rfl (by decide) h (q7h [] 2 id g) Y1g (by rintro e r e1; cases e1; (repeat (refine q4u ?_)); exact qfy hB rfl)
  | cons c b0 =>
  by_cases hk : c ≠ 2
  · have hk' : ¬ (c.toNat : Int) = 2 := fun e => hk (UInt8.toNat_inj.1 (by show c.toNat = 2; omega))
    have ck := q7h (c :: b0) 2 id g
    rw [qmx, if_neg hk'] at ck
    have hres : setR (qac (c :: b0)) = .error 3 := by rw [qac, if_pos hk]; rfl
    refine Zih ?_
    refine q3o rfl (by decide) h ck Y1g Yf
  have hk' : (c.toNat : Int) = 2 := by have : c = 2 := by simpa using hk
                                       subst this; rfl
  have ck := q7h (c :: b0) 2 id g
  rw [qmx, if_pos hk'] at ck
  have hrs : qac (c :: b0) = (match got 0 0 b0 with
      | .error e => .error e
      | .ok (many, b) => if 256 < many then .error 3 else qqh many true 0 [] b) := by rw [qac, if_neg hk]; rfl
  refine Zih ?_
  refine q3o rfl (by decide) h ck (fun v r' e => ?_) Y1d; cases e
  refine qe ?_
  have cn := q63 b0 id g
  cases hg : got 0 0 b0 with
  | error e0 =>
    rw [hg] at hrs cn
    have hres : setR (qac (c :: b0)) = .error e0 := by rw [hrs]; rfl
    refine Zih ?_
    refine q3o rfl (by decide) h cn Y1g Yf
  | ok x =>
  obtain ⟨many, b1⟩ := x
  rw [hg] at hrs cn
  simp only at hrs
  have hm62 := (q5x hg).2
  refine Zih ?_
  refine q3o rfl (by decide) h cn (fun v r' e => ?_) Y1d; cases e
  refine Z4 ?_
  by_cases hmany : 256 < many
  · have hres : setR (qac (c :: b0)) = .error 3 := by rw [hrs, if_pos hmany]; rfl
    refine Zo3 ?_
    refine q1w (b := false) Yh (by decide) q14 (fun hb => Y20) (fun _ => Yo)
  rw [if_neg hmany] at hrs
  refine Zo3 ?_
  refine q1w (b := true) Yh (by decide) q14 (fun _ => ?_) (fun hb => Y20)
  refine qe ?_
  refine Z49 ?_
  refine Zo4 ?_
  rw [q3x, List.nil_append]
  refine q18 ?_
  refine Z4 ?_
  refine Z2k ?_
  refine qe ?_
  refine Z1d ?_
  refine qm (G := Nat × Nat × List Int × List UInt8) (fun s => qqh (many - s.1) (s.1 == 0) s.2.1 s.2.2.1 s.2.2.2 = qac (c :: b0) ∧ s.1 ≤ many ∧ s.2.1 < 256 ∧ s.2.2.1.length ≤ 256 * s.1) (fun s => [(0, .pt id g 0 0), (4, .sl (Lid H.length 0) s.2.2.1.length 0 s.2.2.1.length s.2.2.1.length), (5, .int .i64 (s.2.1 : Int)), (17, .int .i64 (many : Int)), (18, .int .i64 (s.1 : Int))]) (fun s => Hs H id g s.2.2.2 ++ [⟨s.2.2.1.length, 1, s.2.2.1.map q35⟩]) (fun s => many - s.1) (0, 0, [], b1) ⟨by rw [hrs]; rfl, Nat.zero_le _, by show 0 < 256; decide, Nat.zero_le _⟩ Y8 (.inl rfl) ?_
  rintro ⟨i, last, acc, bs⟩ ⟨hspec, him, hlast, hal⟩
  simp only at hspec him hlast hal ⊢
  refine Z4r ?_
  refine qa rfl (fun hc => ?_) (fun hc => ?_)
  · have hi : i < many := by simp at hc; omega
    obtain ⟨m', hm'⟩ : ∃ m', many - i = m' + 1 := ⟨many - i - 1, by omega⟩
    rw [hm', qqh] at hspec
    refine Z1c ?_
    have c1 := q63 bs id g
    cases h1 : got 0 0 bs with
    | error e1 =>
      rw [h1] at hspec c1
      have hres : setR (qac (c :: b0)) = .error e1 := by rw [← hspec]; rfl
      refine Zih ?_
      refine q3o rfl (by decide) h c1 Y1g (by rintro e r e1; cases e1; (repeat (first | refine q4u ?_ | refine qij ?_)); exact qfy hB hres)
    | ok x1 =>
    obtain ⟨far, b2⟩ := x1
    rw [h1] at hspec c1
    simp only at hspec
    have hf62 := (q5x h1).2
    have c2 := q63 b2 id g
    cases h2 : got 0 0 b2 with
    | error e2 =>
      rw [h2] at hspec c2
      have hres : setR (qac (c :: b0)) = .error e2 := by rw [← hspec]; rfl
      refine Zih ?_
      refine q3o rfl (by decide) h c1 (fun v r' e => ?_) Y1d; cases e
      refine Zig ?_
      refine q3o rfl (by decide) h c2 Y1g (by rintro e r e1; cases e1; (repeat (first | refine q4u ?_ | refine qij ?_)); exact qfy hB hres)
    | ok x2 =>
    obtain ⟨more, b3⟩ := x2
    rw [h2] at hspec c2
    simp only at hspec
    have hm62' := (q5x h2).2
    refine Zih ?_
    refine q3o rfl (by decide) h c1 (fun v r' e => ?_) Y1d; cases e
    refine Zig ?_
    refine q3o rfl (by decide) h c2 (fun v r' e => ?_) Y1d; cases e
    refine Z15 ?_
    by_cases hok : far < 256 ∧ more < 256 ∧ last + far + more < 256 ∧ ((i == 0) = true ∨ 1 < far)
    case neg =>
      rw [if_neg hok] at hspec
      have hres : setR (qac (c :: b0)) = .error 3 := by rw [← hspec]; rfl
      have hbad : far < 256 → more < 256 → last + far + more < 256 → i = 0 ∨ 1 < far → False := fun k1 k2 k3 k4 => hok ⟨k1, k2, k3, k4.imp (fun e => by simp [e]) (fun e => e)⟩
      clear hspec hok c1 c2 cn ck hrs
      refine Z11 ?_
      refine Zv ?_
      refine qb rfl rfl (fun hg2 => ?_) (fun hg2 => ?_)
      · refine Zl ?_
        refine Z34 ?_
        refine qb rfl rfl (fun hg6 => ?_) (fun hg6 => ?_)
        · refine Z2s ?_
          refine Zo5 ?_
          refine Zj ?_
          refine Zo6 ?_
          refine Zk ?_
          refine Z34 ?_
          refine qb rfl rfl (fun hg14 => ?_) (fun hg14 => ?_)
          · refine Z5r ?_
            refine Z25 ?_
            refine qb rfl rfl (fun hg17 => ?_) (fun hg17 => ?_)
            · refine Z3b ?_
              refine Z26 ?_
              refine Zm ?_
              refine q1w (b := false) Ye (by decide) q14 (fun hb => Y20) (fun _ => Yc)
            · refine Z65 ?_
              refine Z2a ?_
              refine Zm ?_
              refine q1w (b := false) (by refine congrArg (fun x => [AV.bool x, AV.int .i64 3]) ?_; grind) (by decide) q14 (fun hb => Y20) (fun _ => Yc)
          · refine Zo2 ?_
            refine q1w (b := false) Yg (by decide) q14 (fun hb => Y20) (fun _ => Yc)
        · refine Zo7 ?_
          refine Zo2 ?_
          refine q1w (b := false) Yg (by decide) q14 (fun hb => Y20) (fun _ => Yc)
      · refine Z5n ?_
        refine Zo7 ?_
        refine Zo2 ?_
        refine q1w (b := false) Yg (by decide) q14 (fun hb => Y20) (fun _ => Yc)
    rw [if_pos hok] at hspec
    obtain ⟨hf, hmo, hsum, hfi⟩ := hok
    have hfi' : i = 0 ∨ 1 < far := hfi.imp (fun e => by simpa using e) (fun e => e)
    clear c1 c2 cn ck hrs hfi
    refine Z1 ?_
    refine q2x ([(0, .pt id g 0 0), (4, .sl (Lid H.length 0) acc.length 0 acc.length acc.length), (5, .int .i64 (last : Int)), (7, .int .i64 (far : Int)), (8, .int .i64 (more : Int)), (17, .int .i64 (many : Int)), (18, .int .i64 (i : Int))]) (Hs H id g b3 ++ [⟨acc.length, 1, acc.map q35⟩]) ?_ ?_
    · refine Z11 ?_
      refine Zv ?_
      refine qb rfl rfl (fun hg2 => ?_) (fun hg2 => ?_)
      · refine Zl ?_
        refine Z34 ?_
        refine qb rfl rfl (fun hg6 => ?_) (fun hg6 => ?_)
        · refine Z2s ?_
          refine Zo5 ?_
          refine Zj ?_
          refine Zo6 ?_
          refine Zk ?_
          refine Z34 ?_
          refine qb rfl rfl (fun hg14 => ?_) (fun hg14 => ?_)
          · refine Z5r ?_
            refine Z25 ?_
            refine qb rfl rfl (fun hg17 => ?_) (fun hg17 => ?_)
            · refine Z3b ?_
              refine Z26 ?_
              refine Zm ?_
              refine q1w (b := true) Yg (by decide) q14 (fun _ => ?_) (fun hb => Y20)
              refine qe ?_
              exact q1u Y8 (.inl rfl)
            · refine Z65 ?_
              refine Z2a ?_
              refine Zm ?_
              refine q1w (b := true) Ye (by decide) q14 (fun _ => ?_) (fun hb => Y20)
              refine qe ?_
              exact q1u Y8 (.inl rfl)
          · refine Zo2 ?_
            refine q1w (b := true) Ye (by decide) q14 (fun _ => ?_) (fun hb => Y20)
            refine qe ?_
            exact q1u Y8 (.inl rfl)
        · refine Zo7 ?_
          refine Zo2 ?_
          refine q1w (b := true) Ye (by decide) q14 (fun _ => ?_) (fun hb => Y20)
          refine qe ?_
          exact q1u Y8 (.inl rfl)
      · refine Z5n ?_
        refine Zo7 ?_
        refine Zo2 ?_
        refine q1w (b := true) Ye (by decide) q14 (fun _ => ?_) (fun hb => Y20)
        refine qe ?_
        exact q1u Y8 (.inl rfl)
    refine Z2k ?_
    refine ao1 (by decide) (q1x (r := ((last + far + 0 : Nat) : Int)) rfl rfl (by rw [show (last : Int) + (far : Int) = ((last + far + 0 : Nat) : Int) by omega]; exact qc (by omega) (by omega))) ?_
    refine Z8l ?_
    refine qm (G := Nat) (fun k => k ≤ more + 1) (fun k => [(0, .pt id g 0 0), (4, .sl (Lid H.length 0) (acc ++ qln (last + far) k).length 0 (acc ++ qln (last + far) k).length (acc ++ qln (last + far) k).length), (5, .int .i64 (last : Int)), (7, .int .i64 (far : Int)), (8, .int .i64 (more : Int)), (9, .int .i64 ((last + far + k : Nat) : Int)), (17, .int .i64 (many : Int)), (18, .int .i64 (i : Int))]) (fun k => Hs H id g b3 ++ [⟨(acc ++ qln (last + far) k).length, 1, (acc ++ qln (last + far) k).map q35⟩]) (fun k => more + 1 - k) 0 (Nat.zero_le _) (by rw [show acc ++ qln (last + far) 0 = acc from List.append_nil _]; exact Y8) (.inl (by rw [show acc ++ qln (last + far) 0 = acc from List.append_nil _])) ?_
    intro k hk1
    generalize hac : acc ++ qln (last + far) k = ac
    have hacl : ac.length ≤ 256 * many + 256 := by
      have : (qln (last + far) k).length = k := by unfold qln; rw [List.length_map, List.length_range]
      rw [← hac, List.length_append, this]
      have : 256 * i ≤ 256 * many := Nat.mul_le_mul_left _ him
      omega
    refine Z2k ?_
    refine Z8 ?_
    refine ao1 (by decide) (q1x (r := ((last + far : Nat) : Int)) rfl rfl (by rw [show (last : Int) + (far : Int) = ((last + far : Nat) : Int) by omega]; exact qc (by omega) (by omega))) ?_
    refine Z8 ?_
    refine ao1 (by decide) (q1x (r := ((last + far + more : Nat) : Int)) rfl rfl (by rw [show ((last + far : Nat) : Int) + (more : Int) = ((last + far + more : Nat) : Int) by omega]; exact qc (by omega) (by omega))) ?_
    refine Zg ?_
    refine Z9 ?_
    refine qa rfl (fun hc => ?_) (fun hc => ?_)
    · have hkm : k ≤ more := by simp at hc; omega
      refine Z8p ?_
      refine ao2 Y1k (q5e (sz := 1) (v := .int .i64 ((last + far + k : Nat) : Int)) rfl (by decide) (by decide) rfl rfl rfl rfl rfl) ?_
      refine ao2 Y1k (q47 rfl (q3x _ _ _ _) rfl rfl rfl (Src.pl (ys := [q35 ((last + far + k : Nat) : Int)]) rfl (qv2 [_])) rfl (by simp) (by simp) Y1x Y1x) ?_
      refine Z8s ?_
      try dsimp only [List.length_cons, List.length_nil, Nat.reduceAdd, AV.cells, put, List.set_cons_zero]
      rw [show (ac.map q35).take ac.length = ac.map q35 from List.take_of_length_le (by simp)]
      refine Z11 ?_
      refine ao1 (by decide) (q1x (r := ((last + far + (k + 1) : Nat) : Int)) rfl rfl (by rw [show ((last + far + k : Nat) : Int) + 1 = ((last + far + (k + 1) : Nat) : Int) by omega]; exact qc (by omega) (by omega))) ?_
      refine Za ?_
      have hnext : acc ++ qln (last + far) (k + 1) = ac ++ [((last + far + k : Nat) : Int)] := by rw [qty, ← List.append_assoc, hac]
      exact ⟨k + 1, by omega, by omega, by rw [hnext]; simp only [List.length_append, List.length_cons, List.length_nil]; exact Y8, .inl (by rw [hnext]; simp only [List.length_append, List.length_cons, List.length_nil, List.map_append, List.map_cons, List.map_nil])⟩
    · have hkm : k = more + 1 := by simp at hc; omega
      subst hkm
      rw [qrv] at hac
      refine Z2k ?_
      refine Z8 ?_
      refine ao1 (by decide) (q1x (r := ((far + more : Nat) : Int)) rfl rfl (by rw [show (far : Int) + (more : Int) = ((far + more : Nat) : Int) by omega]; exact qc (by omega) (by omega))) ?_
      refine ao1 (by decide) (q1x (r := ((last + far + more : Nat) : Int)) rfl rfl (by rw [show (last : Int) + ((far + more : Nat) : Int) = ((last + far + more : Nat) : Int) by omega]; exact qc (by omega) (by omega))) ?_
      refine Z4 ?_
      refine Z2 ?_
      refine Zm4 ?_
      refine Z51 ?_
      refine ⟨(i + 1, last + far + more, ac, b3), by simp only; omega, ⟨?_, by simp only; omega, hsum, ?_⟩, Y8, .inl rfl⟩
      · simp only
        rw [← hspec, ← hac, show many - (i + 1) = m' by omega]
        rfl
      · simp only
        rw [← hac, List.length_append, qxg]
        omega
  · have hi : i = many := by simp at hc; omega
    subst hi
    rw [Nat.sub_self, qqh] at hspec
    have hres : setR (qac (c :: b0)) = .ok (.pl (acc.map q35), bs) := by rw [← hspec]; rfl
    refine Z8w ?_
    refine qp (ys := acc.map q35) 2 rfl (q3x _ _ _ _) rfl rfl Ym (by simp) (qsq 0 _) ?_
    refine q2z ?_
    exact e_rd hB (q2o rfl .nil) rfl hres rfl
end Go.Av
namespace Go.Av
def qot (D:List Deferred) (a:Act):Act:={ a with defers:=a.defers++D }
theorem qjh (D:List Deferred) (a:Act):(qot D a).eval=a.eval:=by
 funext x
 cases x<;>rfl
theorem q97 (D:List Deferred) (a:Act) (d:Option Nat) (v:Value):(qot D a).put d v=qot D (a.put d v):=by
 cases d<;>rfl
def q145 (D:List Deferred) (N:Nat) (Q:q6g) (B:Base):Exit→Act→World→Prop:=fun e a w=>∃ a0,a=qot D a0∧Lift N Q B e a0 w
theorem qvr {P:Program} {D:List Deferred} {o:Oper} {a:Act} {next next':Act→World→Prop} {Q Q':Exit→Act→World→Prop} {r:Result Next} (h:o.upon P a next Q r)
  (hn:∀ a w,next a w→next' (qot D a) w) (hq:∀ e a w,Q e a w→Q' e (qot D a) w):o.upon P (qot D a) next' Q' r:=by
 unfold Oper.upon at h ⊢
 split at h
 ·rw [q97];exact hn _ _ h
 ·rw [q97];exact hn _ _ h
 ·rename_i d w'
  have:=hn _ _ h
  rw [← q97] at this
  exact this
 ·refine h.mono ?_
  intro e w'' k
  cases e with
  | returned v=>show next' ((qot D a).put o.dst v) w'';rw [q97];exact hn _ _ k
  | panicked c=>exact hq _ _ _ k
  | outgrown=>obtain ⟨a1,w1,k⟩:=k;exact ⟨_,w1,hq _ _ _ k⟩
 ·refine Rows.mono h ?_
  intro v w'' k
  rw [q97];exact hn _ _ k
 ·exact hq _ _ _ h
 ·exact h.elim
theorem qa5 {P:Program} {ops:Array Oper} {D:List Deferred} {Q Q':Exit→Act→World→Prop} (hq:∀ e a w,Q e a w→Q' e (qot D a) w):∀ (l:List Oper) (a:Act) (w:World),wpList P ops Q l a w→wpList P ops Q' l (qot D a) w
 | [],a,w,h=>hq _ _ _ h
 | o :: l,a,w,h=>by
  unfold wpList at h ⊢
  have ht:(qot D a).tmps=a.tmps:=rfl
  rw [ht]
  split at h
  ·rename_i hw
   rw [if_pos hw]
   rcases h with h | ⟨h1,h2⟩
   ·refine .inl ?_
    unfold Oper.wp at h ⊢
    rw [qjh]
    exact qvr h (fun a w k=>qa5 hq l a w k) hq
   ·refine .inr ⟨?_,?_⟩
    ·unfold Oper.asks at h1 ⊢
     rw [qjh];exact h1
    ·obtain ⟨a1,w1,k⟩:=h2
     exact ⟨_,w1,hq _ _ _ k⟩
  ·rename_i hw
   rw [if_neg hw,q97]
   exact qa5 hq l _ w h
def AWpD (D:List Deferred) (P:Program) (N:Nat) (B:Base) (c:Code) (Q:q6g) (env:Env) (H:qf):Prop :=
 ∀ S a w,CR N env H S a w→Ext B.S B.w S w→c.wp P (q145 D N Q B) (qot D a) w
section
variable {P : Program} {N : Nat} {B : Base} {Q : q6g} {env : Env} {H : qf} {D : List Deferred}
theorem qr5 {id:Nat} {l:List Oper} (h:q61 P N B l.toArray l Q env H):AWpD D P N B (.region id l.toArray false) Q env H :=
 fun S a w hc hb=>wp_region_lit (qa5 (fun e a w k=>⟨a,rfl,k⟩) l a w (h S a w hc hb))
theorem q115 {x y:Code} (h:AWpD D P N B x (AX.andThen (fun e H=>AWpD D P N B y Q e H) Q) env H):AWpD D P N B (.seq x y) Q env H:=by
 intro S a w hc hb
 refine wp_seq (wp_mono (h S a w hc hb) ?_)
 rintro e a' w' ⟨a0,rfl,x,env',H',S',q,r,c,k⟩
 cases r with
 | nrm=>exact q S' a0 w' c k
 | brk=>exact ⟨a0,rfl,_,env',H',S',q,.brk,c,k⟩
 | ret=>exact ⟨a0,rfl,_,env',H',S',q,.ret,c,k⟩
 | pan hv=>exact ⟨a0,rfl,_,env',H',S',q,.pan hv,c,k⟩
theorem q121 (h:Q .ret env H):AWpD D P N B .ret Q env H:=fun S a _ hc hb=>wp_ret ⟨a,rfl,.ret,env,H,S,h,.ret,hc,hb⟩
def AWpX (P:Program) (N:Nat) (B:Base) (c:Code) (W:Exit→Act→World→Prop) (env:Env) (H:qf):Prop :=
 ∀ S a w,CR N env H S a w→Ext B.S B.w S w→c.wp P W a w
theorem qsx {x y:Code} {W:Exit→Act→World→Prop} (h:AWp P N B x (AX.andThen (fun e H=>AWpX P N B y W e H) (fun _ _ _=>False)) env H):AWpX P N B (.seq x y) W env H:=by
 intro S a w hc hb
 refine wp_seq (wp_mono (h S a w hc hb) ?_)
 rintro e a' w' ⟨x,env',H',S',q,r,c,k⟩
 cases r with
 | nrm=>exact q S' a' w' c k
 | brk=>exact q.elim
 | ret=>exact q.elim
 | pan hv=>exact q.elim
theorem qvq {id d f:Nat} {q:Array Operand} {pos1 pos2:String} {after1 after2:Array Edge} {ty1 ty2:TypeId} {rest:Code} {W:Exit→Act→World→Prop} {us:List AV} (hq:q.toList.map (aev env)=us) (hd:d<N)
  (h:∀ S a w,CR N ((d,.fn (.func f) [] us) :: env) H S a w→Ext B.S B.w S w→∀ caps:Array Value,VRs (own S) w S us caps→rest.wp P W (qot [{ target:=.fn (.func f) caps,args:=#[] }] a) w) :
  AWpX P N B (.seq (.region id #[⟨some d,.makeFunc (.func f) #[] q,ty1,pos1,after1,none⟩,⟨none,.defer { callee:=.value (.tmp d),args:=#[],argTypes:=#[] },ty2,pos2,after2,none⟩] false) rest) W env H:=by
 intro S a w hc hb
 refine wp_seq (wp_region_lit (l:=[⟨some d,.makeFunc (.func f) #[] q,ty1,pos1,after1,none⟩,⟨none,.defer { callee:=.value (.tmp d),args:=#[],argTypes:=#[] },ty2,pos2,after2,none⟩]) ?_)
 have hr1:(execOp a.eval ⟨some d,.makeFunc (.func f) #[] q,ty1,pos1,after1,none⟩).run P w = .ok (.value (.func (.func f) #[] (q.map a.eval))) w:=by simp [execOp,Instr.makeFunc]
 have hv:VR (own S) w S (.fn (.func f) [] us) (.func (.func f) #[] (q.map a.eval)):=by
  obtain ⟨u,k1,k2⟩:=q70 (P:=P) (N:=N) (env:=env) (H:=H) (ty:=ty1) (f:=.func f) (p:=#[]) (q:=q) (vs:=[]) (us:=us) rfl hq S a w hc
  have:=k1 (some d) pos1 after1 none
  rw [hr1] at this
  injection this with e1
  injection e1 with e1
  rw [e1];exact k2
 have hc1:=hc.put (Ext.refl S w) hc.heap (d:=some d) Y1f hv
 have hcaps:VRs (own S) w S us (q.map a.eval):=by
  have:=qgf hc q
  rw [hq] at this
  exact this
 refine wpList_plain rfl fun next hnext=>?_
 unfold Oper.wp
 rw [hr1]
 show next _ _
 refine hnext _ _ (wpList_plain rfl fun next2 hnext2=>?_)
 have he:(a.put (some d) (.func (.func f) #[] (q.map a.eval))).eval (.tmp d) = .func (.func f) #[] (q.map a.eval):=by
  have hs:d<a.tmps.size:=by rw [hc.size];exact hd
  simp [Act.eval,Act.put,hs]
 have hr2:(execOp (a.put (some d) (.func (.func f) #[] (q.map a.eval))).eval ⟨none,.defer { callee:=.value (.tmp d),args:=#[],argTypes:=#[] },ty2,pos2,after2,none⟩).run P w = .ok (.defer { target:=.fn (.func f) (q.map a.eval),args:=#[] }) w:=by
  simp [execOp,resolve,he,Deferred.ofValue]
 unfold Oper.wp
 rw [hr2]
 show next2 _ _
 refine hnext2 _ _ (wpList_nil ?_)
 have:=h S _ w hc1 hb _ hcaps
 have hd0:a.defers=[]:=hc.defers
 simpa [qot,hd0,Exit.then,Act.put] using this
end
end Go.Av
namespace Go.Av
open Go.Proofs
theorem q12p:Tryz.prog.underlying TE=some (.int .i64):=by kernel_rfl
theorem qmy (e:Int) (w:World):(Instr.typeAssert (.iface TE (.int .i64 e)) 20 TE false).run Tryz.prog w = .ok (.int .i64 e) w:=by
 simp [Instr.typeAssert,q1a q12p]
theorem qqz (p:Addr) (x e:Int) (older:List PanicEntry) (w:World) (hc:w.cell? p=some (.int .i64 x)) (hz:w.frozen? p=false) :
  CallsD Tryz.prog 124 #[.pointer (some p)] (.panicking ({ v:=.iface TE (.int .i64 e),recovered:=false } :: older)) w fun e' u' w' =>
   e' = .returned (.tuple #[])∧u' = .panicking ({ v:=.iface TE (.int .i64 e),recovered:=true } :: older)∧w'=w.setCell p (.int .i64 e):=by
 refine callsD_of_wpS Tryz.func124 rfl fun c₀ cs hu=>?_
 apply wpS_seq
 apply wpS_region
 simp [wpOpsS,go_sem,recoverD,hu,Tryz.ntmps124,Exit.thenS]
 apply wpS_seq
 apply wpS_region
 simp [wpOpsS,go_sem,Exit.thenS]
 refine wpS_cond (t:=true) (by simp [Act.eval,Array.replicate]) ?_
 simp only [if_true]
 apply wpS_region
 have ha:=qmy e w
 simp [wpOpsS,go_sem,ha,hc,hz,bodyPostS,results,Tryz.results124]
theorem qls (p:Addr) (w:World) :
  CallsD Tryz.prog 124 #[.pointer (some p)] .returning w fun e u' w'=>e = .returned (.tuple #[])∧u' = .returning∧w'=w:=by
 refine callsD_of_wpS Tryz.func124 rfl fun c₀ cs hu=>?_
 apply wpS_seq
 apply wpS_region
 simp [wpOpsS,go_sem,recoverD,hu,Tryz.ntmps124,Exit.thenS]
 apply wpS_seq
 apply wpS_region
 simp [wpOpsS,go_sem,Exit.thenS]
 refine wpS_cond (t:=false) (by simp [Act.eval,Array.replicate]) ?_
 simp only [Bool.false_eq_true,if_false]
 refine wpS_of_wp (wp_skip ?_)
 cases c₀
 simp_all [bodyPostS,results,Tryz.results124]
theorem qzj {N:Nat} {args:List AV} {H:qf} {S:List Slot} {w:World} {cargs:Array Value} (hH:HRel H S w) (hv:VRs (own S) w S args cargs) (hn:args.length≤N) :
  CR N (params 0 args) H S { tmps:=cargs++Array.replicate (N-cargs.size) undef,defers:=[] } w∧Begun ⟨S,w⟩ H args:=by
 refine ⟨⟨hH,fun t=>?_,?_,rfl⟩,hH.len.symm,hH.bel,?_⟩
 ·rw [qc9,if_pos (Nat.zero_le _),Nat.sub_zero]
  by_cases ht:t<args.length
  ·have h1:args.getD t .junk=args[t]:=by simp [List.getD,ht]
   have ht':t<cargs.size:=by rw [← hv.1];exact ht
   have h2:(cargs++Array.replicate (N-cargs.size) undef).getD t undef=cargs[t]:=by
    simp [Array.getElem?_append_left ht',ht']
   rw [h1,h2]
   exact hv.2 t _ _ (List.getElem?_eq_getElem ht) (Array.getElem?_eq_getElem ht')
  ·have h1:args.getD t .junk = .junk:=by simp [List.getD,List.getElem?_eq_none (Nat.le_of_not_lt ht)]
   rw [h1];exact .junk
 ·have:=hv.1
  simp
  omega
 ·rw [AV.bels_iff]
  intro v hv'
  obtain ⟨j,hj⟩:=List.mem_iff_getElem?.1 hv'
  rw [hH.len]
  exact (hv.2 j v _ hj (Array.getElem?_eq_getElem Yn)).bel
theorem q11t {H:qf} {S:List Slot} {w:World} (h:HRel H S w) {k b:Nat} {x e:Int} {s:Slot} (hk:H[k]?=some ⟨0,1,[[.int .i64 x]]⟩) (hs:S[k]?=some s) (hp:s.place=some b) :
  w.cell? ⟨b,0,none⟩=some (.int .i64 x)∧w.frozen? ⟨b,0,none⟩=false∧∃ S',HRel (H.set k ⟨0,1,[[.int .i64 e]]⟩) S' (w.setCell ⟨b,0,none⟩ (.int .i64 e))∧Ext S w S' (w.setCell ⟨b,0,none⟩ (.int .i64 e)):=by
 have ok:=h.obj k _ s hk hs
 obtain ⟨arr,ty,h1,h2,h3⟩:=ok.lies b hp
 obtain ⟨_,h4⟩:=h3 0 _ rfl
 obtain ⟨_,u,hu,hv⟩:=h4 0 _ rfl
 cases hv
 have hcell:w.cell? ⟨b,0,none⟩=some (.int .i64 x):=by
  rw [cell_of_row w b 0 arr ty _ h1]
  simpa using hu
 have hfz:w.frozen? ⟨b,0,none⟩=false:=by simp [World.frozen?,h1]
 refine ⟨hcell,hfz,?_⟩
 have hg:s.gen=0:=ok.gen.symm
 have hz:s.sz=1:=ok.sz.symm
 have hc:CR 2 [(0,.pt k 0 0 0),(1,.int .i64 e)] H S { tmps:=#[.pointer (some ⟨b,0,none⟩),.int .i64 e],defers:=[] } w:=⟨h,fun t=>by
  match t with
  | 0=>exact .pt s hs (by omega) rfl fun _=>⟨b,hp,by simp⟩
  | 1=>exact .int
  | t+2=>exact .junk,rfl,rfl⟩
 have hst:=qlo (P:=Tryz.prog) (N:=2) (t:=TE) (x:=.tmp 0) (y:=.tmp 1) (sz:=1) (agg:=false) (ty:=0) (env:=[(0,.pt k 0 0 0),(1,.int .i64 e)]) (H:=H) (o:=⟨0,1,[[.int .i64 x]]⟩) (r:=[.int .i64 x]) (v:=.int .i64 e) (i:=0) (j:=0) rfl hk rfl rfl rfl rfl (Nat.le_refl 1)
  none "" #[] none S _ w hc (fun _ w' => ∃ S', HRel (H.set k ⟨0, 1, [[.int .i64 e]]⟩) S' w' ∧ Ext S w S' w') (fun _ _ _ => False) (by rintro v u H' S' w' ⟨_, rfl⟩ hh hx _; exact ⟨S', hh, hx⟩) (fun _ _ _ _ _ hf => hf.elim)
 have hrun : (execOp (Act.eval { tmps := #[.pointer (some ⟨b, 0, none⟩), .int .i64 e], defers := [] }) ⟨none, .store TE (.tmp 0) (.tmp 1), 0, "", #[], none⟩).run Tryz.prog w = .ok .skip (w.setCell ⟨b, 0, none⟩ (.int .i64 e)) := by
  simp [go_sem,hcell,hfz]
 unfold Oper.wp at hst
 rw [hrun] at hst
 exact hst
def q9r (res:Except Int (List UInt8)):Int:=match res with
 | .ok []=>0
 | .ok (_ :: _)=>3
 | .error e=>e
def q88 (H H1:qf) (res:Except Int (List UInt8)):qf:=match res with
 | .ok _=>H1
 | .error _=>H
def rdC (H H1:qf) (res:Except Int (List UInt8)):AOut→qf→Prop:=fun o H'=>match res with
 | .ok r=>o = .ret (.tup [])∧H'=H1++[⟨0,1,[[.int .i64 0]]⟩,⟨0,1,[[.pl (r.map qz)]]⟩]
 | .error e=>o = .pan (.ifc TE (.int .i64 e))∧∃ r:List UInt8,H'=H++[⟨0,1,[[.int .i64 0]]⟩,⟨0,1,[[.pl (r.map qz)]]⟩]
theorem qjs {S:List Slot} {w w':World} {H Hr:qf} {R:AOut→qf→Prop} {e:Int} {a0:Act} {env:Env} {S':List Slot} {row:AObj} (hS:S.length=H.length) (hlen:Hr.length=H.length) (hbel:HBel H.length Hr) (hR:R (.ret (.int .i64 e)) Hr) (henv:get env 4 = .pt H.length 0 0 0)
  (hc:CR 23 env (Hr++[⟨0,1,[[.int .i64 e]]⟩,row]) S' a0 w') (hk:Ext S w S' w') :
  ∃ v,(results Tryz.f84 a0.tmps).run Tryz.prog w' = .ok v w'∧∃ o H' S2,R o H'∧OutR (own S2) w' S2 o (.returned v)∧HRel H' S2 w'∧Ext S w S2 w':=by
 have hres:ResVs Tryz.prog env (Hr++[⟨0,1,[[.int .i64 e]]⟩,row]) [.cell 4 TE] [.int .i64 e]:=qvz (sz:=1) (o:=⟨0,1,[[.int .i64 e]]⟩) (r:=[.int .i64 e]) henv (by rw [← hlen];simp) rfl rfl rfl .nil
 obtain ⟨u,k1,k2⟩:=q7g hc (fn:=Tryz.f84) rfl hres
 obtain ⟨S2,m1,m2,m3⟩:=FitV.ok (B:=⟨S,w⟩) (M:=Hr) hc.heap k2 hk (.inr ⟨_,rfl,by show S.length≤_;omega,rfl,by rw [hlen];exact hbel⟩)
 exact ⟨u,k1,_,Hr,S2,hR,.ret m2,m1,m3⟩
def QEnd (H HE H1:qf) (res:Except Int (List UInt8)):q6g:=fun x env H'=>get env 4 = .pt H.length 0 0 0∧match x with
 | .ret=>q9r res=0∧∃ row,H'=q88 HE H1 res++[⟨0,1,[[.int .i64 0]]⟩,row]
 | .pan v=>v = .ifc TE (.int .i64 (q9r res))∧∃ row,H'=q88 HE H1 res++[⟨0,1,[[.int .i64 0]]⟩,row]
 | _=>False
set_option maxHeartbeats 0 in
theorem qg4 {g:Nat} [FnI Tryz.prog g] (cv:AV) (b:List UInt8) (H HE H1:qf) (res:Except Int (List UInt8)) (hb:b.length≤65536) (h1:H1.length=H.length) (hbel1:HBel H.length H1) (hE:HE.length=H.length) (hbelE:HBel H.length HE) (hcv:cv.bel H.length=true)
  (hg:AC Tryz.prog g [.pt (H.length+1) 0 0 0,cv] (H++[⟨0,1,[[.int .i64 0]]⟩,⟨0,1,[[.pl (b.map qz)]]⟩]) (rdC HE H1 res)) :
  AC Tryz.prog 84 [.pl (b.map qz),.fn (.func g) [] [cv]] H (Ret (.int .i64 (q9r res)) (q88 HE H1 res)):=by
 intro S w cargs hH hv
 refine calls_of_wp_defers Tryz.func84 rfl ?_
 obtain ⟨hc,hB⟩:=qzj (N:=23) hH hv (by simp)
 have hlen:=hH.len
 suffices key:AWpX Tryz.prog 23 ⟨S,w⟩ (Tryz.f84.body.get!) (bodyPostD Tryz.prog Tryz.f84 fun e w'=>∃ o H' S',Ret (.int .i64 (q9r res)) (q88 HE H1 res) o H'∧OutR (own S') w' S' o e∧HRel H' S' w'∧Ext S w S' w') (params 0 [.pl (b.map qz),.fn (.func g) [] [cv]]) (H++[]) by
  refine key S _ w ?_ (Ext.refl S w)
  rw [List.append_nil];exact hc
 refine qsx ?_
 refine q18 ?_
 refine Zln ?_
 refine qe ?_
 refine Znl ?_
 refine Z1d ?_
 refine qsx ?_
 refine Z6r ?_
 refine Z2q ?_
 refine qa rfl (fun hc=>?_) (fun hc=>?_)
 ·simp at hc;omega
 refine Z1d ?_
 refine qvq rfl (by decide) ?_
 intro S2 a2 w2 hc2 hb2 caps hcaps
 have hHlen:(q88 HE H1 res).length=H.length:=by unfold q88;split<;>first | exact h1 | exact hE
 have hHbel:HBel H.length (q88 HE H1 res):=by unfold q88;split<;>first | exact hbel1 | exact hbelE
 refine wp_mono ((?_:AWpD _ Tryz.prog 23 ⟨S2,w2⟩ _ (QEnd H HE H1 res) _ _) S2 a2 w2 hc2 (Ext.refl S2 w2)) ?_
 ·clear hcaps hc2 hb2 hc hB hHbel
  refine Zo9 ?_
  refine Z44 ?_
  refine ao1 (by decide) (V1.up (q3w (cs:=[_]) rfl)) ?_
  refine ao2 Y1k (q8z (sz:=1) (v:=.agg _) rfl rfl rfl rfl (by decide) rfl) ?_
  refine Znp ?_
  cases res with
  | error e =>
   refine Zo9 ?_
   refine Z1r ?_
   refine Zig ?_
   refine qir (ps:=[]) (qs:=[cv]) rfl rfl (by decide) hg (by rintro v H' ⟨h,_⟩;cases h) (by rintro v H' ⟨h,r,rfl⟩;cases h;(repeat (refine q4u ?_));exact ⟨rfl,rfl,_,rfl⟩)
  | ok r =>
   refine Zo9 ?_
   refine Z1r ?_
   refine Zig ?_
   refine qir (ps:=[]) (qs:=[cv]) rfl rfl (by decide) hg (fun v H' hh=>?_) (by rintro v H' ⟨h,_⟩;cases h);obtain ⟨hv',rfl⟩:=hh;cases hv'
   refine qe ?_
   cases r with
   | nil =>
    refine Zo9 ?_
    refine Zig ?_
    refine Zoa ?_
    refine Zob ?_
    refine Zoc ?_
    refine Z4k ?_
    refine Z12 ?_
    refine q1w (b:=true) rfl (by decide) q14 (fun _=>?_) (fun hb=>Y20)
    refine Z4l ?_
    refine Zo9 ?_
    refine ao2 Y1w (q1k (sz:=1) (v:=.int _ _) (r':=[.int .i64 0]) rfl h1 rfl rfl rfl rfl rfl rfl (Nat.le_refl 1) rfl) ?_
    refine Zbd ?_
    refine Zo8 ?_
    exact ⟨rfl,rfl,_,rfl⟩
   | cons c r =>
    refine Zo9 ?_
    refine Zig ?_
    refine Zoa ?_
    refine Zob ?_
    refine Zoc ?_
    refine Z4k ?_
    refine Z12 ?_
    refine q1w (b:=false) Yh (by decide) q14 (fun hb=>Y20) (fun _=>(by (repeat (refine q4u ?_));exact ⟨rfl,rfl,_,rfl⟩))
 ·rintro e a' w' ⟨a0,rfl,x,env',H',S',q,r,c,k⟩
  have hd0:a0.defers=[]:=c.defers
  obtain ⟨u,rfl,hu⟩:∃ u,caps = #[u]∧VR (own S2) w2 S2 (.pt (Lid H.length 0) 0 0 0) u:=by
   have hsz:caps.size=1:=by have:=hcaps.1;simpa using this.symm
   refine ⟨caps[0],?_,hcaps.2 0 _ _ rfl (Array.getElem?_eq_getElem (by omega))⟩
   apply Array.ext
   ·simp [hsz]
   ·intro i k1 k2
    have:i=0:=by simp at k2;omega
    subst this;rfl
  obtain ⟨q4,q⟩:=q
  have hu':=hu.ext k
  have hk':Ext S w S' w':=hb2.trans k
  have hinv:(invoke (.fn (.func 124) #[u]) #[]).run Tryz.prog w' = .ok (.enter 124 #[u]) w':=by simp [invoke,q4o (P:=Tryz.prog) (f:=124)]
  have hrow:∀ (Hr:qf) (row:AObj),Hr.length=H.length→H'=Hr++[⟨0,1,[[.int .i64 0]]⟩,row]→∃ s b,S'[H.length]?=some s∧s.place=some b∧u = .pointer (some ⟨b,0,none⟩):=by
   intro Hr row hl e
   have hid:H'[H.length]?=some ⟨0,1,[[.int .i64 0]]⟩:=by rw [e,← hl];simp
   obtain ⟨s,hs,ok⟩:=c.heap.slot hid
   cases hu' with
   | pt s' hs' hg' _ h =>
    have e2:s'=s:=by
     have h0:S'[H.length]?=some s':=hs'
     rw [hs] at h0;exact (Option.some.inj h0).symm
    subst e2
    obtain ⟨b,hb',hu2⟩:=h ok.gen.symm
    exact ⟨s',b,hs,hb',by rw [hu2];simp⟩
  cases r with
  | nrm=>exact q.elim
  | brk=>exact q.elim
  | ret =>
   obtain ⟨he0,row,hH'⟩:=q
   obtain ⟨s,b',hs,hp,rfl⟩:=hrow _ row hHlen hH'
   subst hH'
   show Leaves Tryz.prog Tryz.f84 a0.tmps _ (a0.defers++_) .returning w'
   rw [hd0,List.nil_append]
   refine leaves_cons (f:=124) (args:=#[_]) (by simp) hinv ?_
   refine (qls _ w').mono ?_
   rintro e u' w'' ⟨rfl,rfl,rfl⟩
   rw [← he0] at c
   exact qjs hlen.symm hHlen hHbel ⟨rfl,rfl⟩ q4 c hk'
  | pan hv' =>
   obtain ⟨rfl,row,hH'⟩:=q
   obtain ⟨s,b',hs,hp,rfl⟩:=hrow _ row hHlen hH'
   subst hH'
   cases hv' with
   | ifc hv' =>
   cases hv'
   show Leaves Tryz.prog Tryz.f84 a0.tmps _ (a0.defers++_) (.panicking _) w'
   rw [hd0,List.nil_append]
   refine leaves_cons (f:=124) (args:=#[_]) (by simp) hinv ?_
   obtain ⟨hcell,hfz,S3,hh3,hx3⟩:=q11t (e:=q9r res) c.heap (k:=H.length) (x:=0) (by rw [← hHlen];simp) hs hp
   refine (qqz _ 0 (q9r res) [] w' hcell hfz).mono ?_
   rintro e u' w'' ⟨rfl,rfl,rfl⟩
   have q57:(q88 HE H1 res++[⟨0,1,[[.int .i64 0]]⟩,row]).set H.length ⟨0,1,[[.int .i64 (q9r res)]]⟩=q88 HE H1 res++[⟨0,1,[[.int .i64 (q9r res)]]⟩,row]:=by
    rw [← hHlen,List.set_append_right _ _ (Nat.le_refl _),Nat.sub_self];rfl
   rw [q57] at hh3
   exact qjs hlen.symm hHlen hHbel ⟨rfl,rfl⟩ q4 ⟨hh3,fun t=>(c.env t).ext hx3,c.size,c.defers⟩ (hk'.trans hx3)
def qww (x:Except Int (List Int×List UInt8)):Except Int (List UInt8):=match x with
 | .ok (_,r)=>.ok r
 | .error e=>.error e
theorem qcs (H:qf) (a:AObj) (b r:List UInt8):Hs (H++[a,⟨0,1,[[.pl (b.map qz)]]⟩]) (H.length+1) 0 r=H++[a,⟨0,1,[[.pl (r.map qz)]]⟩]:=by
 unfold Hs
 rw [List.set_append_right _ _ (by omega),show H.length+1-H.length=1 by omega]
 rfl
theorem qtj (b:List UInt8) (H:qf) (lid gl:Nat) (x:AV) (l:List Int) (hlid:H[lid]?=some ⟨gl,1,[[x]]⟩) (hl:∀ l' r,qac b = .ok (l',r)→l'=l) :
  AC Tryz.prog 85 [.pt (H.length+1) 0 0 0,.pt lid gl 0 0] (H++[⟨0,1,[[.int .i64 0]]⟩,⟨0,1,[[.pl (b.map qz)]]⟩]) (rdC H (H.set lid ⟨gl,1,[[.pl (l.map q35)]]⟩) (qww (qac b))):=by
 have hlt:lid<H.length:=(List.getElem?_eq_some_iff.1 hlid).1
 have hid:H.length+1<(H++[AObj.mk 0 1 [[.int .i64 0]],AObj.mk 0 1 [[.pl (b.map qz)]]]).length:=by simp
 have cs:=qu8 b (H.length+1) 0
 suffices h:AC Tryz.prog 85 [.pt (H.length+1) 0 0 0,.pt lid gl 0 0] (Hs (H++[⟨0,1,[[.int .i64 0]]⟩,⟨0,1,[[.pl (b.map qz)]]⟩]) (H.length+1) 0 b) (rdC H (H.set lid ⟨gl,1,[[.pl (l.map q35)]]⟩) (qww (qac b))) by
  rwa [qcs] at h
 cases hr:qac b with
 | error e =>
  rw [hr] at cs
  refine AC.body (N:=5) [] Tryz.func85 rfl rfl rfl (Nat.le_of_ble_eq_true rfl) fun B hB=>?_
  refine Zit ?_
  refine q3o rfl (by decide) hid cs Y1g (by rintro e r e1;cases e1;(repeat (fail));exact qv5 hB ⟨rfl,r,qcs _ _ _ _⟩ rfl (by rw [q3x,q3x]) (by have:=qgh hB.heap (H.length+1) 0 r;rwa [qhm] at this))
 | ok y =>
  obtain ⟨l',r⟩:=y
  rw [hr] at cs
  obtain rfl:=hl l' r hr
  refine AC.body (N:=5) [] Tryz.func85 rfl rfl rfl (Nat.le_of_ble_eq_true rfl) fun B hB=>?_
  have hF:(Hs (H++[⟨0,1,[[.int .i64 0]]⟩,⟨0,1,[[.pl (b.map qz)]]⟩]) (H.length+1) 0 r)[lid]?=some ⟨gl,1,[[x]]⟩:=by
   rw [qcs,List.getElem?_append_left hlt];exact hlid
  refine Zit ?_
  refine q3o rfl (by decide) hid cs (fun v r' e=>?_) Y1d;cases e
  refine ao2 Y1w (q1b (sz:=1) (v:=.pl _) (r':=[.pl (l'.map q35)]) rfl hF rfl rfl rfl rfl rfl (Nat.le_refl 1) rfl) ?_
  refine Zbd ?_
  refine qc5 (vs:=[]) hB .nil rfl ⟨rfl,?_⟩ rfl (by rw [List.length_set,q3x,q3x]) ?_
  ·rw [qcs,List.set_append_left _ _ hlt]
  ·have h1:=qgh hB.heap (H.length+1) 0 r
   rw [qhm] at h1
   exact HBel.set h1 _ _ Y1e
theorem qnd (f:AV) (b:List UInt8) (H:qf) (hb:65536<b.length):AC Tryz.prog 84 [.pl (b.map qz),f] H (Ret (.int .i64 4) H):=by
 refine AC.body (N:=23) [.cell 4 30] Tryz.func84 rfl rfl rfl (Nat.le_of_ble_eq_true rfl) fun B hB=>?_
 refine Z2 ?_
 refine Zln ?_
 refine qe ?_
 refine Znl ?_
 refine Z6r ?_
 refine Z2q ?_
 refine qa rfl (fun hc=>?_) (fun hc=>?_)
 ·refine Z2 ?_
  refine ao2 Y1w (q1k (sz:=1) (v:=.int _ _) (r':=[_]) rfl rfl rfl rfl rfl rfl rfl rfl (Nat.le_of_ble_eq_true rfl) rfl) ?_
  refine Zbd ?_
  refine Z1 ?_
  exact q4r hB (qvz rfl (lk rfl rfl) rfl rfl rfl .nil) rfl rfl
 ·simp at hc;omega
theorem qp1 {H:qf} {o o':AObj} (h:HBel H.length H) (ho:∀ r∈o.rows,AV.bels (H.length+1) r=true) (ho':∀ r∈o'.rows,AV.bels (H.length+1) r=true):HBel (H++[o]).length ((H++[o]).set (Lid H.length 0) o'):=by
 rw [List.length_append]
 refine HBel.set (fun x hx r hr=>?_) _ _ ho'
 rcases List.mem_append.1 hx with h1 | h1
 ·exact AV.bels_mono (Nat.le_succ _) r (h x h1 r hr)
 ·rw [List.mem_singleton] at h1;subst h1;exact ho r hr
theorem ql9 (b:List UInt8) (H:qf):AC Tryz.prog 38 [.pl (b.map qz)] H (Ret (.tup [.pl ((q26 b).1.map q35),.int .i64 (q26 b).2]) H):=by
 refine AC.body (N:=13) [.tmp 2,.tmp 3] Tryz.func38 rfl rfl rfl (Nat.le_of_ble_eq_true rfl) fun B hB=>?_
 refine Zhx ?_
 refine Z2 ?_
 refine Zln ?_
 refine qe ?_
 refine Znl ?_
 by_cases hb:65536<b.length
 ·rw [show q26 b=([],4) by rw [q26,if_pos hb]]
  refine Zod ?_
  refine Zoe ?_
  refine Z4 ?_
  try dsimp only
  refine Z8m ?_
  refine qa rfl (fun hc=>?_) (fun hc=>?_)
  ·refine Z11 ?_
   refine Z41 ?_
   refine Z8l ?_
   exact Zof
  ·simp at hc
 have cw:∀ l:List Int,(∀ l' r,qac b = .ok (l',r)→l'=l)→AC Tryz.prog 84 [.pl (b.map qz),.fn (.func 85) [] [.pt (Lid H.length 0) 0 0 0]] (H++[AObj.mk 0 1 [[.nsl]]]) (Ret (.int .i64 (q9r (qww (qac b)))) (q88 (H++[AObj.mk 0 1 [[.nsl]]]) (H++[AObj.mk 0 1 [[.pl (l.map q35)]]]) (qww (qac b)))):=fun l hl=>by
  have h1:=qtj b (H++[AObj.mk 0 1 [[.nsl]]]) (Lid H.length 0) 0 .nsl l (lk rfl rfl) hl
  rw [st rfl] at h1
  exact qg4 _ b _ _ _ _ (by omega) (by simp) (by have:=qp1 (o:=AObj.mk 0 1 [[.nsl]]) (o':=AObj.mk 0 1 [[.pl (l.map q35)]]) hB.heap Y1e Y1e;rwa [st rfl] at this) rfl (by have:=qp1 (o:=AObj.mk 0 1 [[.nsl]]) (o':=AObj.mk 0 1 [[.nsl]]) hB.heap Y1e Y1e;rwa [st rfl] at this) Y1l h1
 cases hr:qac b with
 | error e =>
  have he:=qp7 hr
  rw [show q26 b=([],e) by rw [q26,if_neg hb,hr]]
  have c1:=cw [] (by rw [hr];intro l' r h;cases h)
  rw [hr] at c1
  change AC _ _ _ _ (Ret (.int .i64 e) (H++[AObj.mk 0 1 [[.nsl]]])) at c1
  refine Zoi ?_
  try dsimp only
  refine Z8m ?_
  refine qa rfl (fun hc=>?_) (fun hc=>?_)
  ·refine Z11 ?_
   refine Z41 ?_
   refine Z8l ?_
   exact Zof
  ·simp at hc;omega
 | ok y =>
  obtain ⟨l,r⟩:=y
  have c1:=cw l (by rw [hr];rintro l' r' ⟨⟩;rfl)
  rw [hr] at c1
  cases r with
  | nil =>
   rw [show q26 b=(l,0) by rw [q26,if_neg hb,hr];rfl]
   change AC _ _ _ _ (Ret (.int .i64 0) (H++[AObj.mk 0 1 [[.pl (l.map q35)]]])) at c1
   refine Zoi ?_
   try dsimp only
   refine Z8m ?_
   refine qa rfl (fun hc=>?_) (fun hc=>?_)
   ·simp at hc
   ·refine Z2 ?_
    refine Z4h ?_
    refine Z4c ?_
    refine Za ?_
    exact Z5u
  | cons c r =>
   rw [show q26 b=([],3) by rw [q26,if_neg hb,hr];rfl]
   change AC _ _ _ _ (Ret (.int .i64 3) (H++[AObj.mk 0 1 [[.pl (l.map q35)]]])) at c1
   refine Zoi ?_
   try dsimp only
   refine Z8m ?_
   refine qa rfl (fun hc=>?_) (fun hc=>?_)
   ·refine Z11 ?_
    refine Z41 ?_
    refine Z8l ?_
    exact Zof
   ·simp at hc
theorem qn9 (x:Nat) (h:x<256):IntKind.u8.wrap (x:Int)=(x:Int):=by rw [IntKind.wrap_u8];omega
theorem q10y (n:Nat):((n:Int)).tdiv 128=((n / 128:Nat):Int):=by rw [Int.tdiv_eq_ediv_of_nonneg (by omega)];omega
theorem q111 (n:Nat):((n:Int)).tmod 128=((n % 128:Nat):Int):=by rw [Int.tmod_eq_emod_of_nonneg (by omega)];omega
theorem q4p {x:Nat} (h:x<256):qz (UInt8.ofNat x)=[.int .u8 (x:Int)]:=by unfold qz;rw [qhr h]
theorem q17 (n:Nat) (l:List UInt8):∀ r∈l.map qz,AV.bels n r=true:=q5z (e:=qz) (fun _=>rfl) l
set_option maxHeartbeats 0 in
theorem q4z (n:Nat):n<18446744073709551616→∀ H:qf,AC Tryz.prog 81 [.int .u64 (n:Int)] H (Ret (.pl ((q2m n).map qz)) H):=by
 induction n using Nat.strongRecOn with
 | _ n ih =>
 intro hn H
 refine AC.body (N:=17) [.tmp 2] Tryz.func81 rfl rfl rfl (Nat.le_of_ble_eq_true rfl) fun B hB=>?_
 refine Z43 ?_
 refine Z11 ?_
 refine Z1f ?_
 refine qa rfl (fun hc=>?_) (fun hc=>?_)
 ·have h1:n<128:=by simp at hc;omega
  rw [qbo h1,show [UInt8.ofNat n].map qz=[[.int .u8 (n:Int)]] by rw [List.map_cons,q4p (by omega)];rfl]
  refine Z11 ?_
  refine ao1 (by decide) (qn (r:=(n:Int)) rfl (qn9 _ (by omega))) ?_
  refine ao2 Y1k (q5e (sz:=1) (v:=.int .u8 (n:Int)) rfl (by decide) (by decide) rfl rfl rfl rfl rfl) ?_
  refine Zmt ?_
  try dsimp only [AV.cells,put]
  exact Z20
 ·have h1:¬ n<128:=by simp at hc;omega
  have hl:=q2h (n:=n / 128) (by omega)
  refine Z11 ?_
  refine ao1 (by decide) (qr7 (r:=((n % 128:Nat):Int)) rfl rfl (by decide) (q111 _)) ?_
  refine ao1 (by decide) (q1x (r:=((n % 128+128:Nat):Int)) rfl rfl (q34 (n % 128+128) (by omega))) ?_
  refine ao1 (by decide) (qn (r:=((n % 128+128:Nat):Int)) rfl (qn9 _ (by omega))) ?_
  refine Z8q ?_
  refine Z8 ?_
  refine ao1 (by decide) (qz7 (r:=((n / 128:Nat):Int)) rfl rfl (by decide) (by rw [q10y];exact q34 _ (by omega))) ?_
  refine qu (ih (n / 128) (by omega) (by omega) _) rfl (by decide) ?_
  refine ao2 Y1k (q47 rfl rfl rfl rfl rfl (Src.pl rfl (qo (q2m (n / 128)))) rfl (by simp) (by rw [q2m];simp;split<;>simp) Y1x Y1x) ?_
  refine Z8s ?_
  refine Zoj ?_
  refine Z1d ?_
  refine qp (ys:=(q2m n).map qz) 2 rfl rfl rfl rfl (by rw [qci h1,List.map_cons,q4p (by omega),List.drop_zero];exact List.take_of_length_le Y1x) (by rw [qci h1];simp;omega) (q17 0 _) ?_
  exact Z8x
theorem q14i:∀ n:Nat,n<256→IntKind.u8.wrap ((BitVec.ofInt IntKind.u8.bits (n:Int) ||| BitVec.ofInt IntKind.u8.bits (128:Int)).toNat:Int)=((n % 128+128:Nat):Int):=by decide +kernel
set_option maxHeartbeats 0 in
theorem q55 (bs:List UInt8) (n:Nat) (hn:n<18446744073709551616) (H:qf) (id g:Nat) (hbs:bs.length≤1000000) (hid:H[id]?=some ⟨g,1,bs.map qz⟩):AC Tryz.prog 75 [.sl id g 0 bs.length bs.length,.int .u64 (n:Int)] H
  (Ret (.sl id (g+(q2m n).length) 0 (bs.length+(q2m n).length) (bs.length+(q2m n).length)) (H.set id ⟨g+(q2m n).length,1,(bs++q2m n).map qz⟩)):=by
 have hlt:id<H.length:=(List.getElem?_eq_some_iff.1 hid).1
 have hl10:=q2h hn
 refine AC.body (N:=20) [.tmp 4] Tryz.func75 rfl rfl rfl (Nat.le_of_ble_eq_true rfl) fun B hB=>?_
 refine Z49 ?_
 refine qm (G:=List UInt8×Nat) (fun s=>s.1++q2m s.2=q2m n∧s.2<18446744073709551616) (fun s=>[(0,.sl id (g+s.1.length) 0 (bs.length+s.1.length) (bs.length+s.1.length)),(1,.int .u64 (s.2:Int))]) (fun s=>H.set id ⟨g+s.1.length,1,(bs++s.1).map qz⟩++[]) (fun s=>s.2) ([],n) ⟨rfl,hn⟩ Y8 (.inl (by rw [List.length_nil,Nat.add_zero,List.append_nil bs,q3k hid])) ?_
 rintro ⟨pre,m⟩ ⟨hpre,hm⟩
 simp only at hpre hm ⊢
 have hpl:pre.length≤10:=by
  have:=congrArg List.length hpre
  rw [List.length_append] at this
  omega
 have hF:(H.set id ⟨g+pre.length,1,(bs++pre).map qz⟩)[id]?=some ⟨g+pre.length,1,(bs++pre).map qz⟩:=List.getElem?_set_self hlt
 refine Z11 ?_
 refine Z1p ?_
 refine qe ?_
 have htake:((bs++pre).map qz).take (bs.length+pre.length)=(bs++pre).map qz:=List.take_of_length_le (by simp)
 refine Z1 ?_
 refine qa rfl (fun hc=>?_) (fun hc=>?_)
 ·have h1:¬ m<128:=by simp at hc;omega
  refine Z8p ?_
  refine ao1 (by decide) (qn (r:=((m % 256:Nat):Int)) rfl Y18) ?_
  refine ao1 (by decide) (o_or (r:=((m % 128+128:Nat):Int)) rfl rfl (by rw [q14i _ (by omega)];congr 2;omega)) ?_
  refine ao2 Y1k (q5e (sz:=1) (v:=.int .u8 ((m % 128+128:Nat):Int)) rfl (by decide) (by decide) rfl rfl rfl rfl rfl) ?_
  refine ao2 Y1k (q5f (bs.length+pre.length+1) rfl hF rfl rfl (Src.pl (ys:=[qz (UInt8.ofNat (m % 128+128))]) Y11 (qo [_])) rfl Y1v Y1u Y1u Y1v) ?_
  refine Z8s ?_
  refine Zok ?_
  rw [List.set_set,htake]
  refine Z11 ?_
  refine ao1 (by decide) (qmv (r:=((m / 128:Nat):Int)) rfl rfl (by omega) (by rw [show ((2:Int) ^ min (7:Int).toNat IntKind.u64.bits)=((128:Nat):Int) from rfl,Int.fdiv_eq_ediv_of_nonneg _ (by omega)];exact (Int.natCast_ediv _ _).symm)) ?_
  refine Za ?_
  refine ⟨(pre++[UInt8.ofNat (m % 128+128)],m / 128),by simp only;omega,⟨?_,by simp only;omega⟩,?_,.inl ?_⟩
  ·simp only
   rw [← hpre,qci h1,List.append_assoc]
   rfl
  ·simp only [List.length_append,List.length_cons,List.length_nil,← Nat.add_assoc]
   exact Y8
  ·simp only [List.length_append,List.length_cons,List.length_nil,← Nat.add_assoc,List.map_append,List.map_cons,List.map_nil,List.append_assoc]
 ·have h1:m<128:=by simp at hc;omega
  refine Z8p ?_
  refine ao1 (by decide) (qn (r:=(m:Int)) rfl (qn9 _ (by omega))) ?_
  refine ao2 Y1k (q5e (sz:=1) (v:=.int .u8 (m:Int)) rfl (by decide) (by decide) rfl rfl rfl rfl rfl) ?_
  refine ao2 Y1k (q5f (bs.length+pre.length+1) rfl hF rfl rfl (Src.pl (ys:=[qz (UInt8.ofNat m)]) Y11 (qo [_])) rfl Y1v Y1u Y1u Y1v) ?_
  refine Z8s ?_
  refine Zok ?_
  rw [List.set_set,htake]
  refine Z1 ?_
  rw [qbo h1] at hpre
  have hnl:(q2m n).length=pre.length+1:=by rw [← hpre];simp
  refine qc5 hB (q2o rfl .nil) rfl ⟨?_,?_⟩ ?_ (by simp) (HBel.set hB.heap _ _ (fun r hr=>q17 _ (bs++pre++[UInt8.ofNat m]) r (by rw [List.map_append];exact hr)))
  ·rw [hnl];rfl
  ·rw [hnl,← hpre,← List.append_assoc,List.map_append (l₁:=bs++pre)];rfl
  ·exact decide_eq_true hlt
abbrev qgb (x:Nat×Nat):List AV:=[.int .i64 (x.1:Int),.int .i64 (x.2:Int)]
theorem qx3 (n:Nat) (l:List (Nat×Nat)):∀ r∈l.map qgb,AV.bels n r=true:=q5z (e:=qgb) (fun _=>rfl) l
theorem qw4 (l:List (Nat×Nat)):∀ r∈l.map qgb,r.length=2:=q5a (e:=qgb) (n:=2) (fun _=>rfl) l
set_option maxHeartbeats 0 in
theorem qsc (l:List Int) (hs:sok l=true) (H:qf):AC Tryz.prog 78 [.pl (l.map q35)] H (Ret (.pl ((rs (inl l) 0).map qgb)) H):=by
 have hl256:=qiw hs
 refine AC.body (N:=42) [.tmp 2] Tryz.func78 rfl rfl rfl (Nat.le_of_ble_eq_true rfl) fun B hB=>?_
 refine Zhr ?_
 refine q1s (k:=0) 3 2 rfl (by decide) rfl ?_
 rw [List.nil_append]
 refine Zbe ?_
 refine Z75 ?_
 refine qm (G:=Nat×Nat) (fun s=>s.1≤l.length) (fun s=>[(0,.pl (l.map q35)),(3,.sl (Lid H.length 0) s.2 0 (rt (inl l) (bd l s.1)).length (rt (inl l) (bd l s.1)).length),(6,.pl (l.map q35)),(7,.int .i64 (l.length:Int)),(8,.int .i64 (s.1:Int))]) (fun s=>H++[⟨s.2,2,(rt (inl l) (bd l s.1)).map qgb⟩]) (fun s=>l.length-s.1) (0,0) (Nat.zero_le _) Y8 (.inl rfl) ?_
 rintro ⟨i,g⟩ hil
 simp only at hil ⊢
 have hql:=qzl (inl l) (bd l i)
 refine Z4r ?_
 refine qa rfl (fun hc=>?_) (fun hc=>?_)
 ·have hi:i<l.length:=by simp at hc;omega
  obtain ⟨n,hn,hn256⟩:=q6n hs hi
  have hr:=qk q35 hn
  have hstep:=quj hs hn
  have hbd:=q9w hn
  generalize hout:rt (inl l) (bd l i)=out at hql hstep
  have hbnd:bd l i≤256:=by
   rcases Nat.eq_zero_or_pos i with e | e
   ·subst e;simp [bd]
   ·obtain ⟨p,hp,hp2⟩:=q6n hs (i:=i-1) (by omega)
    have e1:=q9w hp
    rw [show i-1+1=i by omega] at e1
    omega
  obtain ⟨p,hp⟩:∃ p:Int,0<i→l[i-1]?=some p∧0≤p∧p<256:=by
   by_cases h0:0<i
   ·obtain ⟨p,hp,hp2⟩:=q6n hs (i:=i-1) (by omega)
    exact ⟨p,fun _=>⟨hp,by omega,by omega⟩⟩
   ·exact ⟨0,fun h=>absurd h h0⟩
  have hq1:decide ((0:Int)<(i:Int))=true→(l.map q35)[i-1]?=some (q35 p):=fun h=>qk q35 (hp (by have:=of_decide_eq_true h;omega)).1
  have hcnd:0<i→(l[i-1]?=some ((n:Int)-1)↔(n:Int)=p+1):=fun h=>by
   rw [(hp h).1]
   constructor
   ·intro e;have:=Option.some.inj e;omega
   ·intro e;congr 1;omega
  refine Z11 ?_
  refine Z4u ?_
  refine Z3 ?_
  refine Za ?_
  refine qq 24 (.bool (decide (0<i∧l[i-1]?=some ((n:Int)-1)))) ?_ ?_
  ·refine Z8 ?_
   refine Z2p ?_
   refine Zh ?_
   refine qb rfl rfl (fun hg2=>?_) (fun hg2=>?_)
   ·refine Zj ?_
    refine Ze3 ?_
    refine q1j rfl rfl (by decide) (q30 (r:=((i-1:Nat):Int)) rfl rfl (by have:=of_decide_eq_true hg2;rw [show (i:Int)-1=((i-1:Nat):Int) by omega];exact qc (by omega) (by omega))) ?_
    refine q1j rfl rfl (by decide) (q16 (n:=i-1) rfl rfl (hq1 hg2) rfl) ?_
    refine q1j rfl rfl (by decide) (q29 (v:=.int .i64 p) rfl (hq1 hg2) rfl) ?_
    refine q1j rfl rfl (by decide) (q1x (r:=p+1) rfl rfl (by have:=hp (by have:=of_decide_eq_true hg2;omega);exact qc (by omega) (by omega))) ?_
    refine Z3p ?_
    refine Zm ?_
    exact Zol
   ·refine Ze5 ?_
    exact Zol
  refine Z1 ?_
  refine qa rfl (fun hc=>?_) (fun hc=>?_)
  ·have hcd:0<i∧l[i-1]?=some ((n:Int)-1):=of_decide_eq_true hc
   obtain ⟨q,a,m,hq,ham⟩:=quk hs hn hcd
   rw [hout] at hq
   subst hq
   rw [if_pos hcd,q2s] at hstep
   have hrow:((q++[(a,m)]).map qgb)[0+q.length]?=some (qgb (a,m)):=by simp
   refine Z1 ?_
   refine q3i mixed (some 10) 1 ?_
   refine Z7x ?_
   refine Zbv ?_
   refine Zmd ?_
   refine aqp 2 rfl Y1q (by decide) (fun G=>qex rfl (lk rfl rfl) rfl) ?_
   refine aq0 3 rfl Y1q (by decide) (fun _=>q30 (r:=((q.length:Nat):Int)) rfl rfl (by rw [show (((q++[(a,m)]).length:Nat):Int)-1=((q.length:Nat):Int) by simp];exact qc (by omega) (by simp at hql;omega))) ?_
   refine aqp 4 rfl Y1q (by decide) (fun G=>q12 rfl (lk rfl rfl) rfl rfl rfl (by simp)) ?_
   refine aqp 5 rfl Y1q (by decide) (fun G=>q66 rfl (lk rfl rfl) rfl rfl (by omega) (by omega)) ?_
   refine aqp 6 rfl Y1q (by decide) (fun G=>qh rfl (lk rfl rfl) rfl hrow rfl) ?_
   refine aq0 7 rfl Y1q (by decide) (fun _=>q1x (r:=((m+1:Nat):Int)) rfl rfl (by rw [show (m:Int)+1=((m+1:Nat):Int) by omega];exact qc (by omega) (by omega))) ?_
   refine qss [9,8] 8 rfl Y1q (by decide) (fun G=>q12 rfl (lk rfl rfl) rfl rfl rfl (by simp)) ?_
   refine aqp 9 rfl Y1q (by decide) (fun G=>q66 rfl (lk rfl rfl) rfl rfl (by omega) (by omega)) ?_
   refine aqs 10 rfl Y1q Y1b Y1w (q1k (sz:=1) (v:=.int _ _) (r':=qgb (a,m+1)) rfl rfl rfl rfl hrow rfl rfl rfl (Nat.le_refl 2) rfl) ?_
   refine Z7d ?_
   refine Z7a ?_
   rw [show ((q++[(a,m)]).map qgb).set (0+q.length) (qgb (a,m+1))=(q++[(a,m+1)]).map qgb by simp]
   refine Z2 ?_
   refine Zm4 ?_
   refine Z51 ?_
   exact ⟨(i+1,g),by simp only;omega,by simp only;omega,by simp only [hbd,hstep,List.length_append,List.length_cons,List.length_nil];exact Y8,.inl (by simp only [hbd,hstep])⟩
  ·have hcd:¬ (0<i∧l[i-1]?=some ((n:Int)-1)):=of_decide_eq_false hc
   rw [if_neg hcd] at hstep
   refine Z8p ?_
   refine ao1 (by decide) (V1.up (qqu (cs:=[.int _ _,.int _ _]) rfl)) ?_
   refine ao2 Y1k (q5e (sz:=2) (v:=.agg (qgb (n,0))) (cs:=qgb (n,0)) rfl (by decide) (by decide) rfl rfl rfl rfl rfl) ?_
   refine ao2 Y1k (q47 rfl rfl rfl rfl rfl (Src.pl (ys:=[qgb (n,0)]) rfl (qw4 [_])) rfl (by simp) (by simp) Y1x Y1x) ?_
   refine Z8s ?_
   refine Znj ?_
   rw [show (out.map qgb).take out.length=out.map qgb from List.take_of_length_le (by simp)]
   refine Z2 ?_
   refine Zm4 ?_
   refine Z51 ?_
   exact ⟨(i+1,g+1),by simp only;omega,by simp only;omega,by simp only [hbd,hstep,List.length_append,List.length_cons,List.length_nil];exact Y8,.inl (by simp only [hbd,hstep,List.map_append,List.map_cons,List.map_nil])⟩
 ·have hi:i=l.length:=by simp at hc;omega
  subst hi
  rw [qt3 hs]
  refine Z8w ?_
  refine qp (ys:=(rs (inl l) 0).map qgb) 2 rfl rfl rfl rfl Ym (by simp) (qx3 0 _) ?_
  exact Z8x
theorem q112 (n:Nat) (bs:List UInt8) (g:Nat):∀ o∈[AObj.mk g 1 (bs.map qz)],∀ r∈o.rows,AV.bels n r=true:=by
 intro o ho r hr
 simp only [List.mem_singleton] at ho
 subst ho
 exact q17 _ _ r hr
set_option maxHeartbeats 0 in
theorem qys (l:List Int) (hl:l.length≤1000000) (H:qf):AC Tryz.prog 31 [.pl (l.map q35)] H (Ret (.tup [.pl ((q5r l).1.map qz),.int .i64 (q5r l).2]) H):=by
 have hl2:l.length≤9223372036854775807:=by omega
 refine AC.body (N:=43) [.tmp 2,.tmp 3] Tryz.func31 rfl rfl rfl (Nat.le_of_ble_eq_true rfl) fun B hB=>?_
 refine Zhx ?_
 refine Z45 ?_
 refine qu (qbd _ Y1y _) rfl (by decide) ?_
 refine Z3x ?_
 refine qa rfl (fun hc=>?_) (fun hc=>?_)
 ·have hs:sok l=false:=by simpa using hc
  rw [show q5r l=([],1) by rw [q5r,if_pos hs]]
  refine Zhx ?_
  try dsimp only
  exact Zom
 have hs:sok l=true:=by simpa using hc
 rw [show q5r l=(q9k l,0) by rw [q5r,if_neg (by rw [hs];simp)]]
 have hlen:=qaz l
 have hok:=qnx (inl l)
 have hrl:=qha (inl l) 256 0 rfl
 have hspec:q9k l=([2]++q2m (rs (inl l) 0).length)++q6s 0 (rs (inl l) 0):=rfl
 refine Z45 ?_
 refine qu (qsc _ Y1y _) rfl (by decide) ?_
 refine Zmt ?_
 try dsimp only
 clear hc
 generalize hq:rs (inl l) 0=q at hok hrl hspec
 have hn10:=q2h (n:=q.length) (by omega)
 refine Z2 ?_
 refine Z8q ?_
 refine Z6t ?_
 refine ao1 (by decide) (qn (r:=(q.length:Int)) rfl (by (rw [List.length_map];exact q34 q.length (by omega)))) ?_
 refine ao2 Y1k (V2.callo3 (k:=0) (q55 [2] q.length (by omega) _ (Lid H.length 0) 0 (by simp) (lk rfl rfl)) rfl rfl) ?_
 refine Z8s ?_
 try dsimp only [List.length_cons,List.length_nil,Nat.reduceAdd,put,AV.cells,List.nil_append,List.cons_append,List.set_cons_zero]
 refine Z77 ?_
 refine qm (G:=Nat×Nat×List UInt8) (fun s=>s.1≤q.length∧s.2.2++q6s s.2.1 (q.drop s.1)=q9k l∧q9p (s.1 == 0) s.2.1 (q.drop s.1)∧1≤s.2.2.length) (fun s=>[(5,.sl (Lid H.length 0) (s.2.2.length-1) 0 s.2.2.length s.2.2.length),(6,.int .i64 (s.2.1:Int)),(19,.pl (q.map qgb)),(20,.int .i64 (q.length:Int)),(21,.int .i64 (s.1:Int))]) (fun s=>H++[⟨s.2.2.length-1,1,s.2.2.map qz⟩]) (fun s=>q.length-s.1) (0,0,[2]++q2m q.length) ⟨Nat.zero_le _,hspec.symm,hok,by simp⟩ (by simp only [List.length_append,List.length_cons,List.length_nil,Nat.add_sub_cancel_left,Nat.zero_add];exact Y8) (.inl (by simp only [List.length_append,List.length_cons,List.length_nil,Nat.add_sub_cancel_left,Nat.zero_add];rfl)) ?_
 rintro ⟨i,last,bs⟩ ⟨hi,hbs,hro,hb1⟩
 simp only at hi hbs hro hb1 ⊢
 have hbl:bs.length≤6000:=by
  have:=congrArg List.length hbs
  rw [List.length_append] at this
  omega
 refine Z4r ?_
 refine qa rfl (fun hc=>?_) (fun hc=>?_)
 ·have hil:i<q.length:=by simp at hc;omega
  obtain ⟨⟨a,m⟩,ham,_⟩:=qr hil
  have hr:=qk qgb ham
  have hdrop:q.drop i=(a,m) :: q.drop (i+1):=by
   rw [List.drop_eq_getElem_cons hil]
   congr 1
   rw [List.getElem?_eq_getElem hil] at ham
   exact Option.some.inj ham
  rw [hdrop] at hbs hro
  obtain ⟨k1,k2,k3,k4⟩:=hro
  rw [q6s,← List.append_assoc,← List.append_assoc] at hbs
  have hna:=q2h (n:=a-last) (by omega)
  have hnm:=q2h (n:=m) (by omega)
  generalize hb2:bs++q2m (a-last)=bs2 at hbs
  have hl2:bs2.length=bs.length+(q2m (a-last)).length:=by rw [← hb2,List.length_append]
  have c1:=fun H' id hid=>q55 bs (a-last) (by omega) H' id (bs.length-1) (by omega) hid
  rw [hb2,← hl2,show bs.length-1+(q2m (a-last)).length=bs2.length-1 by omega] at c1
  generalize hb3:bs2++q2m m=bs3 at hbs
  have hl3:bs3.length=bs2.length+(q2m m).length:=by rw [← hb3,List.length_append]
  have c2:=fun H' id hid=>q55 bs2 m (by omega) H' id (bs2.length-1) (by omega) hid
  rw [hb3,← hl3,show bs2.length-1+(q2m m).length=bs3.length-1 by omega] at c2
  refine Zfx ?_
  refine ao2 Y1k (q3y (sz:=2) rfl (by decide) rfl) ?_
  refine ao2 Y1w (q2q (sz:=2) rfl rfl rfl rfl rfl rfl rfl rfl (Nat.le_of_ble_eq_true rfl)) ?_
  refine Zbh ?_
  refine Z1 ?_
  refine Zon ?_
  refine Zbv ?_
  refine aqr 1 rfl Y1q (by decide) (fun G hG=>q66 rfl (lk rfl hG) rfl rfl (by omega) (by omega)) ?_
  refine Zoo ?_
  refine Zby ?_
  refine aq0 4 rfl Y1q (by decide) (fun _=>q30 (r:=((a-last:Nat):Int)) rfl rfl (by rw [show (a:Int)-(last:Int)=((a-last:Nat):Int) by omega];exact qc (by omega) (by omega))) ?_
  refine aq0 5 rfl Y1q (by decide) (fun _=>qn (r:=((a-last:Nat):Int)) rfl (q34 _ (by omega))) ?_
  refine aqr 7 rfl Y1q (by decide) (fun G hG=>q66 rfl (lk rfl hG) rfl rfl (by omega) (by omega)) ?_
  refine aqr 8 rfl Y1q (by decide) (fun G hG=>qh (v:=.int _ _) rfl (lk rfl hG) rfl rfl rfl) ?_
  refine aq0 9 rfl Y1q (by decide) (fun _=>qn (r:=(m:Int)) rfl (q34 _ (by omega))) ?_
  refine aqs 6 rfl Y1q Y15 Y1k (V2.callo3 (k:=0) (c1 _ (Lid H.length 0) (lk rfl rfl)) rfl rfl) ?_
  refine aqs 10 rfl Y1q Y15 Y1k (V2.callo3 (k:=0) (c2 _ (Lid H.length 0) (lk rfl rfl)) rfl rfl) ?_
  refine aq0 11 rfl Y1q (by decide) (fun _=>q11 (v:=.sl _ _ _ _ _) rfl) ?_
  refine Zie ?_
  refine Z7a ?_
  refine Z2 ?_
  refine Zop ?_
  refine Z2z ?_
  refine Zop ?_
  refine Z2z ?_
  refine ao1 (by decide) (q1x (r:=((a+m:Nat):Int)) rfl rfl (by rw [show (a:Int)+(m:Int)=((a+m:Nat):Int) by omega];exact qc (by omega) (by omega))) ?_
  refine Z4 ?_
  try dsimp only
  refine Z2 ?_
  refine Zm4 ?_
  refine Z51 ?_
  exact ⟨(i+1,a+m,bs3),by simp only;omega,⟨by simp only;omega,hbs,by simpa using k4,by simp only;omega⟩,Y8,Fit.loc hB rfl Y1 (q112 _ _ _)⟩
 ·have hie:i=q.length:=by simp at hc;omega
  subst hie
  rw [List.drop_length,q6s,List.append_nil] at hbs
  subst hbs
  refine Zji ?_
  refine Zoq ?_
  exact Zi1
theorem q3t {P:Program} {N:Nat} {env:Env} {H0 L:qf} {ty t t' e:TypeId} {x y:Operand} {n k g sz bytes:Nat} {agg:Bool} {zs:List AV} {α:Type} {en:α→List AV} {bs cs:List α} [hu:SlI P t e] [NiI P t'] [TyI P e agg sz] [hz:ZcI P e zs] [ByI P e bytes]
  (hx:aev env x = .sl (Lid n k) g 0 bs.length bs.length) (hn:H0.length=n) (hk:L[k]?=some ⟨g,sz,bs.map en⟩) (hy:Src P N env (H0++L) y sz (cs.map en)) (hz':zs.length=sz) (h63:bs.length+cs.length≤9223372036854775807) (hb:(bs.length+cs.length) * bytes≤140737488355328) :
  V2 P N (.call { callee:=.builtin .append,args:=#[x,y],argTypes:=#[t,t'] }) ty env (H0++L) (.sl (Lid n k) (g+1) 0 (bs++cs).length (bs++cs).length) (H0++L.set k ⟨g+1,sz,(bs++cs).map en⟩):=by
 have:=qio (P:=P) (N:=N) (env:=env) (ty:=ty) (t:=t) (t':=t') (e:=e) (agg:=agg) (zs:=zs) (bytes:=bytes) (o:=⟨g,sz,bs.map en⟩) hx hn hk rfl rfl hy hz' (by simp) (by simpa using h63) Y1r
 rw [show (bs.map en).take bs.length=bs.map en from List.take_of_length_le (by simp),← List.map_append,List.length_map,← List.length_append] at this
 exact this
theorem qut (l:List Int) (n:Nat) (hl:l.length≤1000000) (H:qf):AC Tryz.prog 82 [.pl (l.map q35),.int .i64 (n:Int)] H (Ret (.bool (sok l&&inl l n)) H):=by
 refine AC.body (N:=12) [.tmp 4] Tryz.func82 rfl rfl rfl (Nat.le_of_ble_eq_true rfl) fun B hB=>?_
 refine Zf ?_
 refine qq 4 (.bool (sok l&&inl l n)) ?_ ?_
 ·refine Z44 ?_
  refine Zor ?_
  refine Zh ?_
  refine qb rfl rfl (fun hg2=>?_) (fun hg2=>?_)
  ·refine Ze3 ?_
   refine q6d rfl rfl (by decide) (V2.call (qyj l n (by omega) _) rfl) ?_
   refine Zn ?_
   exact Zmn
  ·refine Z1z ?_
   exact Zmn
 exact Z20
set_option maxHeartbeats 0 in
theorem qsw (l:List Int) (hl:l.length≤1000000) (H:qf):AC Tryz.prog 35 [.pl (l.map q35)] H (Ret (.tup [.pl ((q5r l).1.map qz),.int .i64 (q5r l).2]) H):=by
 refine AC.body (N:=66) [.tmp 2,.tmp 3] Tryz.func35 rfl rfl rfl (Nat.le_of_ble_eq_true rfl) fun B hB=>?_
 refine Zhx ?_
 refine Z45 ?_
 refine Zor ?_
 refine Z3x ?_
 refine qa rfl (fun hc=>?_) (fun hc=>?_)
 ·have hs:sok l=false:=by simpa using hc
  rw [show q5r l=([],1) by rw [q5r,if_pos hs]]
  refine Zhx ?_
  try dsimp only
  exact Zom
 have hs:sok l=true:=by simpa using hc
 rw [show q5r l=(q9k l,0) by rw [q5r,if_neg (by rw [hs];simp)]]
 have hlen:=qaz l
 have hok:=qnx (inl l)
 have hrl:=qha (inl l) 256 0 rfl
 have hspec:q9k l=2 :: (q2m (rs (inl l) 0).length++q6s 0 (rs (inl l) 0)):=rfl
 have cH:=fun n H=>qut l n hl H
 rw [hs] at cH
 simp only [Bool.true_and] at cH
 clear hc
 generalize hf:inl l=f at hok hrl hspec cH
 refine Z43 ?_
 try dsimp only
 refine Z1d ?_
 refine Zo4 ?_
 rw [List.nil_append]
 refine q18 ?_
 refine Z4 ?_
 refine Z5 ?_
 refine Z1e ?_
 refine qm (G:=Nat×Nat×Nat×List UInt8×Nat) (fun s=>s.1≤256∧s.2.2.2.1++q6s s.2.2.1 (rs f s.1)=q6s 0 (rs f 0)∧s.2.1+(rs f s.1).length=(rs f 0).length∧(s.2.2.1≤s.1∨∀ x,s.1≤x→x≤s.2.2.1→0<x∧f (x-1)=true)) (fun s=>[(0,.pl (l.map q35)),(4,.sl (Lid H.length 0) s.2.2.2.2 0 s.2.2.2.1.length s.2.2.2.1.length),(5,.int .u64 (s.2.1:Int)),(6,.int .i64 (s.2.2.1:Int)),(7,.int .i64 (s.1:Int))]) (fun s=>H++[⟨s.2.2.2.2,1,s.2.2.2.1.map qz⟩]) (fun s=>256-s.1) (0,0,0,[],0) ⟨by decide,rfl,by simp,.inl (Nat.le_refl _)⟩ Y8 (.inl rfl) ?_
 rintro ⟨n,many,last,bs,g⟩ ⟨hn,hbs,hmany,hlast⟩
 simp only at hn hbs hmany hlast ⊢
 have hbl:bs.length≤6000:=by
  have h1:=congrArg List.length hbs
  have h2:=congrArg List.length hspec
  rw [List.length_append] at h1
  rw [List.length_cons,List.length_append] at h2
  omega
 refine Z11 ?_
 refine Z1f ?_
 refine qa rfl (fun hc=>?_) (fun hc=>?_)
 ·have hn2:n<256:=by simp at hc;omega
  have c1:=cH n
  have c2:=cH (n-1)
  refine Z1 ?_
  refine qq 29 (.bool (!(q3g f n))) ?_ ?_
  ·refine Zbr ?_
   refine Zos ?_
   refine Z23 ?_
   refine qb rfl rfl (fun hg4=>?_) (fun hg4=>?_)
   ·refine Z3c ?_
    refine Zbk ?_
    refine Z3a ?_
    refine Zm ?_
    exact Zot
   ·refine Z65 ?_
    refine Z25 ?_
    refine qb rfl rfl (fun hg7=>?_) (fun hg7=>?_)
    ·refine Ze3 ?_
     refine q1j rfl rfl (by decide) (q30 (r:=((n-1:Nat):Int)) rfl rfl (by have:=of_decide_eq_true hg7;rw [show (n:Int)-1=((n-1:Nat):Int) by omega];exact qc (by omega) (by omega))) ?_
     refine q6d rfl rfl (by decide) (V2.call (c2 _) rfl) ?_
     refine Z26 ?_
     refine Zr ?_
     exact Zot
    ·refine Z29 ?_
     refine Z2a ?_
     refine Zr ?_
     exact Zot
  refine Z1 ?_
  refine qa rfl (fun hc=>?_) (fun hc=>?_)
  ·have hst:q3g f n=false:=by simpa using hc
   rw [qm8 hst] at hbs hmany
   refine Z11 ?_
   refine Zou ?_
   refine Za ?_
   exact ⟨(n+1,many,last,bs,g),by simp only;omega,⟨by simp only;omega,hbs,hmany,hlast.imp (fun h=>by simp only;omega) (fun h x h1 h2=>h x (by simp only at h1;omega) h2)⟩,Y8,.inl rfl⟩
  have hst:q3g f n=true:=by simpa using hc
  have hst':=hst
  simp only [q3g,Bool.and_eq_true,Bool.not_eq_true',Bool.and_eq_false_imp,decide_eq_true_eq] at hst'
  obtain ⟨hfn,hprev⟩:=hst'
  have hln:last≤n:=by
   rcases hlast with h1 | h1
   ·exact h1
   ·rcases Nat.lt_or_ge n last with h2 | h2
    ·obtain ⟨h3,h4⟩:=h1 n (Nat.le_refl _) (by omega)
     rw [hprev h3] at h4;cases h4
    ·exact h2
  have hext:=q107 f hn2
  have hin:=fun x=>qzk f hn2 (x:=x)
  have hend:=qtl f hn2
  rw [qjl hn2 hst] at hbs hmany
  rw [q6s,← List.append_assoc,← List.append_assoc] at hbs
  clear hst hlast hprev c1 c2 hc
  refine Z1e ?_
  refine qm (G:=Nat) (fun k=>k≤ext f n) (fun k=>[(0,.pl (l.map q35)),(4,.sl (Lid H.length 0) g 0 bs.length bs.length),(5,.int .u64 (many:Int)),(6,.int .i64 (last:Int)),(7,.int .i64 (n:Int)),(8,.int .i64 (k:Int))]) (fun k=>H++[⟨g,1,bs.map qz⟩]) (fun k=>ext f n-k) 0 (Nat.zero_le _) Y8 (.inl rfl) ?_
  intro k hk
  have c3:=cH (n+k+1)
  have hck:(n+k<255∧f (n+k+1)=true)↔k<ext f n:=by
   constructor
   ·rintro ⟨h1,h2⟩
    rcases Nat.lt_or_ge k (ext f n) with h3 | h3
    ·exact h3
    ·have:k=ext f n:=by omega
     subst this
     rw [hend h1] at h2;cases h2
   ·intro h1
    exact ⟨by omega,hin (n+k+1) (by omega) (by omega)⟩
  refine Z1 ?_
  refine qq 41 (.bool (decide (k<ext f n))) ?_ ?_
  ·refine Z2r ?_
   refine ao1 (by decide) (q1x (r:=((n+k:Nat):Int)) rfl rfl (by rw [show (n:Int)+(k:Int)=((n+k:Nat):Int) by omega];exact qc (by omega) (by omega))) ?_
   refine Zv ?_
   refine qb rfl rfl (fun hg4=>?_) (fun hg4=>?_)
   ·refine Z9p ?_
    refine Z2s ?_
    refine q1j rfl rfl (by decide) (q1x (r:=((n+k:Nat):Int)) rfl rfl (by rw [show (n:Int)+(k:Int)=((n+k:Nat):Int) by omega];exact qc (by omega) (by omega))) ?_
    refine q1j rfl rfl (by decide) (q1x (r:=((n+k+1:Nat):Int)) rfl rfl (by rw [show ((n+k:Nat):Int)+1=((n+k+1:Nat):Int) by omega];exact qc (by omega) (by omega))) ?_
    refine q6d rfl rfl (by decide) (V2.call (c3 _) rfl) ?_
    refine Zm ?_
    exact qe (Out.mk (by (refine congrArg AV.bool ?_;(clear hB cH c3 hspec hbs hmany hin hend;rw [Bool.eq_iff_iff,decide_eq_true_eq,← hck];grind))) Yb)
   ·refine Z29 ?_
    refine Zs ?_
    exact qe (Out.mk (by (refine congrArg AV.bool ?_;(clear hB cH c3 hspec hbs hmany hin hend;rw [Bool.eq_iff_iff,decide_eq_true_eq,← hck];(simp_all;omega)))) Yb)
  refine Z1 ?_
  refine qa rfl (fun hc=>?_) (fun hc=>?_)
  ·have hkl:k<ext f n:=of_decide_eq_true hc
   refine Z11 ?_
   refine Zov ?_
   refine Za ?_
   exact ⟨k+1,by omega,by omega,Y8,.inl rfl⟩
  have hke:k=ext f n:=by have:=of_decide_eq_false hc;omega
  subst hke
  clear hck c3 hc hk
  generalize hm:ext f n=m at hbs hmany hext hin hend
  have hna:=q2h (n:=n-last) (by omega)
  have hnm:=q2h (n:=m) (by omega)
  refine Zi6 ?_
  refine ao1 (by decide) (q30 (r:=((n-last:Nat):Int)) rfl rfl (by rw [show (n:Int)-(last:Int)=((n-last:Nat):Int) by omega];exact qc (by omega) (by omega))) ?_
  refine ao1 (by decide) (qn (r:=((n-last:Nat):Int)) rfl (q34 _ (by omega))) ?_
  refine qu (q4z (n-last) (by omega) _) rfl (by decide) ?_
  refine ao2 Y1k (q3t (en:=qz) (bs:=bs) (cs:=q2m (n-last)) rfl rfl rfl (Src.pl rfl (qo _)) rfl (by omega) (by omega)) ?_
  refine Z8 ?_
  refine ao1 (by decide) (qn (r:=(m:Int)) rfl (q34 _ (by omega))) ?_
  refine qu (q4z m (by omega) _) rfl (by decide) ?_
  refine ao2 Y1k (q3t (en:=qz) (bs:=bs++q2m (n-last)) (cs:=q2m m) rfl rfl rfl (Src.pl rfl (qo _)) rfl Y12 Y12) ?_
  refine Z8s ?_
  refine Z7a ?_
  generalize bs++q2m (n-last)++q2m m=bs3 at hbs
  refine Z2k ?_
  refine ao1 (by decide) (q1x (r:=((n+m:Nat):Int)) rfl rfl (by rw [show (n:Int)+(m:Int)=((n+m:Nat):Int) by omega];exact qc (by omega) (by omega))) ?_
  refine Z4 ?_
  have hm256:many≤256:=by rw [List.length_cons] at hmany;omega
  refine Z11 ?_
  refine ao1 (by decide) (q1x (r:=((many+1:Nat):Int)) rfl rfl (by rw [show (many:Int)+1=((many+1:Nat):Int) by omega];exact q34 _ (by omega))) ?_
  refine Z4 ?_
  refine Z11 ?_
  refine Zou ?_
  refine Za ?_
  refine ⟨(n+1,many+1,n+m,bs3,g+1+1),by simp only;omega,⟨by simp only;omega,hbs,by rw [List.length_cons] at hmany;show many+1+(rs f (n+1)).length=_;omega,.inr fun x h1 h2=>?_⟩,Y8,.inl rfl⟩
  simp only at h1 h2
  refine ⟨by omega,?_⟩
  by_cases hx:x-1=n
  ·rw [hx];exact hfn
  ·exact hin (x-1) (by omega) (by omega)
 ·have hne:n=256:=by simp at hc;omega
  subst hne
  rw [qau (Nat.le_refl _)] at hbs hmany
  rw [q6s,List.append_nil] at hbs
  rw [List.length_nil,Nat.add_zero] at hmany
  subst hmany
  have hnn:=q2h (n:=(rs f 0).length) (by omega)
  have hfin:q9k l=([2]++q2m (rs f 0).length)++bs:=by rw [hspec,hbs];rfl
  generalize (rs f 0).length=many at hnn hfin hrl
  refine Z2 ?_
  refine Z8q ?_
  refine Z8 ?_
  refine qu (q4z many (by omega) _) rfl (by decide) ?_
  refine ao2 Y1k (q3t (en:=qz) (bs:=[2]) (cs:=q2m many) rfl rfl rfl (Src.pl rfl (qo _)) rfl Y1x Y1x) ?_
  refine Z8n ?_
  refine ao2 Y1k (q3t (en:=qz) (bs:=[2]++q2m many) (cs:=bs) rfl rfl rfl (qv8 (o:=⟨g,1,bs.map qz⟩) rfl rfl rfl rfl rfl (List.length_map _)) rfl Y1x Y1x) ?_
  refine Z8r ?_
  refine Z4 ?_
  try dsimp only [List.length_cons,List.length_nil,Nat.reduceAdd,List.cons_append,List.nil_append,put,AV.cells,List.set_cons_succ,List.set_cons_zero]
  have hfin':q9k l=2 :: (q2m many++bs):=hfin
  have hfl:(q9k l).length=(q2m many++bs).length+1:=by rw [hfin'];rfl
  rw [← hfl,← hfin']
  refine Z1d ?_
  refine Zoq ?_
  exact Zi1
end Go.Av
