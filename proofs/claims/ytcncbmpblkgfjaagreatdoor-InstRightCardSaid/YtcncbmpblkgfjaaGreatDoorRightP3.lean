/- Parts of the proof: rules for an abstract memory, plain laws, and walks through the program. -/
import Derived.Test.YtcncbmpblkgfjaaGreatDoorRightP0
import Derived.Test.YtcncbmpblkgfjaaGreatDoorRightP2
import Derived.Test.YtcncbmpblkgfjaaGreatDoorRightP1
set_option maxRecDepth 10000
set_option linter.unusedVariables false
set_option linter.unusedSimpArgs false
namespace Go.Av
open Go.Proofs
def TW (g:List Thing):Prop:=∀ t∈g,t.tag.size≤9223372036854775807
theorem qvq {g:List Thing} {i:Nat} {t:Thing} (h:g[i]?=some t) (hb:g5B g i=true):0≤t.kind:=by
 rcases Nat.eq_zero_or_pos i with rfl | h0
 ·rw [qfo h] at hb
  simp only [Bool.and_eq_true,decide_eq_true_eq] at hb
  omega
 ·rw [qh0 h h0] at hb
  simp only [q5o,Bool.and_eq_true,Bool.or_eq_true,decide_eq_true_eq] at hb
  omega
set_option maxHeartbeats 0 in
theorem qcv (g:List Thing) (H:qj) (hl:g.length≤1000000) (hw:TW g):AC Tryz.prog 55 [.pl (g.map qq)] H (Ret (.bool (q1o g)) H):=by
 refine AC.body (N:=101) [.tmp 2] Tryz.func55 rfl rfl rfl (Nat.le_of_ble_eq_true rfl) fun B hB=>?_
 refine Zf ?_
 refine qn 13 (.bool (decide (g.length=0)||decide (256<g.length))) ?_ ?_
 ·refine Z8w ?_
  refine Z44 ?_
  refine qb rfl rfl (fun hg3=>?_) (fun hg3=>?_)
  ·exact Zgv
  ·refine Zcw ?_
   refine Z43 ?_
   exact Zgw
 refine Z1 ?_
 refine qa rfl (fun hc=>?_) (fun hc=>?_)
 ·rw [show q1o g=false by
   rw [q1o]
   rw [Bool.or_eq_true,decide_eq_true_eq,decide_eq_true_eq] at hc
   rcases hc with h | h
   ·rw [decide_eq_false (by omega)];rfl
   ·rw [decide_eq_false (show ¬ g.length≤256 by omega),Bool.and_false];rfl]
  exact Z5m
 have h1:g.length≠0:=by intro h;simp [h] at hc
 have h2:g.length≤256:=by
  rw [Bool.or_eq_false_iff,decide_eq_false_iff_not,decide_eq_false_iff_not] at hc
  omega
 clear hc
 rw [qqr h1 h2]
 refine Z1e ?_
 refine qm (G:=Nat) (fun i=>i≤g.length∧∀ k,k<i→g5B g k=true) (fun i=>[(0,.pl (g.map qq)),(3,.int .i64 (i:Int))]) (fun _=>H++[]) (fun i=>g.length-i) 0 ⟨Nat.zero_le _,fun k hk=>by omega⟩ Y6 (Fit.refl _ _) ?_
 rintro i ⟨hi,hno⟩
 refine Z8z ?_
 refine qa rfl (fun hc=>?_) (fun hc=>?_)
 ·have hlt:i<g.length:=by simpa using hc
  obtain ⟨t,ht,htl⟩:=qo hlt
  have hr:=qh qq ht
  have hsz:=hw t htl
  have hno0:=hno
  clear hno hc
  refine Zbe ?_
  refine Zcy ?_
  refine Zd0 ?_
  refine Zd1 ?_
  refine Zd3 ?_
  clear hr
  refine Z18 ?_
  refine qa rfl (fun hc=>?_) (fun hc=>?_)
  ·have h0:i=0:=by simp at hc;omega
   subst h0
   have hB0:=qfo ht
   clear hc ht htl hno0 hlt
   refine Z1 ?_
   refine qn 38 (.bool (!g5B g 0)) ?_ ?_
   ·refine Z37 ?_
    refine Zgx ?_
    refine qb rfl rfl (fun hg3=>?_) (fun hg3=>?_)
    ·refine Z40 ?_
     exact Zgy
    ·refine Z39 ?_
     refine Zgz ?_
     refine Z3e ?_
     refine qb rfl rfl (fun hg8=>?_) (fun hg8=>?_)
     ·refine Z3z ?_
      exact Zgy
     ·refine Z38 ?_
      refine Z3s ?_
      refine Zh0 ?_
      refine Zr ?_
      exact Zgy
   refine Z1 ?_
   refine qa rfl (fun hc=>?_) (fun hc=>?_)
   ·have hbad:g5B g 0=false:=by simpa only [Bool.not_eq_true'] using hc
    refine Zf ?_
    rw [q1z (by omega) hbad]
    exact Zb
   ·have hgood:g5B g 0=true:=by simpa only [Bool.not_eq_false'] using hc
    refine Z2l ?_
    refine ⟨0+1,by omega,⟨by omega,fun k hk=>?_⟩,Y6,Fit.loc hB (L:=[]) rfl Y1 (fun o ho=>by simp at ho)⟩
    obtain rfl:k=0:=by omega
    exact hgood
  have h0:0<i:=by simp at hc;omega
  have hB2:=qh0 ht h0
  clear hc ht htl
  refine Z1 ?_
  refine qn 63 (.bool (!(decide (0≤t.up)&&decide (t.up<(i:Int))&&q8d t.tag&&(decide (t.tag=⟨#[]⟩)||decide (t.kind=2))))) ?_ ?_
  ·refine Z3w ?_
   refine qb rfl rfl (fun hg3=>?_) (fun hg3=>?_)
   ·refine Z64 ?_
    refine Z5f ?_
    refine Z7k ?_
    refine Z3i ?_
    refine Z3b ?_
    refine Z5g ?_
    exact Zh1
   ·refine Z39 ?_
    refine Z9k ?_
    refine Z3e ?_
    refine qb rfl rfl (fun hg9=>?_) (fun hg9=>?_)
    ·refine Z5f ?_
     refine Z7k ?_
     refine Z3i ?_
     refine Z3b ?_
     refine Z5g ?_
     exact Zh1
    ·refine Z38 ?_
     refine Z3s ?_
     refine Zh0 ?_
     refine Z28 ?_
     refine qb rfl rfl (fun hg13=>?_) (fun hg13=>?_)
     ·refine Z39 ?_
      refine Zgz ?_
      refine Z29 ?_
      refine Z3e ?_
      refine qb rfl rfl (fun hg19=>?_) (fun hg19=>?_)
      ·refine Z5g ?_
       exact Zh1
      ·refine Z38 ?_
       refine Z3s ?_
       refine Zh2 ?_
       refine Z6c ?_
       exact Zh1
     ·refine Z7j ?_
      refine Z3e ?_
      refine Z38 ?_
      refine Z3s ?_
      refine Zh2 ?_
      refine Z6c ?_
      exact Zh1
  refine Z1 ?_
  refine qa rfl (fun hc=>?_) (fun hc=>?_)
  ·have hbad:g5B g i=false:=by
    rw [Bool.not_eq_true'] at hc
    rw [hB2]
    revert hc
    generalize q5o t.kind (q2k g t.up.toNat)=p
    cases decide (0≤t.up)<;>cases decide (t.up<(i:Int))<;>cases q8d t.tag<;>cases (decide (t.tag=⟨#[]⟩)||decide (t.kind=2))<;>cases p<;>simp
   refine Zf ?_
   rw [q1z hlt hbad]
   exact Zb
  have hgd:(decide (0≤t.up)&&decide (t.up<(i:Int))&&q8d t.tag&&(decide (t.tag=⟨#[]⟩)||decide (t.kind=2)))=true:=by simpa only [Bool.not_eq_false'] using hc
  have hup:0≤t.up∧t.up<(i:Int):=by
   simp only [Bool.and_eq_true,decide_eq_true_eq] at hgd
   exact hgd.1.1
  obtain ⟨u,hu,_⟩:=qo (l:=g) (k:=t.up.toNat) (by omega)
  have hr1:=qh qq hu
  have hu0:=qvq hu (hno0 t.up.toNat (by omega))
  have hk:q2k g t.up.toNat=u.kind:=by rw [q2k,hu]
  have hB3:g5B g i=q5o t.kind u.kind:=by
   rw [hB2,hk]
   revert hgd
   generalize q5o t.kind u.kind=p
   cases decide (0≤t.up)<;>cases decide (t.up<(i:Int))<;>cases q8d t.tag<;>cases (decide (t.tag=⟨#[]⟩)||decide (t.kind=2))<;>cases p<;>simp
  clear hc hgd hB2 hu hk hsz
  refine Z4o ?_
  refine Z37 ?_
  refine ao1 (by decide) (q57 rfl rfl hup.1 hr1 rfl) ?_
  refine Zh3 ?_
  refine ao1 (by decide) (qz (v:=.int _ _) rfl hr1 rfl) ?_
  refine Z4g ?_
  clear hr1
  refine Z1 ?_
  refine qn 100 (.bool (!g5B g i)) ?_ ?_
  ·refine Z45 ?_
   refine qb rfl rfl (fun hg3=>?_) (fun hg3=>?_)
   ·refine Z7o ?_
    refine Z3b ?_
    refine qb rfl rfl (fun hg7=>?_) (fun hg7=>?_)
    ·refine Z5f ?_
     refine Z2f ?_
     refine Z3i ?_
     refine Z3b ?_
     refine Z5f ?_
     refine Z7k ?_
     refine Zcb ?_
     exact Zh4
    ·refine Z7i ?_
     refine qb rfl rfl (fun hg11=>?_) (fun hg11=>?_)
     ·refine Zl ?_
      refine Z29 ?_
      refine Z3e ?_
      refine qb rfl rfl (fun hg16=>?_) (fun hg16=>?_)
      ·refine Z5f ?_
       refine Z7k ?_
       refine Zcb ?_
       exact Zh4
      ·refine Z7i ?_
       refine qb rfl rfl (fun hg20=>?_) (fun hg20=>?_)
       ·refine Z3k ?_
        refine Zce ?_
        exact Zh6
       ·refine Z47 ?_
        refine Z2d ?_
        refine Z28 ?_
        refine qb rfl rfl (fun hg25=>?_) (fun hg25=>?_)
        ·exact Zh6
        ·refine Zcl ?_
         exact Zh4
     ·refine Zck ?_
      refine Z3e ?_
      refine Z7i ?_
      refine qb rfl rfl (fun hg20=>?_) (fun hg20=>?_)
      ·refine Z3k ?_
       refine Zce ?_
       exact Zh6
      ·refine Z47 ?_
       refine Z2d ?_
       refine Z28 ?_
       refine qb rfl rfl (fun hg25=>?_) (fun hg25=>?_)
       ·exact Zh6
       ·refine Zcl ?_
        refine Z1a ?_
        exact Zh7
   ·refine Z62 ?_
    refine Z7i ?_
    refine qb rfl rfl (fun hg11=>?_) (fun hg11=>?_)
    ·refine Zl ?_
     refine Z29 ?_
     refine Z3e ?_
     refine qb rfl rfl (fun hg16=>?_) (fun hg16=>?_)
     ·refine Z5f ?_
      refine Z7k ?_
      refine Zcb ?_
      exact Zh4
     ·refine Z7i ?_
      refine qb rfl rfl (fun hg20=>?_) (fun hg20=>?_)
      ·refine Z3k ?_
       refine Zce ?_
       exact Zh6
      ·refine Z47 ?_
       refine Z2d ?_
       refine Z28 ?_
       refine qb rfl rfl (fun hg25=>?_) (fun hg25=>?_)
       ·exact Zh6
       ·refine Zcl ?_
        exact Zh4
    ·refine Zck ?_
     refine Z3e ?_
     refine Z7i ?_
     refine qb rfl rfl (fun hg20=>?_) (fun hg20=>?_)
     ·refine Z3k ?_
      refine Zce ?_
      refine Zh5 ?_
      refine Z1a ?_
      exact Zh7
     ·refine Z47 ?_
      refine Z2d ?_
      refine Z28 ?_
      refine qb rfl rfl (fun hg25=>?_) (fun hg25=>?_)
      ·refine Zh5 ?_
       refine Z1a ?_
       exact Zh7
      ·refine Zcl ?_
       refine Z1a ?_
       exact Zh7
  refine Z1 ?_
  refine qa rfl (fun hc=>?_) (fun hc=>?_)
  ·have hbad:g5B g i=false:=by simpa only [Bool.not_eq_true'] using hc
   refine Zf ?_
   rw [q1z hlt hbad]
   exact Zb
  ·have hgood:g5B g i=true:=by simpa only [Bool.not_eq_false'] using hc
   refine Z2l ?_
   refine ⟨i+1,by omega,⟨by omega,fun k hk=>?_⟩,Y6,Fit.loc hB (L:=[]) rfl Y1 (fun o ho=>by simp at ho)⟩
   rcases Nat.lt_or_eq_of_le (Nat.le_of_lt_succ hk) with h | h
   ·exact hno0 k h
   ·subst h;exact hgood
 ·have:i=g.length:=by simp at hc;omega
  subst this
  refine Zf ?_
  rw [q2s hno]
  exact Zb
theorem qxl {l:List Int} {k:Nat} {x:Int} (hx:l[k]?=some x) (hno:(l.take k).any (fun n=>decide (n<0)||decide (2<n))=false):(l.take (k+1)).any (fun n=>decide (n<0)||decide (2<n))=(decide (x<0)||decide (2<x)):=by
 rw [ql hx,List.any_append,hno];simp
set_option maxHeartbeats 0 in
theorem qkq (g:List Thing) (h:List Int) (H:qj) (hl:g.length≤1000000) (hh:h.length≤1000000) (hw:TW g):AC Tryz.prog 92 [.pl (g.map qq),.pl (h.map eI)] H (Ret (.bool (q2o g h)) H):=by
 refine AC.body (N:=40) [.tmp 4] Tryz.func92 rfl rfl rfl (Nat.le_of_ble_eq_true rfl) fun B hB=>?_
 refine Z23 ?_
 refine qm (G:=Nat) (fun k=>k≤h.length∧(h.take k).any (fun n=>decide (n<0)||decide (2<n))=false) (fun k=>[(0,.pl (g.map qq)),(1,.pl (h.map eI)),(5,.int .i64 (k:Int))]) (fun _=>H++[]) (fun k=>h.length-k) 0 ⟨Nat.zero_le _,rfl⟩ Y6 (Fit.refl _ _) ?_
 rintro k ⟨hk,hno⟩
 refine Z8z ?_
 refine qa rfl (fun hc=>?_) (fun hc=>?_)
 ·have hlt:k<h.length:=by simpa using hc
  obtain ⟨x,hx,hxl⟩:=qo hlt
  have hr:=qh eI hx
  have hst:=qxl hx hno
  refine Z1 ?_
  refine qn 30 (.bool (decide (x<0)||decide (2<x))) ?_ ?_
  ·refine Zc7 ?_
   refine Z5d ?_
   refine Zgx ?_
   refine qb rfl rfl (fun hg5=>?_) (fun hg5=>?_)
   ·refine Zc3 ?_
    refine Zh9 ?_
    refine Zha ?_
    refine Zgz ?_
    refine Z3b ?_
    refine qb rfl rfl (fun hg12=>?_) (fun hg12=>?_)
    ·refine Zc3 ?_
     refine Zh9 ?_
     refine Zha ?_
     refine Zgz ?_
     refine Zm ?_
     exact qf (Out.mk (by (refine congrArg AV.bool ?_;(clear hB hst hno hr hx hxl;grind))) Yb)
    ·refine Zq ?_
     refine Z49 ?_
     exact Zhb
   ·refine Zq ?_
    refine Z61 ?_
    refine Z49 ?_
    exact Zhb
  refine Z1 ?_
  refine qa rfl (fun hc=>?_) (fun hc=>?_)
  ·refine Zf ?_
   rw [show q2o g h=false by
    have:h.any (fun n=>decide (n<0)||decide (2<n))=true:=List.any_eq_true.2 ⟨x,hxl,hc⟩
    rw [q2o,this];simp]
   exact Zb
  ·refine Z2l ?_
   exact ⟨k+1,by omega,⟨by omega,by rw [hst];exact hc⟩,Y6,.refl _ _⟩
 ·have:k=h.length:=by simp at hc;omega
  subst this
  rw [List.take_length] at hno
  rw [show q2o g h=(q1o g&&decide (h.length=g.length)) by rw [q2o,hno];simp]
  refine Z1 ?_
  refine qn 4 (.bool (q1o g&&decide (h.length=g.length))) ?_ ?_
  ·refine Z4n ?_
   refine Zhc ?_
   refine Zh ?_
   refine qb rfl rfl (fun hg2=>?_) (fun hg2=>?_)
   ·refine Zcw ?_
    refine Zeu ?_
    refine Zn ?_
    exact qf (Out.mk (by (refine congrArg AV.bool ?_;(clear hB hno hk hc;grind))) Yb)
   ·refine Z5o ?_
    exact qf (Out.mk (by (refine congrArg AV.bool ?_;(clear hB hno hk hc;(simp_all;done)))) Yb)
  exact Z22
structure BN where
 b:Int
 n:Int
set_option maxHeartbeats 0 in
theorem qjy (g:List Thing) (h:List Int) (n:Nat) (H:qj) (hh:q2o g h=true) (hn:n<g.length):AC Tryz.prog 99 [.pl (g.map qq),.pl (h.map eI),.int .i64 (n:Int)] H (Ret (.int .i64 (wW g h n)) H):=by
 have hg:=(q2z hh).1
 have hlen:=(q2z hh).2.1
 have hg256:=(q1w hg).2
 have hw0:=qz7 hh n hn
 refine AC.body (N:=26) [.tmp 6] Tryz.func99 rfl rfl rfl (Nat.le_of_ble_eq_true rfl) fun B hB=>?_
 refine Zhd ?_
 refine qm (G:=BN) (fun s=>0≤s.b∧-1≤s.n∧s.n<(g.length:Int)∧max s.b (wUp g h s.n)=wW g h n) (fun s=>[(0,.pl (g.map qq)),(1,.pl (h.map eI)),(2,.int .i64 s.n),(7,.int .i64 s.b)]) (fun _=>H++[]) (fun s=>(s.n+1).toNat) ⟨0,(n:Int)⟩ ⟨Int.le_refl _,by simp only;omega,by simp only;omega,by simp only [wUp];rw [if_pos (by omega),Int.toNat_natCast];omega⟩ Y6 (Fit.refl _ _) ?_
 rintro ⟨b,m⟩ ⟨i1,i2,i3,i4⟩
 simp only at i1 i2 i3 i4 ⊢
 refine Z12 ?_
 refine Z1s ?_
 refine Z9 ?_
 refine qa rfl (fun hc=>?_) (fun hc=>?_)
 ·have hm:0≤m:=by simpa using hc
  obtain ⟨k,rfl⟩:∃ k:Nat,m=(k:Int):=⟨m.toNat,by omega⟩
  obtain ⟨t,ht,htl⟩:=qo (l:=g) (k:=k) (by omega)
  obtain ⟨x,hx,hxl⟩:=qo (l:=h) (k:=k) (by omega)
  have hr:=qh qq ht
  have hr2:=qh eI hx
  have hup:=q34 hg ht
  have hst:=qup hh ht i1
  rw [show h.getD k 0=x by rw [List.getD_eq_getElem?_getD,hx];rfl] at hst
  clear hc
  refine Zbe ?_
  refine Zhe ?_
  refine Zhf ?_
  refine Z8 ?_
  refine Z2q ?_
  refine qa rfl (fun hc=>?_) (fun hc=>?_)
  ·have hlt:b<x:=by simpa using hc
   refine q1k ?_
   refine Zc7 ?_
   refine Zhe ?_
   refine Zhf ?_
   refine Z4 ?_
   refine Zhi ?_
   refine Z4h ?_
   exact ⟨⟨x,t.up⟩,by simp only;omega,⟨by simp only;omega,by simp only;omega,by simp only;omega,by simp only;rw [← i4,← hst];congr 1;omega⟩,Y6,.refl _ _⟩
  ·have hlt:¬ b<x:=by simpa using hc
   refine Zhi ?_
   refine Z4h ?_
   exact ⟨⟨b,t.up⟩,by simp only;omega,⟨i1,by simp only;omega,by simp only;omega,by simp only;rw [← i4,← hst];congr 1;omega⟩,Y6,.refl _ _⟩
 ·have hm:m<0:=by simpa using hc
  have hb:b=wW g h n:=by rw [wUp,if_neg (by omega)] at i4;omega
  subst hb
  refine Z12 ?_
  exact Zc
theorem qmd {a b:List Int} {x y:Int} {k:Nat} (hb:b.Pairwise (· < ·)) (hx:x∈a) (hy:b[k]?=some y) (hlt:x<y) (hno:∀ z∈b.take k,z∉a):x∉b:=by
 intro hxb
 obtain ⟨j,hj⟩:=List.mem_iff_getElem?.1 hxb
 obtain ⟨h1,h2⟩:=List.getElem?_eq_some_iff.1 hj
 obtain ⟨h3,h4⟩:=List.getElem?_eq_some_iff.1 hy
 rcases Nat.lt_trichotomy j k with h | h | h
 ·exact hno x (List.mem_iff_getElem?.2 ⟨j,by rw [List.getElem?_take,if_pos h];exact hj⟩) hx
 ·subst h;rw [hj] at hy;cases hy;omega
 ·have:=List.pairwise_iff_getElem.1 hb k j h3 h1 h
  omega
theorem qmn {a b:List Int} (h:∀ x∈a,x∉b):qju a b=false:=by
 rw [← Bool.not_eq_true,touch_iff]
 rintro ⟨x,h1,h2⟩
 exact h x h1 h2
set_option maxHeartbeats 0 in
theorem qlc (a b : List Int) (H : qj) (ha : a.length ≤ 1000000) (hb : b.length ≤ 1000000) (sa : a.Pairwise (· < ·)) (sb : b.Pairwise (· < ·)) : AC Tryz.prog 181 [.pl (a.map eI), .pl (b.map eI)] H (Ret (.bool (qju a b)) H) := by
  refine AC.body (N := 39) [.tmp 4] Tryz.func181 rfl rfl rfl (Nat.le_of_ble_eq_true rfl) fun B hB => ?_
  refine Z1r ?_
  refine Z2 ?_
  refine Z16 ?_
  refine Z1d ?_
  refine qm (G := LH) (fun s => s.lo ≤ a.length ∧ s.hi ≤ b.length ∧ (∀ x ∈ a.take s.lo, x ∉ b) ∧ (∀ y ∈ b.take s.hi, y ∉ a)) (fun s => [(0, .pl (a.map eI)), (1, .pl (b.map eI)), (5, .int .i64 (s.lo : Int)), (6, .int .i64 (s.hi : Int))]) (fun _ => H ++ []) (fun s => (a.length - s.lo) + (b.length - s.hi)) ⟨0, 0⟩ ⟨Nat.zero_le _, Nat.zero_le _, by simp, by simp⟩ Y6 (Fit.refl _ _) ?_
  rintro ⟨i, k⟩ ⟨hi, hk, h1, h2⟩
  simp only at hi hk h1 h2 ⊢
  refine Z1 ?_
  refine qn 16 (.bool (decide (i < a.length) && decide (k < b.length))) ?_ ?_
  · refine Z8 ?_
    refine Zcu ?_
    refine qb rfl rfl (fun hg4 => ?_) (fun hg4 => ?_)
    · refine Zj ?_
      refine Zcw ?_
      refine Zk ?_
      refine Zm ?_
      exact qf (Out.mk (by (refine congrArg AV.bool ?_; (clear hB h1 h2 sa sb; (simp_all; done)))) Yb)
    · refine Z2i ?_
      exact qf (Out.mk (by (refine congrArg AV.bool ?_; (clear hB h1 h2 sa sb; (simp_all; omega)))) Yb)
  refine Z1 ?_
  refine qa rfl (fun hc => ?_) (fun hc => ?_)
  · rw [Bool.and_eq_true, decide_eq_true_eq, decide_eq_true_eq] at hc
    obtain ⟨hli, hlk⟩ := hc
    obtain ⟨x, hx, hxl⟩ := qo hli
    obtain ⟨y, hy, hyl⟩ := qo hlk
    have hr := qh eI hx
    have hr2 := qh eI hy
    refine Z1h ?_
    refine Z92 ?_
    refine Z93 ?_
    refine Z95 ?_
    refine Zhj ?_
    refine Zhk ?_
    refine aq0 8 rfl Y17 (by decide) (fun _ => qya rfl rfl) ?_
    refine Z1m ?_
    refine qa rfl (fun hc => ?_) (fun hc => ?_)
    · have hxy : x = y := by simpa using hc
      subst hxy
      refine Zf ?_
      rw [show qju a b = true from touch_iff.2 ⟨x, hxl, hyl⟩]
      exact Zb
    have hne : x ≠ y := by simpa using hc
    clear hc
    refine Z1h ?_
    refine Z92 ?_
    refine Z93 ?_
    refine Z95 ?_
    refine Zhj ?_
    refine Zhk ?_
    refine aq0 8 rfl Y17 (by decide) (fun _ => qsr rfl rfl) ?_
    refine Z1m ?_
    refine qa rfl (fun hc => ?_) (fun hc => ?_)
    · have hlt : x < y := by simpa using hc
      have hnb := qmd sb hxl hy hlt h2
      refine Z8n ?_
      refine Z2k ?_
      refine ⟨⟨i + 1, k⟩, by simp only; omega, ⟨by simp only; omega, hk, fun z hz => ?_, h2⟩, Y6, .refl _ _⟩
      simp only [ql hx] at hz
      rcases List.mem_append.1 hz with h | h
      · exact h1 z h
      · simp only [List.mem_singleton] at h; subst h; exact hnb
    · have hlt : y < x := by have : ¬ x < y := by simpa using hc
                             omega
      have hna := qmd sa hyl hx hlt h1
      refine Z8n ?_
      refine Z2k ?_
      refine ⟨⟨i, k + 1⟩, by simp only; omega, ⟨hi, by simp only; omega, h1, fun z hz => ?_⟩, Y6, .refl _ _⟩
      simp only [ql hy] at hz
      rcases List.mem_append.1 hz with h | h
      · exact h2 z h
      · simp only [List.mem_singleton] at h; subst h; exact hna
  · have hno : qju a b = false := by
      rw [Bool.and_eq_false_iff, decide_eq_false_iff_not, decide_eq_false_iff_not] at hc
      rcases hc with h | h
      · obtain rfl : i = a.length := by omega
        rw [List.take_length] at h1
        exact qmn h1
      · obtain rfl : k = b.length := by omega
        rw [List.take_length] at h2
        exact qmn fun x hx hxb => h2 x hxb hx
    rw [hno]
    exact Z5m
theorem qco (a:List Int) (n:Nat) (H:qj) (ha:a.length≤1000000):AC Tryz.prog 46 [.pl (a.map eI),.int .i64 (n:Int)] H (Ret (.bool (sok a&&inl a n)) H):=by
 refine AC.body (N:=12) [.tmp 4] Tryz.func46 rfl rfl rfl (Nat.le_of_ble_eq_true rfl) fun B hB=>?_
 refine Zf ?_
 refine qn 4 (.bool (sok a&&inl a n)) ?_ ?_
 ·refine Z4n ?_
  refine Zhl ?_
  refine Zh ?_
  refine qb rfl rfl (fun hg2=>?_) (fun hg2=>?_)
  ·refine Zc3 ?_
   refine Zj ?_
   refine q5b rfl rfl (by decide) (V2.call (qmm _ _ (by omega) _) rfl) ?_
   exact Zhm
  ·refine Z21 ?_
   exact Zgu
 exact Z22
set_option maxHeartbeats 0 in
theorem qd2 (a b c d:Int) (H:qj):AC Tryz.prog 120 [.int .i64 a,.int .i64 b,.int .i64 c,.int .i64 d] H (Ret (.bool (q79 a b c d)) H):=by
 refine AC.body (N:=33) [.tmp 8] Tryz.func120 rfl rfl rfl (Nat.le_of_ble_eq_true rfl) fun B hB=>?_
 refine Z1r ?_
 refine Z1c ?_
 refine Z2z ?_
 refine qa rfl (fun hc=>?_) (fun hc=>?_)
 ·have h1:a<c:=by simpa using hc
  rw [show q79 a b c d=(decide (c≥a)&&decide (c<b)&&decide (c≥c)&&decide (c<d)) by rw [q79,Bool.eq_iff_iff];simp only [Bool.and_eq_true,decide_eq_true_eq];omega]
  clear hc
  refine Z8n ?_
  refine Za ?_
  refine qn 8 (.bool (decide (c≥a)&&decide (c<b)&&decide (c≥c)&&decide (c<d))) ?_ ?_
  ·refine Z30 ?_
   refine Z24 ?_
   refine qb rfl rfl (fun hg3=>?_) (fun hg3=>?_)
   ·refine Zj ?_
    refine Zl ?_
    refine Z3b ?_
    refine qb rfl rfl (fun hg8=>?_) (fun hg8=>?_)
    ·refine Zj ?_
     refine Z9k ?_
     refine Z3b ?_
     refine qb rfl rfl (fun hg13=>?_) (fun hg13=>?_)
     ·refine Zj ?_
      refine Zl ?_
      exact Zhm
     ·refine Z21 ?_
      exact Zgu
    ·refine Z3g ?_
     exact Zgw
   ·refine Z3v ?_
    exact Zgw
  exact Z22
 ·have h1:¬ a<c:=by simpa using hc
  rw [show q79 a b c d=(decide (a≥a)&&decide (a<b)&&decide (a≥c)&&decide (a<d)) by rw [q79,Bool.eq_iff_iff];simp only [Bool.and_eq_true,decide_eq_true_eq];omega]
  clear hc
  refine Z1 ?_
  refine qn 8 (.bool (decide (a≥a)&&decide (a<b)&&decide (a≥c)&&decide (a<d))) ?_ ?_
  ·refine Z30 ?_
   refine Z24 ?_
   refine qb rfl rfl (fun hg3=>?_) (fun hg3=>?_)
   ·refine Zj ?_
    refine Zl ?_
    refine Z3b ?_
    refine qb rfl rfl (fun hg8=>?_) (fun hg8=>?_)
    ·refine Zj ?_
     refine Z9k ?_
     refine Z3b ?_
     refine qb rfl rfl (fun hg13=>?_) (fun hg13=>?_)
     ·refine Zj ?_
      refine Zl ?_
      exact Zhm
     ·refine Z21 ?_
      exact Zgu
    ·refine Z3g ?_
     exact Zgw
   ·refine Z3v ?_
    exact Zgu
  exact Z22
theorem qda (x:Held) (id:Int) (H:qj):AC Tryz.prog 192 [.agg (qg x),.int .i64 id] H (Ret (.int .i64 (qf5 x.id id)) H):=by
 refine AC.body (N:=9) [.tmp 4] Tryz.func192 rfl rfl rfl (Nat.le_of_ble_eq_true rfl) fun B hB=>?_
 refine Zf8 ?_
 refine Z4 ?_
 refine Z33 ?_
 refine Z8b ?_
 refine Zhn ?_
 refine Z4g ?_
 exact Z22
set_option maxHeartbeats 0 in
theorem qky (l:List Held) (id:Int) (H:qj) (hl:l.length≤1000000) (hs:l.Pairwise (fun a b=>a.id<b.id)) :
  AC Tryz.prog 191 [.pl (l.map qg),.int .i64 id,.fn (.func 192) [] []] H (Ret (.tup [.int .i64 (qw l id:Int),.bool (q23 l id)]) H):=by
 have hle:=qq7 (f:=Held.id) l id
 refine AC.body (N:=49) [.tmp 6,.tmp 7] Tryz.func191 rfl rfl rfl (Nat.le_of_ble_eq_true rfl) fun B hB=>?_
 refine Z2 ?_
 refine Z8h ?_
 refine Z8u ?_
 refine Z4 ?_
 refine Z12 ?_
 refine Z16 ?_
 refine Z1d ?_
 refine qm (G:=LH) (fun g=>g.lo≤q7a Held.id l id∧q7a Held.id l id≤g.hi∧g.hi≤l.length) (fun g=>[(0,.pl (l.map qg)),(1,.int .i64 id),(2,.fn (.func 192) [] []),(8,.int .i64 ((l.map qg).length:Int)),(9,.int .i64 (g.lo:Int)),(10,.int .i64 (g.hi:Int))]) (fun _=>H++[]) (fun g=>g.hi-g.lo) ⟨0,(l.map qg).length⟩ ⟨Nat.zero_le _,by simp only [List.length_map];exact hle,by simp⟩ Y6 (Fit.refl _ _) ?_
 rintro ⟨lo,hi⟩ ⟨i1,i2,i3⟩
 simp only at i1 i2 i3 ⊢
 refine Z2y ?_
 refine qa rfl (fun hc=>?_) (fun hc=>?_)
 ·have hlt:lo<hi:=by simpa using hc
  obtain ⟨x,hx,hxl⟩:=qo (l:=l) (k:=(lo+hi) / 2) (by omega)
  have hr:=qh qg hx
  refine Z2t ?_
  refine Zho ?_
  refine Zhp ?_
  refine Zhq ?_
  refine Zhr ?_
  refine Z4 ?_
  refine Z1v ?_
  refine Zfh ?_
  refine Z8 ?_
  refine qgb (qda x id _) rfl rfl (by decide) ?_
  refine Z1f ?_
  refine qa rfl (fun hc=>?_) (fun hc=>?_)
  ·have hk:x.id<id:=by simp only [decide_eq_true_eq] at hc;unfold qf5 at hc;split at hc<;>first | assumption | (split at hc<;>omega)
   have hp:(lo+hi) / 2+1≤q7a Held.id l id:=by
    rcases Nat.lt_or_ge ((lo+hi) / 2) (q7a Held.id l id) with h | h
    ·omega
    ·have:=qah hs h hx;omega
   refine Z8n ?_
   refine Zhs ?_
   refine Za ?_
   exact ⟨⟨(lo+hi) / 2+1,hi⟩,by simp only;omega,⟨hp,i2,i3⟩,Y6,.refl _ _⟩
  ·have hk:id≤x.id:=by simp only [decide_eq_false_iff_not] at hc;unfold qf5 at hc;split at hc<;>first | (exfalso;exact hc (by decide)) | omega
   have hp:q7a Held.id l id≤(lo+hi) / 2:=by
    rcases Nat.lt_or_ge ((lo+hi) / 2) (q7a Held.id l id) with h | h
    ·have:=qdh (f:=Held.id) h hx;omega
    ·exact h
   refine Z8n ?_
   refine Za ?_
   exact ⟨⟨lo,(lo+hi) / 2⟩,by simp only;omega,⟨i1,hp,by simp only;omega⟩,Y6,.refl _ _⟩
 ·have hlt:¬ lo<hi:=by simpa using hc
  obtain rfl:lo=q7a Held.id l id:=by omega
  have hml:(l.map qg).length=l.length:=by simp
  clear hc
  refine Z1 ?_
  refine q4m ([(6,.int .i64 (qw l id:Int)),(7,.bool (q23 l id))]) (H++[]) ?_ ?_
  ·by_cases hn:q7a Held.id l id<l.length
   ·obtain ⟨x,hx,hxl⟩:=qo hn
    have hr:=qh qg hx
    have hh:q23 l id=(qf5 x.id id == 0):=by
     rw [q23,show qw l id=q7a Held.id l id from rfl,decide_eq_true hn,Bool.true_and,qab hx,Bool.eq_iff_iff]
     unfold qf5
     simp only [decide_eq_true_eq,beq_iff_eq]
     split
     ·omega
     ·split<;>omega
    refine q1k ?_
    refine Z30 ?_
    refine Zw ?_
    refine qb rfl rfl (fun hg4=>?_) (fun hg4=>?_)
    ·refine Zht ?_
     refine Zc3 ?_
     refine Zh9 ?_
     refine Zcx ?_
     refine Zj ?_
     refine q5b rfl rfl (by decide) (V2.callv (qda x id _) rfl rfl) ?_
     refine Z46 ?_
     refine Zm ?_
     refine Z8h ?_
     (exact q2d Y2 (.inl rfl))
    ·refine Z2c ?_
     refine Z2i ?_
     refine Z8h ?_
     ((exfalso;simp at hg4;omega))
   ·have hh:q23 l id=false:=by rw [q23,show qw l id=q7a Held.id l id from rfl,decide_eq_false hn,Bool.false_and]
    refine q1k ?_
    refine Z30 ?_
    refine Zw ?_
    refine qb rfl rfl (fun hg4=>?_) (fun hg4=>?_)
    ·exfalso;simp at hg4;omega
    ·refine Z2c ?_
     refine Z2i ?_
     refine Z8h ?_
     (exact q2d Y2 (.inl rfl))
  exact Zhu
theorem qss (l:List Held) (id:Int) (H:qj) (hl:l.length≤1000000) (hs:l.Pairwise (fun a b=>a.id<b.id)):AC Tryz.prog 167 [.pl (l.map qg),.int .i64 id] H (Ret (.tup [.int .i64 (qw l id:Int),.bool (q23 l id)]) H):=by
 refine AC.body (N:=11) [.tmp 4,.tmp 5] Tryz.func167 rfl rfl rfl (Nat.le_of_ble_eq_true rfl) fun B hB=>?_
 refine Z2 ?_
 refine Z8h ?_
 refine Zbe ?_
 refine q13 (qky _ _ _ (by omega) Y1d) rfl (by decide) ?_
 refine Z15 ?_
 refine Z8f ?_
 refine Z3 ?_
 refine Ze ?_
 exact Z7r
theorem qce (h:Held) (H:qj) (hw:h.things.length≤1000000):AC Tryz.prog 168 [.agg (qg h)] H (Ret (.agg (qg h)) H):=by
 refine AC.body (N:=8) [.cell 2 60] Tryz.func168 rfl rfl rfl (Nat.le_of_ble_eq_true rfl) fun B hB=>?_
 refine Zf8 ?_
 refine Z9d ?_
 refine qf ?_
 refine Zhv ?_
 refine Z53 ?_
 refine Z7v ?_
 refine Z36 ?_
 refine Zhw ?_
 refine Z7y ?_
 refine Z4c ?_
 refine Zfi ?_
 refine qf ?_
 refine Z89 ?_
 exact Zhx
theorem quj (l:List Held) (id:Int) (H:qj) (hw:HW l):AC Tryz.prog 129 [.pl (l.map qg),.int .i64 id] H (Ret (.tup [.agg (qg (q2g l id).1),.bool (q2g l id).2]) H):=by
 have hw1:=hw.1
 refine AC.body (N:=26) [.cell 4 60,.tmp 5] Tryz.func129 rfl rfl rfl (Nat.le_of_ble_eq_true rfl) fun B hB=>?_
 refine Z2 ?_
 refine Z9d ?_
 refine Z1q ?_
 refine Z9e ?_
 refine Z4o ?_
 refine Zhz ?_
 refine qa rfl (fun hc=>?_) (fun hc=>?_)
 ·have hno:q1s l=false:=by simpa only [Bool.not_eq_true'] using hc
  rw [show q2g l id=(qdy,false) by rw [q2g,hno];rfl]
  refine Z2 ?_
  refine Zi0 ?_
  refine Zfi ?_
  refine Z1q ?_
  exact Zi3
 have hyes:q1s l=true:=by simpa only [Bool.not_eq_false'] using hc
 have hs:=q4a hyes
 refine Zbe ?_
 refine Zi4 ?_
 refine Zi5 ?_
 refine qa rfl (fun hc=>?_) (fun hc=>?_)
 ·have hno:q23 l id=false:=by simpa only [Bool.not_eq_true'] using hc
  rw [show q2g l id=(qdy,false) by rw [q2g,hyes,hno];rfl]
  refine Z2 ?_
  refine Zi0 ?_
  refine Zfi ?_
  refine Z1q ?_
  exact Zi3
 have hhit:q23 l id=true:=by simpa only [Bool.not_eq_false'] using hc
 have hn:qw l id<l.length:=by simp only [q23,Bool.and_eq_true,decide_eq_true_eq] at hhit;exact hhit.1
 obtain ⟨x,hx,hxl⟩:=qo hn
 have hr:=qh qg hx
 have hxw:=hw.2 x hxl
 rw [show q2g l id=(x,true) by rw [q2g,hyes,hhit,q5j hx];rfl]
 refine Zbe ?_
 refine Zcy ?_
 refine Zi6 ?_
 refine Zfi ?_
 refine Z1q ?_
 refine Z9n ?_
 exact Zi2
set_option maxHeartbeats 0 in
theorem qt3 (l:List Held) (frm to:Int) (H:qj) (hw:HW l):ACT Tryz.prog KD 29 [.pl (l.map qg),.int .i64 frm,.int .i64 to] H (Ret (.pl ((q3c l frm to).map q3u)) H):=by
 have hw1:=hw.1
 refine ACT.body (N:=32) [.tmp 6] Tryz.func29 rfl rfl rfl (Nat.le_of_ble_eq_true rfl) fun B hB=>?_
 refine Z4m ?_
 refine Z4p ?_
 refine Zhz ?_
 refine qa rfl (fun hc=>?_) (fun hc=>?_)
 ·have hno:q1s l=false:=by simpa only [Bool.not_eq_true'] using hc
  rw [show q3c l frm to=[] by rw [q3c,hno];rfl]
  refine Zbd ?_
  exact q33 (q4d hB (q3t rfl .nil) rfl rfl)
 have hyes:q1s l=true:=by simpa only [Bool.not_eq_false'] using hc
 rw [show q3c l frm to=q5f l frm to by rw [q3c,hyes];rfl]
 refine Z9h ?_
 refine q1c 7 rfl ?_
 refine qm (G:=Nat) (fun k=>k≤l.length) (fun k=>[(KT,KD.av),(1,.int .i64 frm),(2,.int .i64 to),(7,.pl ((q5f (l.take k) frm to).map q3u)),(13,.pl (l.map qg)),(14,.int .i64 (l.length:Int)),(15,.int .i64 (k:Int))]) (fun _=>H++[]) (fun k=>l.length-k) 0 (Nat.zero_le _) Y6 (Fit.refl _ _) ?_
 intro k hk
 refine Z5a ?_
 refine qa rfl (fun hc=>?_) (fun hc=>?_)
 ·have hlt:k<l.length:=by simp at hc;omega
  obtain ⟨x,hx,hxl⟩:=qo hlt
  have hr:=qh qg hx
  have hxw:=hw.2 x hxl
  have hstep:=qa0 hx frm to
  have hbl:=q9n (l.take k) frm to
  refine Zi9 ?_
  refine Zd3 ?_
  refine Z4i ?_
  refine Z37 ?_
  refine Z30 ?_
  refine Zfd ?_
  refine Z56 ?_
  refine qa rfl (fun hc=>?_) (fun hc=>?_)
  ·rw [if_pos hc] at hstep
   refine Zf4 ?_
   refine Z52 ?_
   refine Zia ?_
   refine Z4w ?_
   refine Zib ?_
   refine Z5l ?_
   refine ⟨k+1,by omega,by omega,by rw [hstep];exact Y6,Fit.loc hB (L:=[]) rfl Y1 (fun o ho=>by simp at ho)⟩
  ·rw [if_neg (by simp [hc])] at hstep
   refine Z5l ?_
   refine ⟨k+1,by omega,by omega,by rw [hstep];exact Y6,Fit.loc hB (L:=[]) rfl Y1 (fun o ho=>by simp at ho)⟩
 ·have:k=l.length:=by simp at hc;omega
  subst this
  rw [List.take_length]
  refine Zic ?_
  refine Z9 ?_
  exact Zb
theorem qb1 (x:Job) (id:Int) (H:qj):AC Tryz.prog 135 [.agg (q1d x),.int .i64 id] H (Ret (.int .i64 (qf5 x.id id)) H):=by
 refine AC.body (N:=9) [.tmp 4] Tryz.func135 rfl rfl rfl (Nat.le_of_ble_eq_true rfl) fun B hB=>?_
 refine Z50 ?_
 refine Z4 ?_
 refine Z33 ?_
 refine Z8b ?_
 refine Zhn ?_
 refine Z4g ?_
 exact Z22
set_option maxHeartbeats 0 in
theorem qhq (l:List Job) (id:Int) (H:qj) (hl:l.length≤1000000) (hs:l.Pairwise (fun a b=>a.id<b.id)) :
  AC Tryz.prog 134 [.pl (l.map q1d),.int .i64 id,.fn (.func 135) [] []] H (Ret (.tup [.int .i64 (q11 l id:Int),.bool (q29 l id)]) H):=by
 have hle:=qq7 (f:=Job.id) l id
 refine AC.body (N:=49) [.tmp 6,.tmp 7] Tryz.func134 rfl rfl rfl (Nat.le_of_ble_eq_true rfl) fun B hB=>?_
 refine Z2 ?_
 refine Z8h ?_
 refine Z8u ?_
 refine Z4 ?_
 refine Z12 ?_
 refine Z16 ?_
 refine Z1d ?_
 refine qm (G:=LH) (fun g=>g.lo≤q7a Job.id l id∧q7a Job.id l id≤g.hi∧g.hi≤l.length) (fun g=>[(0,.pl (l.map q1d)),(1,.int .i64 id),(2,.fn (.func 135) [] []),(8,.int .i64 ((l.map q1d).length:Int)),(9,.int .i64 (g.lo:Int)),(10,.int .i64 (g.hi:Int))]) (fun _=>H++[]) (fun g=>g.hi-g.lo) ⟨0,(l.map q1d).length⟩ ⟨Nat.zero_le _,by simp only [List.length_map];exact hle,by simp⟩ Y6 (Fit.refl _ _) ?_
 rintro ⟨lo,hi⟩ ⟨i1,i2,i3⟩
 simp only at i1 i2 i3 ⊢
 refine Z2y ?_
 refine qa rfl (fun hc=>?_) (fun hc=>?_)
 ·have hlt:lo<hi:=by simpa using hc
  obtain ⟨x,hx,hxl⟩:=qo (l:=l) (k:=(lo+hi) / 2) (by omega)
  have hr:=qh q1d hx
  refine Z2t ?_
  refine Zho ?_
  refine Zhp ?_
  refine Zhq ?_
  refine Zhr ?_
  refine Z4 ?_
  refine Z1v ?_
  refine Zfh ?_
  refine Z8 ?_
  refine qgb (qb1 x id _) rfl rfl (by decide) ?_
  refine Z1f ?_
  refine qa rfl (fun hc=>?_) (fun hc=>?_)
  ·have hk:x.id<id:=by simp only [decide_eq_true_eq] at hc;unfold qf5 at hc;split at hc<;>first | assumption | (split at hc<;>omega)
   have hp:(lo+hi) / 2+1≤q7a Job.id l id:=by
    rcases Nat.lt_or_ge ((lo+hi) / 2) (q7a Job.id l id) with h | h
    ·omega
    ·have:=qah hs h hx;omega
   refine Z8n ?_
   refine Zhs ?_
   refine Za ?_
   exact ⟨⟨(lo+hi) / 2+1,hi⟩,by simp only;omega,⟨hp,i2,i3⟩,Y6,.refl _ _⟩
  ·have hk:id≤x.id:=by simp only [decide_eq_false_iff_not] at hc;unfold qf5 at hc;split at hc<;>first | (exfalso;exact hc (by decide)) | omega
   have hp:q7a Job.id l id≤(lo+hi) / 2:=by
    rcases Nat.lt_or_ge ((lo+hi) / 2) (q7a Job.id l id) with h | h
    ·have:=qdh (f:=Job.id) h hx;omega
    ·exact h
   refine Z8n ?_
   refine Za ?_
   exact ⟨⟨lo,(lo+hi) / 2⟩,by simp only;omega,⟨i1,hp,by simp only;omega⟩,Y6,.refl _ _⟩
 ·have hlt:¬ lo<hi:=by simpa using hc
  obtain rfl:lo=q7a Job.id l id:=by omega
  have hml:(l.map q1d).length=l.length:=by simp
  clear hc
  refine Z1 ?_
  refine q4m ([(6,.int .i64 (q11 l id:Int)),(7,.bool (q29 l id))]) (H++[]) ?_ ?_
  ·by_cases hn:q7a Job.id l id<l.length
   ·obtain ⟨x,hx,hxl⟩:=qo hn
    have hr:=qh q1d hx
    have hh:q29 l id=(qf5 x.id id == 0):=by
     rw [q29,show q11 l id=q7a Job.id l id from rfl,decide_eq_true hn,Bool.true_and,qdn hx,Bool.eq_iff_iff]
     unfold qf5
     simp only [decide_eq_true_eq,beq_iff_eq]
     split
     ·omega
     ·split<;>omega
    refine q1k ?_
    refine Z30 ?_
    refine Zw ?_
    refine qb rfl rfl (fun hg4=>?_) (fun hg4=>?_)
    ·refine Zht ?_
     refine Zc3 ?_
     refine Zh9 ?_
     refine Zcx ?_
     refine Zj ?_
     refine q5b rfl rfl (by decide) (V2.callv (qb1 x id _) rfl rfl) ?_
     refine Z46 ?_
     refine Zm ?_
     refine Z8h ?_
     (exact q2d Y2 (.inl rfl))
    ·refine Z2c ?_
     refine Z2i ?_
     refine Z8h ?_
     ((exfalso;simp at hg4;omega))
   ·have hh:q29 l id=false:=by rw [q29,show q11 l id=q7a Job.id l id from rfl,decide_eq_false hn,Bool.false_and]
    refine q1k ?_
    refine Z30 ?_
    refine Zw ?_
    refine qb rfl rfl (fun hg4=>?_) (fun hg4=>?_)
    ·exfalso;simp at hg4;omega
    ·refine Z2c ?_
     refine Z2i ?_
     refine Z8h ?_
     (exact q2d Y2 (.inl rfl))
  exact Zhu
theorem qp9 (l:List Job) (id:Int) (H:qj) (hl:l.length≤1000000) (hs:l.Pairwise (fun a b=>a.id<b.id)):AC Tryz.prog 82 [.pl (l.map q1d),.int .i64 id] H (Ret (.tup [.int .i64 (q11 l id:Int),.bool (q29 l id)]) H):=by
 refine AC.body (N:=11) [.tmp 4,.tmp 5] Tryz.func82 rfl rfl rfl (Nat.le_of_ble_eq_true rfl) fun B hB=>?_
 refine Z2 ?_
 refine Z8h ?_
 refine Zbe ?_
 refine q13 (qhq _ _ _ (by omega) Y1d) rfl (by decide) ?_
 refine Z15 ?_
 refine Z8f ?_
 refine Z3 ?_
 refine Ze ?_
 exact Z7r
theorem q6v (l:List Job):∀ r∈l.map q1d,r.length=13:=q85 (e:=q1d) (n:=13) (fun _=>rfl) l
theorem q2t (n:Nat) (l:List Job):∀ r∈l.map q1d,AV.bels n r=true:=q83 (e:=q1d) (fun _=>rfl) l
set_option maxHeartbeats 0 in
theorem qd7 (l:List Job) (H:qj) (hl:l.length≤1000000):AC Tryz.prog 75 [.pl (l.map q1d)] H (Ret (.bool (q24 l)) H):=by
 refine AC.body (N:=67) [.tmp 2] Tryz.func75 rfl rfl rfl (Nat.le_of_ble_eq_true rfl) fun B hB=>?_
 refine Z8v ?_
 refine Z2q ?_
 refine qa rfl (fun hc=>?_) (fun hc=>?_)
 ·have h64:¬ l.length≤64:=by simp at hc;omega
  refine Zf ?_
  rw [show q24 l=false by rw [q24,decide_eq_false h64,Bool.false_and]]
  exact Zb
 have h64:l.length≤64:=by simp at hc;omega
 rw [show q24 l=qh4 (qkn l) l.length by rw [q24,decide_eq_true h64,Bool.true_and]]
 refine Z9h ?_
 refine qm (G:=Nat) (fun i=>i≤l.length∧∀ k,k<i→qkn l k=true) (fun i=>[(0,.pl (l.map q1d)),(12,.pl (l.map q1d)),(13,.int .i64 (l.length:Int)),(14,.int .i64 (i:Int))]) (fun _=>H++[]) (fun i=>l.length-i) 0 ⟨Nat.zero_le _,fun k hk=>by omega⟩ Y6 (Fit.refl _ _) ?_
 rintro i ⟨hi,hno⟩
 refine Z5a ?_
 refine qa rfl (fun hc=>?_) (fun hc=>?_)
 ·have hlt:i<l.length:=by simp at hc;omega
  obtain ⟨j,hj,hjl⟩:=qo hlt
  have hr:=qh q1d hj
  have hB2:=qgl hj
  have hno0:=hno
  have hli:((l.map q1d).take i)=(l.take i).map q1d:=by rw [List.map_take]
  have hs:=q76 h64 hno
  have htl:(l.take i).length≤1000000:=by rw [List.length_take];omega
  clear hno hc
  refine Zcz ?_
  refine Z7t ?_
  refine Z3 ?_
  refine Z85 ?_
  refine Zd3 ?_
  clear hr
  refine Z1 ?_
  refine q4m ([(0,.pl (l.map q1d)),(3,.int .i64 (i:Int)),(4,.pt (Lid H.length 0) 0 0 0),(12,.pl (l.map q1d)),(13,.int .i64 (l.length:Int)),(14,.int .i64 (i:Int)),(47,.bool (!(q1q j&&!(decide (0<i)&&(decide (j.id≤q8k l (i-1))||decide (j.came<(q1r l (i-1)).came))))))]) (H++[⟨0,13,[q1d j]⟩]) ?_ ?_
  ·by_cases h0:0<i
   ·obtain ⟨h1,hh1,_⟩:=qo (l:=l) (k:=i-1) (by omega)
    have hr1:=qh q1d hh1
    rw [qdn hh1,q12 hh1,decide_eq_true h0,Bool.true_and]
    clear hB2 hno0 hj hjl hs hh1
    refine q1l 47 (.bool (!(q1q j&&!((decide (j.id≤h1.id)||decide (j.came<h1.came)))))) ?_ ?_
    ·refine Zd5 ?_
     refine Zfj ?_
     refine Zid ?_
     refine Zfl ?_
     refine Z9z ?_
     refine qp (g:=22) rfl (fun hg3=>?_) (fun hg3=>?_)
     ·refine Zie ?_
      refine Zif ?_
      refine Zig ?_
      refine Zih ?_
      refine Zii ?_
      refine Zij ?_
      refine Zik ?_
      refine Zil ?_
      refine Zim ?_
      refine Zin ?_
      refine Zio ?_
      refine Zip ?_
      refine Zbm ?_
      refine Zix ?_
      refine Ziy ?_
      refine Ziz ?_
      refine Zj0 ?_
      exact Zj1
     ·refine Zj2 ?_
      refine Zj3 ?_
      refine Zj4 ?_
      refine qp (g:=25) rfl (fun hg6=>?_) (fun hg6=>?_)
      ·refine q1j (g:=25) 7 rfl Y17 (by decide) rfl rfl (fun G=>qc rfl (lk rfl rfl) rfl (by decide)) ?_
       refine q1j (g:=25) 8 rfl Y17 (by decide) rfl rfl (fun G=>qi (v:=.int _ _) rfl (lk rfl rfl) rfl rfl rfl) ?_
       refine q1h (g:=25) 9 rfl Y17 (by decide) rfl rfl (fun _=>qd (v:=.pl _) rfl) ?_
       refine q1h (g:=25) 10 rfl Y17 (by decide) rfl rfl (fun _=>qd (v:=.int _ _) rfl) ?_
       refine q1h (g:=25) 11 rfl Y17 (by decide) rfl rfl (fun _=>q5p (r:=((i-1:Nat):Int)) rfl rfl Y4) ?_
       refine q1j (g:=25) 12 rfl Y17 (by decide) rfl rfl (fun G=>qe rfl rfl hr1 rfl) ?_
       refine q1j (g:=25) 13 rfl Y17 (by decide) rfl rfl (fun G=>qx rfl (by decide)) ?_
       refine q1j (g:=25) 14 rfl Y17 (by decide) rfl rfl (fun G=>qz (v:=.int _ _) rfl hr1 rfl) ?_
       refine q1h (g:=25) 15 rfl Y17 (by decide) rfl rfl (fun _=>qqc rfl rfl) ?_
       refine q1h (g:=25) 16 rfl Y17 (by decide) rfl rfl (fun _=>qd (v:=.bool _) rfl) ?_
       refine qp (g:=35) rfl (fun hg16=>?_) (fun hg16=>?_)
       ·refine Zj5 ?_
        refine Zj6 ?_
        refine Zj7 ?_
        refine Zj8 ?_
        refine Zj9 ?_
        refine Zja ?_
        refine Zjb ?_
        refine Zjc ?_
        refine Zjd ?_
        refine q1h (g:=25) 26 rfl Y17 (by decide) rfl rfl (fun _=>q16 (v:=.bool _) rfl rfl) ?_
        refine Zje ?_
        refine Zjf ?_
        exact Zj1
       ·refine q1j (g:=35) 17 rfl Y17 (by decide) rfl rfl (fun G=>qc rfl (lk rfl rfl) rfl (by decide)) ?_
        refine q1j (g:=35) 18 rfl Y17 (by decide) rfl rfl (fun G=>qi (v:=.int _ _) rfl (lk rfl rfl) rfl rfl rfl) ?_
        refine q1h (g:=35) 19 rfl Y17 (by decide) rfl rfl (fun _=>qd (v:=.pl _) rfl) ?_
        refine q1h (g:=35) 20 rfl Y17 (by decide) rfl rfl (fun _=>qd (v:=.int _ _) rfl) ?_
        refine q1h (g:=35) 21 rfl Y17 (by decide) rfl rfl (fun _=>q5p (r:=((i-1:Nat):Int)) rfl rfl Y4) ?_
        refine q1j (g:=35) 22 rfl Y17 (by decide) rfl rfl (fun G=>qe rfl rfl hr1 rfl) ?_
        refine q1j (g:=35) 23 rfl Y17 (by decide) rfl rfl (fun G=>qx rfl (by decide)) ?_
        refine q1j (g:=35) 24 rfl Y17 (by decide) rfl rfl (fun G=>qz (v:=.int _ _) rfl hr1 rfl) ?_
        refine q1h (g:=35) 25 rfl Y17 (by decide) rfl rfl (fun _=>qsr rfl rfl) ?_
        refine q1h (g:=25) 26 rfl Y17 (by decide) rfl rfl (fun _=>q17 (v:=.bool _) rfl rfl) ?_
        refine Zje ?_
        refine Zjf ?_
        exact q1i Y17 Yv (Out.mk (by (refine congrArg AV.bool ?_;(clear hB hr1 hli;(simp_all;omega)))) Yb)
      ·refine Zjg ?_
       refine Zjh ?_
       refine Zji ?_
       refine Zjj ?_
       refine Zjk ?_
       refine Zjl ?_
       refine Zjm ?_
       refine Zjn ?_
       refine Zjo ?_
       refine Zc1 ?_
       refine Zix ?_
       refine Zjp ?_
       refine Zjq ?_
       refine Zjf ?_
       exact Zj1
    exact q2d Y6 (.inl rfl)
   ·rw [decide_eq_false h0,Bool.false_and,Bool.not_false,Bool.and_true]
    clear hB2 hno0 hj hjl hs
    refine q1l 47 (.bool (!q1q j)) ?_ ?_
    ·refine Zd5 ?_
     refine Zfj ?_
     refine Zid ?_
     refine Zfl ?_
     refine Z9z ?_
     refine qp (g:=22) rfl (fun hg3=>?_) (fun hg3=>?_)
     ·refine Zie ?_
      refine Zif ?_
      refine Zig ?_
      refine Zih ?_
      refine Zii ?_
      refine Zij ?_
      refine Zik ?_
      refine Zil ?_
      refine Zim ?_
      refine Zin ?_
      refine Zio ?_
      refine Zip ?_
      refine Zbm ?_
      refine Zix ?_
      refine Ziy ?_
      refine Ziz ?_
      refine Zj0 ?_
      exact Zjr
     ·refine Zj2 ?_
      refine Zj3 ?_
      refine Zj4 ?_
      refine qp (g:=25) rfl (fun hg6=>?_) (fun hg6=>?_)
      ·exfalso;simp at hg6;omega
      ·refine Zjg ?_
       refine Zjh ?_
       refine Zji ?_
       refine Zjj ?_
       refine Zjk ?_
       refine Zjl ?_
       refine Zjm ?_
       refine Zjn ?_
       refine Zjo ?_
       refine Zc1 ?_
       refine Zix ?_
       refine Zjp ?_
       refine Zjq ?_
       refine Zjf ?_
       exact Zjr
    exact q2d Y6 (.inl rfl)
  refine Z1 ?_
  refine qa rfl (fun hc=>?_) (fun hc=>?_)
  ·have hbad:qkn l i=false:=by rw [hB2];rw [Bool.not_eq_true'] at hc;rw [hc,Bool.false_and]
   refine Zf ?_
   rw [q1z hlt hbad]
   exact Zb
  have hgd:(q1q j&&!(decide (0<i)&&(decide (j.id≤q8k l (i-1))||decide (j.came<(q1r l (i-1)).came))))=true:=by simpa only [Bool.not_eq_false'] using hc
  have hjr:q1q j=true:=by rw [Bool.and_eq_true] at hgd;exact hgd.1
  have hn16:=q5w hjr
  rw [hgd,Bool.true_and] at hB2
  clear hc hgd
  refine Z53 ?_
  refine Z59 ?_
  refine qm (G:=Nat) (fun k=>k≤j.needs.length∧∀ n∈j.needs.take k,q29 (l.take i) n=true) (fun k=>[(0,.pl (l.map q1d)),(3,.int .i64 (i:Int)),(12,.pl (l.map q1d)),(13,.int .i64 (l.length:Int)),(14,.int .i64 (i:Int)),(49,.pl (j.needs.map eI)),(50,.int .i64 (j.needs.length:Int)),(51,.int .i64 (k:Int))]) (fun _=>H++[⟨0,13,[q1d j]⟩]) (fun k=>j.needs.length-k) 0 ⟨Nat.zero_le _,by simp⟩ Y6 (Fit.refl _ _) ?_
  rintro k ⟨hk,hhit⟩
  refine Z5a ?_
  refine qa rfl (fun hc=>?_) (fun hc=>?_)
  ·have hltk:k<j.needs.length:=by simpa using hc
   obtain ⟨n,hn,hnl⟩:=qo hltk
   have hr:=qh eI hn
   refine Zjs ?_
   refine Zbe ?_
   refine ao1 (by decide) (qsq (ys:=(l.take i).map q1d) rfl (Bd.some rfl rfl) Y1c (q6v _) hli) ?_
   refine Z8 ?_
   refine Zjt ?_
   refine Zi5 ?_
   refine qa rfl (fun hc=>?_) (fun hc=>?_)
   ·have hbad:qkn l i=false:=by
     rw [hB2,List.all_eq_false]
     exact ⟨n,hnl,by simpa using hc⟩
    refine Zf ?_
    rw [q1z hlt hbad]
    exact Zb
   ·refine Z5l ?_
    refine ⟨k+1,by omega,⟨by omega,?_⟩,Y6,.refl _ _⟩
    rw [ql hn]
    intro y hy
    rcases List.mem_append.1 hy with h | h
    ·exact hhit y h
    ·simp only [List.mem_singleton] at h
     subst h
     simpa using hc
  ·have:k=j.needs.length:=by simp at hc;omega
   subst this
   rw [List.take_length] at hhit
   have hgood:qkn l i=true:=by rw [hB2,List.all_eq_true];exact hhit
   refine Z5l ?_
   refine ⟨i+1,by omega,⟨by omega,fun k hk=>?_⟩,Y6,Fit.loc hB (L:=[]) rfl Y1 (fun o ho=>by simp at ho)⟩
   rcases Nat.lt_or_eq_of_le (Nat.le_of_lt_succ hk) with h | h
   ·exact hno0 k h
   ·subst h;exact hgood
 ·have:i=l.length:=by simp at hc;omega
  subst this
  refine Zf ?_
  rw [q2s hno]
  exact Zb
set_option maxHeartbeats 0 in
theorem qix (h:Held) (H:qj) (hw:h.things.length≤1000000):AC Tryz.prog 145 [.agg (qg h)] H (Ret (.bool (hmay h)) H):=by
 rw [show hmay h=(decide (0<h.things.length)&&sok h.things&&decide (0≤h.frm)&&decide (h.frm<h.to)&&decide (h.to≤4611686018427387904)) by
  rw [hmay,tm,tm,Bool.eq_iff_iff]
  simp only [Bool.and_eq_true,decide_eq_true_eq]
  constructor
  ·rintro ⟨⟨⟨⟨a,b⟩,c⟩,d⟩,e⟩
   exact ⟨⟨⟨⟨a,b⟩,by omega⟩,by omega⟩,by omega⟩
  ·rintro ⟨⟨⟨⟨a,b⟩,c⟩,d⟩,e⟩
   exact ⟨⟨⟨⟨a,b⟩,by omega⟩,by omega⟩,by omega⟩]
 refine AC.body (N:=29) [.tmp 2] Tryz.func145 rfl rfl rfl (Nat.le_of_ble_eq_true rfl) fun B hB=>?_
 refine Zf8 ?_
 refine Z35 ?_
 refine qn 2 (.bool (decide (0<h.things.length)&&sok h.things&&decide (0≤h.frm)&&decide (h.frm<h.to)&&decide (h.to≤4611686018427387904))) ?_ ?_
 ·refine Z6d ?_
  refine Zf9 ?_
  refine qb rfl rfl (fun hg4=>?_) (fun hg4=>?_)
  ·refine Z68 ?_
   refine Zju ?_
   refine Z3b ?_
   refine qb rfl rfl (fun hg9=>?_) (fun hg9=>?_)
   ·refine Z4a ?_
    refine Z3b ?_
    refine qb rfl rfl (fun hg14=>?_) (fun hg14=>?_)
    ·refine Z39 ?_
     refine Z41 ?_
     refine Z3b ?_
     refine qb rfl rfl (fun hg21=>?_) (fun hg21=>?_)
     ·refine Z39 ?_
      refine Zy ?_
      exact Zgu
     ·refine Z21 ?_
      exact Zgw
    ·refine Zq ?_
     refine Z3g ?_
     exact Zgw
   ·refine Z61 ?_
    refine Z3g ?_
    exact Zgu
  ·refine Z63 ?_
   refine Z3g ?_
   exact Zgu
 exact Z22
set_option maxHeartbeats 0 in
theorem qdi (a b:Held) (H:qj) (ha:a.things.length≤1000000) (hb:b.things.length≤1000000) (sa:sok a.things=true) (sb:sok b.things=true):AC Tryz.prog 146 [.agg (qg a),.agg (qg b)] H (Ret (.bool (q3p a b)) H):=by
 have ct:=fun H=>qlc a.things b.things H ha hb (q49 sa) (q49 sb)
 rw [qld sa sb] at ct
 refine AC.body (N:=21) [.tmp 4] Tryz.func146 rfl rfl rfl (Nat.le_of_ble_eq_true rfl) fun B hB=>?_
 refine Zf8 ?_
 refine Zf7 ?_
 refine Z1q ?_
 refine Z8r ?_
 refine qn 4 (.bool (q3p a b)) ?_ ?_
 ·refine Z7h ?_
  refine Z7h ?_
  refine q13 (qd2 _ _ _ _ _) rfl (by decide) ?_
  refine Zh ?_
  refine qb rfl rfl (fun hg9=>?_) (fun hg9=>?_)
  ·refine Z97 ?_
   refine q5b rfl rfl (by decide) (V2.call (ct _) rfl) ?_
   refine Zn ?_
   exact Zjv
  ·refine Z5o ?_
   exact Zjv
 exact Z22
theorem qga (l:List Held) (id:Int) (H:qj) (hl:l.length≤1000000):AC Tryz.prog 96 [.pl (l.map qg),.int .i64 id] H (Ret (.int .i64 (hAt l id)) H):=by
 refine AC.body (N:=20) [.tmp 4] Tryz.func96 rfl rfl rfl (Nat.le_of_ble_eq_true rfl) fun B hB=>?_
 refine Zhd ?_
 refine qm (G:=Nat) (fun k=>k≤l.length∧∀ y∈l.take k,decide (y.id=id)=false) (fun k=>[(0,.pl (l.map qg)),(1,.int .i64 id),(5,.int .i64 (k:Int))]) (fun _=>H++[]) (fun k=>l.length-k) 0 ⟨Nat.zero_le _,by simp⟩ Y6 (Fit.refl _ _) ?_
 rintro k ⟨hk,hno⟩
 refine Z8z ?_
 refine qa rfl (fun hc=>?_) (fun hc=>?_)
 ·have hlt:k<l.length:=by simpa using hc
  obtain ⟨x,hx,hxl⟩:=qo hlt
  have hr:=qh qg hx
  refine Zhi ?_
  refine Z8 ?_
  refine Zjw ?_
  refine qa rfl (fun hc=>?_) (fun hc=>?_)
  ·have he:x.id=id:=by simpa using hc
   refine Z1w ?_
   rw [show hAt l id=(k:Int) from qrv hx (by rw [he];simp) hno]
   exact Zb
  ·have he:¬ x.id=id:=by simpa using hc
   refine Z2l ?_
   refine ⟨k+1,by omega,⟨by omega,?_⟩,Y6,.refl _ _⟩
   rw [ql hx]
   intro y hy
   rcases List.mem_append.1 hy with h | h
   ·exact hno y h
   ·simp only [List.mem_singleton] at h
    subst h
    simpa using he
 ·have:k=l.length:=by simp at hc;omega
  subst this
  rw [List.take_length] at hno
  rw [show hAt l id = -1 from qmr hno]
  exact Z19
theorem q7x (l:List Job) (id:Int) (H:qj) (hl:l.length≤1000000):AC Tryz.prog 112 [.pl (l.map q1d),.int .i64 id] H (Ret (.int .i64 (jAt l id)) H):=by
 refine AC.body (N:=20) [.tmp 4] Tryz.func112 rfl rfl rfl (Nat.le_of_ble_eq_true rfl) fun B hB=>?_
 refine Zhd ?_
 refine qm (G:=Nat) (fun k=>k≤l.length∧∀ y∈l.take k,decide (y.id=id)=false) (fun k=>[(0,.pl (l.map q1d)),(1,.int .i64 id),(5,.int .i64 (k:Int))]) (fun _=>H++[]) (fun k=>l.length-k) 0 ⟨Nat.zero_le _,by simp⟩ Y6 (Fit.refl _ _) ?_
 rintro k ⟨hk,hno⟩
 refine Z8z ?_
 refine qa rfl (fun hc=>?_) (fun hc=>?_)
 ·have hlt:k<l.length:=by simpa using hc
  obtain ⟨x,hx,hxl⟩:=qo hlt
  have hr:=qh q1d hx
  refine Zhi ?_
  refine Z8 ?_
  refine Zjw ?_
  refine qa rfl (fun hc=>?_) (fun hc=>?_)
  ·have he:x.id=id:=by simpa using hc
   refine Z1w ?_
   rw [show jAt l id=(k:Int) from qrv hx (by rw [he];simp) hno]
   exact Zb
  ·have he:¬ x.id=id:=by simpa using hc
   refine Z2l ?_
   refine ⟨k+1,by omega,⟨by omega,?_⟩,Y6,.refl _ _⟩
   rw [ql hx]
   intro y hy
   rcases List.mem_append.1 hy with h | h
   ·exact hno y h
   ·simp only [List.mem_singleton] at h
    subst h
    simpa using he
 ·have:k=l.length:=by simp at hc;omega
  subst this
  rw [List.take_length] at hno
  rw [show jAt l id = -1 from qmr hno]
  exact Z19
theorem qu0 {l:List Held} {i:Nat} {h:Held} (e:l[i]?=some h):q68 l i=(hmay h&&!(decide (0<i)&&decide (h.id≤q73 l (i-1)))&&q70 l h i):=qd6 e
set_option maxHeartbeats 0 in
theorem qc8 (l:List Held) (H:qj) (hl:HW l):AC Tryz.prog 95 [.pl (l.map qg)] H (Ret (.bool (q1s l)) H):=by
 have hl1:=hl.1
 refine AC.body (N:=52) [.tmp 2] Tryz.func95 rfl rfl rfl (Nat.le_of_ble_eq_true rfl) fun B hB=>?_
 refine Z8v ?_
 refine Z2q ?_
 refine qa rfl (fun hc=>?_) (fun hc=>?_)
 ·have h256:¬ l.length≤256:=by simp at hc;omega
  refine Zf ?_
  rw [show q1s l=false by rw [q1s,decide_eq_false h256,Bool.false_and]]
  exact Zb
 have h256:l.length≤256:=by simp at hc;omega
 rw [show q1s l=qh4 (q68 l) l.length by rw [q1s,decide_eq_true h256,Bool.true_and]]
 refine Z1e ?_
 refine qm (G:=Nat) (fun i=>i≤l.length∧∀ k,k<i→q68 l k=true) (fun i=>[(0,.pl (l.map qg)),(3,.int .i64 (i:Int))]) (fun _=>H++[]) (fun i=>l.length-i) 0 ⟨Nat.zero_le _,fun k hk=>by omega⟩ Y6 (Fit.refl _ _) ?_
 rintro i ⟨hi,hno⟩
 refine Z8z ?_
 refine qa rfl (fun hc=>?_) (fun hc=>?_)
 ·have hlt:i<l.length:=by simpa using hc
  obtain ⟨h,hh,hhl⟩:=qo hlt
  have hr:=qh qg hh
  have hw:=hl.2 h hhl
  have hB2:=qu0 hh
  have hno0:=hno
  clear hno hc
  refine Z1 ?_
  refine q4m ([(0,.pl (l.map qg)),(3,.int .i64 (i:Int)),(37,.bool (!(hmay h&&!(decide (0<i)&&decide (h.id≤q73 l (i-1))))))]) (H++[]) ?_ ?_
  ·by_cases h0:0<i
   ·obtain ⟨h1,hh1,_⟩:=qo (l:=l) (k:=i-1) (by omega)
    have hr1:=qh qg hh1
    rw [qab hh1,decide_eq_true h0,Bool.true_and]
    clear hB2 hno0 hh hhl hh1
    refine q1l 37 (.bool (!(hmay h&&!decide (h.id≤h1.id)))) ?_ ?_
    ·refine Z1g ?_
     refine Z92 ?_
     refine Zjx ?_
     refine Zjy ?_
     refine Zjz ?_
     refine Z6n ?_
     refine qp (g:=20) rfl (fun hg6=>?_) (fun hg6=>?_)
     ·refine Zas ?_
      refine Zk0 ?_
      refine Zk1 ?_
      refine Zk2 ?_
      refine Zk3 ?_
      refine Zk4 ?_
      refine Zk5 ?_
      refine Zk6 ?_
      refine Zk7 ?_
      refine Zk8 ?_
      refine Zk9 ?_
      refine Zka ?_
      refine Zkb ?_
      refine Zkc ?_
      refine Zkd ?_
      exact Zke
     ·refine Zkf ?_
      refine Zkg ?_
      refine Zkh ?_
      refine qp (g:=23) rfl (fun hg9=>?_) (fun hg9=>?_)
      ·refine Zki ?_
       refine Zkj ?_
       refine q1j (g:=23) 12 rfl Y17 (by decide) rfl rfl (fun G=>qe rfl rfl hr rfl) ?_
       refine q1j (g:=23) 13 rfl Y17 (by decide) rfl rfl (fun G=>qx rfl (by decide)) ?_
       refine q1j (g:=23) 14 rfl Y17 (by decide) rfl rfl (fun G=>qz (v:=.int _ _) rfl hr rfl) ?_
       refine q1h (g:=23) 15 rfl Y17 (by decide) rfl rfl (fun _=>qd (v:=.pl _) rfl) ?_
       refine q1h (g:=23) 16 rfl Y17 (by decide) rfl rfl (fun _=>qd (v:=.int _ _) rfl) ?_
       refine q1h (g:=23) 17 rfl Y17 (by decide) rfl rfl (fun _=>q5p (r:=((i-1:Nat):Int)) rfl rfl Y4) ?_
       refine q1j (g:=23) 18 rfl Y17 (by decide) rfl rfl (fun G=>qe rfl rfl hr1 rfl) ?_
       refine Zkk ?_
       refine q1j (g:=23) 20 rfl Y17 (by decide) rfl rfl (fun G=>qz (v:=.int _ _) rfl hr1 rfl) ?_
       refine q1h (g:=23) 21 rfl Y17 (by decide) rfl rfl (fun _=>qqc rfl rfl) ?_
       refine q1h (g:=20) 22 rfl Y17 (by decide) rfl rfl (fun _=>q16 (v:=.bool _) rfl rfl) ?_
       refine Zkl ?_
       exact Zke
      ·refine Zkm ?_
       refine Zkn ?_
       refine Zko ?_
       refine Zkp ?_
       refine Zkq ?_
       refine Zkr ?_
       refine Zks ?_
       refine Zkt ?_
       refine Zku ?_
       refine Zkv ?_
       refine Zkw ?_
       refine Zkx ?_
       refine Zky ?_
       refine Zkl ?_
       exact Zke
    exact q2d Y6 (.inl rfl)
   ·rw [decide_eq_false h0,Bool.false_and,Bool.not_false,Bool.and_true]
    clear hB2 hno0 hh hhl
    refine q1l 37 (.bool (!hmay h)) ?_ ?_
    ·refine Z1g ?_
     refine Z92 ?_
     refine Zjx ?_
     refine Zjy ?_
     refine Zjz ?_
     refine Z6n ?_
     refine qp (g:=20) rfl (fun hg6=>?_) (fun hg6=>?_)
     ·refine Zas ?_
      refine Zk0 ?_
      refine Zk1 ?_
      refine Zk2 ?_
      refine Zk3 ?_
      refine Zk4 ?_
      refine Zk5 ?_
      refine Zk6 ?_
      refine Zk7 ?_
      refine Zk8 ?_
      refine Zk9 ?_
      refine Zka ?_
      refine Zkb ?_
      refine Zkc ?_
      refine Zkd ?_
      exact Zkz
     ·refine Zkf ?_
      refine Zkg ?_
      refine Zkh ?_
      refine qp (g:=23) rfl (fun hg9=>?_) (fun hg9=>?_)
      ·exfalso;simp at hg9;omega
      ·refine Zkm ?_
       refine Zkn ?_
       refine Zko ?_
       refine Zkp ?_
       refine Zkq ?_
       refine Zkr ?_
       refine Zks ?_
       refine Zkt ?_
       refine Zku ?_
       refine Zkv ?_
       refine Zkw ?_
       refine Zkx ?_
       refine Zky ?_
       refine Zkl ?_
       exact Zkz
    exact q2d Y6 (.inl rfl)
  refine Z1 ?_
  refine qa rfl (fun hc=>?_) (fun hc=>?_)
  ·have hbad:q68 l i=false:=by rw [hB2];rw [Bool.not_eq_true'] at hc;rw [hc,Bool.false_and]
   refine Zf ?_
   rw [q1z hlt hbad]
   exact Zb
  have hgd:(hmay h&&!(decide (0<i)&&decide (h.id≤q73 l (i-1))))=true:=by simpa only [Bool.not_eq_false'] using hc
  have hm:hmay h=true:=by rw [Bool.and_eq_true] at hgd;exact hgd.1
  have hsh:=q5r hm
  rw [hgd,Bool.true_and] at hB2
  clear hc hgd
  refine Z1e ?_
  refine qm (G:=Nat) (fun k=>k≤i∧q70 l h k=true) (fun k=>[(0,.pl (l.map qg)),(3,.int .i64 (i:Int)),(4,.int .i64 (k:Int))]) (fun _=>H++[]) (fun k=>i-k) 0 ⟨Nat.zero_le _,by simp [q70]⟩ Y6 (Fit.refl _ _) ?_
  rintro k ⟨hk,hnc⟩
  refine Z2y ?_
  refine qa rfl (fun hc=>?_) (fun hc=>?_)
  ·have hltk:k<i:=by simpa using hc
   obtain ⟨x,hx,hxl⟩:=qo (l:=l) (k:=k) (by omega)
   have hrx:=qh qg hx
   have hwx:=hl.2 x hxl
   have hsx:=q5r (qsh hx (hno0 k hltk))
   have hstep:=qhb (h:=h) hx
   clear hc
   refine Z1h ?_
   refine Z91 ?_
   refine aqp 2 rfl Y17 (by decide) (fun G=>qe rfl rfl hrx rfl) ?_
   refine aqp 3 rfl Y17 (by decide) (fun G=>q3d rfl hrx rfl) ?_
   refine Z95 ?_
   refine aqp 6 rfl Y17 (by decide) (fun G=>qe rfl rfl hr rfl) ?_
   refine aqp 7 rfl Y17 (by decide) (fun G=>q3d rfl hr rfl) ?_
   refine q48 8 rfl Y17 (by decide) (fun _=>V2.call (qdi x h _ hwx hw hsx hsh) rfl) ?_
   refine Z1m ?_
   refine qa rfl (fun hc=>?_) (fun hc=>?_)
   ·have hbad:q68 l i=false:=by rw [hB2];exact qka hx hltk hc
    refine Zf ?_
    rw [q1z hlt hbad]
    exact Zb
   ·refine Z2l ?_
    exact ⟨k+1,by omega,⟨by omega,by rw [hstep,hnc,hc];rfl⟩,Y6,.refl _ _⟩
  ·have:k=i:=by simp at hc;omega
   subst this
   have hgood:q68 l k=true:=by rw [hB2];exact hnc
   refine Z2l ?_
   refine ⟨k+1,by omega,⟨by omega,fun m hm=>?_⟩,Y6,.refl _ _⟩
   rcases Nat.lt_or_eq_of_le (Nat.le_of_lt_succ hm) with h | h
   ·exact hno0 m h
   ·subst h;exact hgood
 ·have:i=l.length:=by simp at hc;omega
  subst this
  refine Zf ?_
  rw [q2s hno]
  exact Zb
def QT (l:List Job):Prop:=∀ j∈l,j.spec.tag.size≤9223372036854775807
theorem jneg (l:List Job) (n:Int):decide (jAt l n<0) = !l.any fun j=>decide (j.id=n):=qx7 _ l
theorem qub {l:List Job} {i:Nat} {j:Job} (e:l[i]?=some j):qrl l i=(q1q j&&!(decide (0<i)&&(decide (j.id≤q8k l (i-1))||decide (j.came<(q1r l (i-1)).came)))&&j.needs.all fun n=>l.any fun j=>decide (j.id=n)):=by rw [qrl,q12 e]
set_option maxHeartbeats 0 in
theorem qkv (l:List Job) (H:qj) (hl:l.length≤1000000) (hq:QT l):AC Tryz.prog 94 [.pl (l.map q1d)] H (Ret (.bool (q24 l)) H):=by
 refine AC.body (N:=73) [.tmp 2] Tryz.func94 rfl rfl rfl (Nat.le_of_ble_eq_true rfl) fun B hB=>?_
 refine Z8v ?_
 refine Z2q ?_
 refine qa rfl (fun hc=>?_) (fun hc=>?_)
 ·have h64:¬ l.length≤64:=by simp at hc;omega
  refine Zf ?_
  rw [show q24 l=false by rw [q24,decide_eq_false h64,Bool.false_and]]
  exact Zb
 have h64:l.length≤64:=by simp at hc;omega
 rw [qxk h64]
 refine Z1e ?_
 refine qm (G:=Nat) (fun i=>i≤l.length∧∀ k,k<i→qrl l k=true) (fun i=>[(0,.pl (l.map q1d)),(3,.int .i64 (i:Int))]) (fun _=>H++[]) (fun i=>l.length-i) 0 ⟨Nat.zero_le _,fun k hk=>by omega⟩ Y6 (Fit.refl _ _) ?_
 rintro i ⟨hi,hno⟩
 refine Z8z ?_
 refine qa rfl (fun hc=>?_) (fun hc=>?_)
 ·have hlt:i<l.length:=by simpa using hc
  obtain ⟨j,hj,hjl⟩:=qo hlt
  have hr:=qh q1d hj
  have hts:=hq j hjl
  have hB2:=qub hj
  have hno0:=hno
  clear hno hc
  refine Z1 ?_
  refine q4m ([(0,.pl (l.map q1d)),(3,.int .i64 (i:Int)),(51,.bool (!(q1q j&&!(decide (0<i)&&(decide (j.id≤q8k l (i-1))||decide (j.came<(q1r l (i-1)).came))))))]) (H++[]) ?_ ?_
  ·by_cases h0:0<i
   ·obtain ⟨h1,hh1,_⟩:=qo (l:=l) (k:=i-1) (by omega)
    have hr1:=qh q1d hh1
    rw [qdn hh1,q12 hh1,decide_eq_true h0,Bool.true_and]
    clear hB2 hno0 hj hjl hh1
    refine q1l 51 (.bool (!(q1q j&&!((decide (j.id≤h1.id)||decide (j.came<h1.came)))))) ?_ ?_
    ·refine Z1g ?_
     refine Z92 ?_
     refine Zjx ?_
     refine Zl0 ?_
     refine Zjz ?_
     refine Z6n ?_
     refine qp (g:=20) rfl (fun hg6=>?_) (fun hg6=>?_)
     ·refine Zas ?_
      refine Zk0 ?_
      refine Zk1 ?_
      refine Zk2 ?_
      refine Zk3 ?_
      refine Zk4 ?_
      refine Zk5 ?_
      refine Zk6 ?_
      refine Zk7 ?_
      refine Zk8 ?_
      refine Zk9 ?_
      refine Zka ?_
      refine Zkb ?_
      refine Zl1 ?_
      refine Zl2 ?_
      refine Zl3 ?_
      refine Zl4 ?_
      refine Zl5 ?_
      refine Zl6 ?_
      refine Zl7 ?_
      refine Zl8 ?_
      refine Zl9 ?_
      refine Zla ?_
      refine Zlb ?_
      refine Zlc ?_
      refine Zld ?_
      refine Zle ?_
      refine Zlf ?_
      refine Zlg ?_
      exact Zke
     ·refine Zkf ?_
      refine Zkg ?_
      refine Zkh ?_
      refine qp (g:=23) rfl (fun hg9=>?_) (fun hg9=>?_)
      ·refine Zki ?_
       refine Zkj ?_
       refine q1h (g:=23) 12 rfl Y17 (by decide) rfl rfl (fun _=>q5p (r:=((i-1:Nat):Int)) rfl rfl Y4) ?_
       refine q1j (g:=23) 13 rfl Y17 (by decide) rfl rfl (fun G=>qe rfl rfl hr1 rfl) ?_
       refine q1j (g:=23) 14 rfl Y17 (by decide) rfl rfl (fun G=>qx rfl (by decide)) ?_
       refine q1j (g:=23) 15 rfl Y17 (by decide) rfl rfl (fun G=>qz (v:=.int _ _) rfl hr1 rfl) ?_
       refine q1h (g:=23) 16 rfl Y17 (by decide) rfl rfl (fun _=>qd (v:=.pl _) rfl) ?_
       refine q1h (g:=23) 17 rfl Y17 (by decide) rfl rfl (fun _=>qd (v:=.int _ _) rfl) ?_
       refine q1j (g:=23) 18 rfl Y17 (by decide) rfl rfl (fun G=>qe rfl rfl hr rfl) ?_
       refine Zkk ?_
       refine q1j (g:=23) 20 rfl Y17 (by decide) rfl rfl (fun G=>qz (v:=.int _ _) rfl hr rfl) ?_
       refine q1h (g:=23) 21 rfl Y17 (by decide) rfl rfl (fun _=>qy2 rfl rfl) ?_
       refine q1h (g:=23) 22 rfl Y17 (by decide) rfl rfl (fun _=>qd (v:=.bool _) rfl) ?_
       refine qp (g:=36) rfl (fun hg22=>?_) (fun hg22=>?_)
       ·refine qr (g:=36) 23 rfl Y17 (by decide) rfl rfl rfl ?_
        refine qr (g:=36) 24 rfl Y17 (by decide) rfl rfl rfl ?_
        refine qr (g:=36) 25 rfl Y17 (by decide) rfl rfl rfl ?_
        refine qr (g:=36) 26 rfl Y17 (by decide) rfl rfl rfl ?_
        refine qr (g:=36) 27 rfl Y17 (by decide) rfl rfl rfl ?_
        refine qr (g:=36) 28 rfl Y17 (by decide) rfl rfl rfl ?_
        refine qr (g:=36) 29 rfl Y17 (by decide) rfl rfl rfl ?_
        refine qr (g:=36) 30 rfl Y17 (by decide) rfl rfl rfl ?_
        refine qr (g:=36) 31 rfl Y17 (by decide) rfl rfl rfl ?_
        refine qr (g:=36) 32 rfl Y17 (by decide) rfl rfl rfl ?_
        refine qr (g:=36) 33 rfl Y17 (by decide) rfl rfl rfl ?_
        refine qr (g:=36) 34 rfl Y17 (by decide) rfl rfl rfl ?_
        refine q1h (g:=23) 35 rfl Y17 (by decide) rfl rfl (fun _=>q16 (v:=.bool _) rfl rfl) ?_
        refine Zlh ?_
        refine Zli ?_
        exact Zke
       ·refine q1h (g:=36) 23 rfl Y17 (by decide) rfl rfl (fun _=>qd (v:=.pl _) rfl) ?_
        refine q1h (g:=36) 24 rfl Y17 (by decide) rfl rfl (fun _=>qd (v:=.int _ _) rfl) ?_
        refine q1h (g:=36) 25 rfl Y17 (by decide) rfl rfl (fun _=>q5p (r:=((i-1:Nat):Int)) rfl rfl Y4) ?_
        refine q1j (g:=36) 26 rfl Y17 (by decide) rfl rfl (fun G=>qe rfl rfl hr1 rfl) ?_
        refine q1j (g:=36) 27 rfl Y17 (by decide) rfl rfl (fun G=>qx rfl (by decide)) ?_
        refine q1j (g:=36) 28 rfl Y17 (by decide) rfl rfl (fun G=>qz (v:=.int _ _) rfl hr1 rfl) ?_
        refine q1h (g:=36) 29 rfl Y17 (by decide) rfl rfl (fun _=>qd (v:=.pl _) rfl) ?_
        refine q1h (g:=36) 30 rfl Y17 (by decide) rfl rfl (fun _=>qd (v:=.int _ _) rfl) ?_
        refine q1j (g:=36) 31 rfl Y17 (by decide) rfl rfl (fun G=>qe rfl rfl hr rfl) ?_
        refine q1j (g:=36) 32 rfl Y17 (by decide) rfl rfl (fun G=>qx rfl (by decide)) ?_
        refine q1j (g:=36) 33 rfl Y17 (by decide) rfl rfl (fun G=>qz (v:=.int _ _) rfl hr rfl) ?_
        refine q1h (g:=36) 34 rfl Y17 (by decide) rfl rfl (fun _=>qjz rfl rfl) ?_
        refine q1h (g:=23) 35 rfl Y17 (by decide) rfl rfl (fun _=>q17 (v:=.bool _) rfl rfl) ?_
        refine Zlh ?_
        refine Zli ?_
        exact q1i Y17 Yv (Out.mk (by (refine congrArg AV.bool ?_;(clear hB hr hr1;(simp_all;omega)))) Yb)
      ·refine Zkm ?_
       refine Zkn ?_
       refine Zko ?_
       refine Zkp ?_
       refine Zkq ?_
       refine Zkr ?_
       refine Zks ?_
       refine Zkt ?_
       refine Zku ?_
       refine Zkv ?_
       refine Zkw ?_
       refine Zkx ?_
       refine Zlj ?_
       refine Zl2 ?_
       refine Zl3 ?_
       refine Zl4 ?_
       refine Zl5 ?_
       refine Zl6 ?_
       refine Zl7 ?_
       refine Zl8 ?_
       refine Zl9 ?_
       refine Zla ?_
       refine Zlb ?_
       refine Zlc ?_
       refine Zld ?_
       refine Zlk ?_
       refine Zll ?_
       refine Zli ?_
       exact Zke
    exact q2d Y6 (.inl rfl)
   ·rw [decide_eq_false h0,Bool.false_and,Bool.not_false,Bool.and_true]
    clear hB2 hno0 hj hjl
    refine q1l 51 (.bool (!q1q j)) ?_ ?_
    ·refine Z1g ?_
     refine Z92 ?_
     refine Zjx ?_
     refine Zl0 ?_
     refine Zjz ?_
     refine Z6n ?_
     refine qp (g:=20) rfl (fun hg6=>?_) (fun hg6=>?_)
     ·refine Zas ?_
      refine Zk0 ?_
      refine Zk1 ?_
      refine Zk2 ?_
      refine Zk3 ?_
      refine Zk4 ?_
      refine Zk5 ?_
      refine Zk6 ?_
      refine Zk7 ?_
      refine Zk8 ?_
      refine Zk9 ?_
      refine Zka ?_
      refine Zkb ?_
      refine Zl1 ?_
      refine Zl2 ?_
      refine Zl3 ?_
      refine Zl4 ?_
      refine Zl5 ?_
      refine Zl6 ?_
      refine Zl7 ?_
      refine Zl8 ?_
      refine Zl9 ?_
      refine Zla ?_
      refine Zlb ?_
      refine Zlc ?_
      refine Zld ?_
      refine Zle ?_
      refine Zlf ?_
      refine Zlg ?_
      exact Zkz
     ·refine Zkf ?_
      refine Zkg ?_
      refine Zkh ?_
      refine qp (g:=23) rfl (fun hg9=>?_) (fun hg9=>?_)
      ·exfalso;simp at hg9;omega
      ·refine Zkm ?_
       refine Zkn ?_
       refine Zko ?_
       refine Zkp ?_
       refine Zkq ?_
       refine Zkr ?_
       refine Zks ?_
       refine Zkt ?_
       refine Zku ?_
       refine Zkv ?_
       refine Zkw ?_
       refine Zkx ?_
       refine Zlj ?_
       refine Zl2 ?_
       refine Zl3 ?_
       refine Zl4 ?_
       refine Zl5 ?_
       refine Zl6 ?_
       refine Zl7 ?_
       refine Zl8 ?_
       refine Zl9 ?_
       refine Zla ?_
       refine Zlb ?_
       refine Zlc ?_
       refine Zld ?_
       refine Zlk ?_
       refine Zll ?_
       refine Zli ?_
       exact Zkz
    exact q2d Y6 (.inl rfl)
  refine Z1 ?_
  refine qa rfl (fun hc=>?_) (fun hc=>?_)
  ·have hbad:qrl l i=false:=by rw [hB2];rw [Bool.not_eq_true'] at hc;rw [hc,Bool.false_and]
   refine Zf ?_
   rw [q1z hlt hbad]
   exact Zb
  have hgd:(q1q j&&!(decide (0<i)&&(decide (j.id≤q8k l (i-1))||decide (j.came<(q1r l (i-1)).came))))=true:=by simpa only [Bool.not_eq_false'] using hc
  have hjr:q1q j=true:=by rw [Bool.and_eq_true] at hgd;exact hgd.1
  have hn16:=q5w hjr
  rw [hgd,Bool.true_and] at hB2
  clear hc hgd
  refine Z1e ?_
  refine qm (G:=Nat) (fun k=>k≤j.needs.length∧∀ n∈j.needs.take k,(l.any fun j=>decide (j.id=n))=true) (fun k=>[(0,.pl (l.map q1d)),(3,.int .i64 (i:Int)),(4,.int .i64 (k:Int))]) (fun _=>H++[]) (fun k=>j.needs.length-k) 0 ⟨Nat.zero_le _,by simp⟩ Y6 (Fit.refl _ _) ?_
  rintro k ⟨hk,hhit⟩
  refine Z12 ?_
  refine Zc7 ?_
  refine Zhg ?_
  refine Zlm ?_
  refine Z54 ?_
  refine Z6f ?_
  refine qa rfl (fun hc=>?_) (fun hc=>?_)
  ·have hltk:k<j.needs.length:=by simpa using hc
   obtain ⟨n,hn,hnl⟩:=qo hltk
   have hr2:=qh eI hn
   clear hc
   refine Za5 ?_
   refine Z8 ?_
   refine Zhg ?_
   refine Zlm ?_
   refine Z8 ?_
   refine Zhe ?_
   refine Zhf ?_
   refine q13 (q7x _ _ _ (by omega)) rfl (by decide) ?_
   refine Zu ?_
   refine Z55 ?_
   rw [jneg]
   refine Z1 ?_
   refine qa rfl (fun hc=>?_) (fun hc=>?_)
   ·have hbad:qrl l i=false:=by
     rw [hB2,List.all_eq_false]
     exact ⟨n,hnl,by rw [Bool.not_eq_true];simpa only [Bool.not_eq_true'] using hc⟩
    refine Zf ?_
    rw [q1z hlt hbad]
    exact Zb
   ·refine Z2l ?_
    refine ⟨k+1,by omega,⟨by omega,?_⟩,Y6,.refl _ _⟩
    rw [ql hn]
    intro y hy
    rcases List.mem_append.1 hy with h | h
    ·exact hhit y h
    ·simp only [List.mem_singleton] at h
     subst h
     simpa only [Bool.not_eq_false'] using hc
  ·have:k=j.needs.length:=by simp at hc;omega
   subst this
   rw [List.take_length] at hhit
   have hgood:qrl l i=true:=by rw [hB2,List.all_eq_true];exact hhit
   refine Z2l ?_
   refine ⟨i+1,by omega,⟨by omega,fun m hm=>?_⟩,Y6,.refl _ _⟩
   rcases Nat.lt_or_eq_of_le (Nat.le_of_lt_succ hm) with h | h
   ·exact hno0 m h
   ·subst h;exact hgood
 ·have:i=l.length:=by simp at hc;omega
  subst this
  refine Zf ?_
  rw [q2s hno]
  exact Zb
theorem qjt (p d:Int) (H:qj):AC Tryz.prog 51 [.int .i64 p,.int .i64 d] H (Ret (.bool (q4g p d)) H):=by
 refine AC.body (N:=19) [.tmp 4] Tryz.func51 rfl rfl rfl (Nat.le_of_ble_eq_true rfl) fun B hB=>?_
 refine Zf ?_
 refine qn 4 (.bool (q4g p d)) ?_ ?_
 ·refine Z8 ?_
  refine Z24 ?_
  refine qb rfl rfl (fun hg2=>?_) (fun hg2=>?_)
  ·refine Zj ?_
   refine Zx ?_
   refine Z3b ?_
   refine qb rfl rfl (fun hg6=>?_) (fun hg6=>?_)
   ·refine Z9k ?_
    refine Z3b ?_
    refine qb rfl rfl (fun hg10=>?_) (fun hg10=>?_)
    ·refine Zz ?_
     exact qf (Out.mk (by (refine congrArg AV.bool ?_;(simp only [q4g];clear hB;(simp_all;done)))) Yb)
    ·refine Zt ?_
     exact Zln
   ·refine Z62 ?_
    refine Zt ?_
    exact Zln
  ·refine Z62 ?_
   refine Z62 ?_
   refine Zt ?_
   exact Zln
 exact Z22
theorem qct (g:List Thing) (l:List Int) (H:qj) (hg:g.length≤1000000) (hl:l.length≤1000000):AC Tryz.prog 73 [.pl (g.map qq),.pl (l.map q3u)] H (Ret (.bool (q27 g l)) H):=by
 refine AC.body (N:=23) [.tmp 4] Tryz.func73 rfl rfl rfl (Nat.le_of_ble_eq_true rfl) fun B hB=>?_
 refine Z1r ?_
 by_cases h0:l.length=0
 ·refine Z1 ?_
  refine qn 4 (.bool (q27 g l)) ?_ ?_
  ·refine Z4n ?_
   refine Zlo ?_
   refine Zh ?_
   refine qb rfl rfl (fun hg2=>?_) (fun hg2=>?_)
   ·refine Zeu ?_
    refine Z28 ?_
    refine qb rfl rfl (fun hg6=>?_) (fun hg6=>?_)
    ·refine Z5f ?_
     refine Z3j ?_
     refine Z3k ?_
     refine Z29 ?_
     refine Zn ?_
     exact Zlp
    ·exfalso;have:=List.eq_nil_of_length_eq_zero h0;subst this;simp at hg6
   ·refine Z2c ?_
    refine Z2g ?_
    refine Zep ?_
    refine Z5t ?_
    exact Zlp
  exact Z22
 ·obtain ⟨x,hx,hxl⟩:=qo (l:=l) (k:=l.length-1) (by omega)
  have hr:=qh q3u hx
  have hd:l.getD (l.length-1) 0=x:=by rw [List.getD_eq_getElem?_getD,hx];rfl
  have hs:q27 g l=(sok l&&decide (x<(g.length:Int))):=by rw [q27,hd,decide_eq_false h0,Bool.false_or]
  rw [hs]
  refine Z1 ?_
  refine qn 4 (.bool (sok l&&decide (x<(g.length:Int)))) ?_ ?_
  ·refine Z4n ?_
   refine Zlo ?_
   refine Zh ?_
   refine qb rfl rfl (fun hg2=>?_) (fun hg2=>?_)
   ·refine Zeu ?_
    refine Z28 ?_
    refine qb rfl rfl (fun hg6=>?_) (fun hg6=>?_)
    ·refine Z5f ?_
     refine Z3j ?_
     refine Z3k ?_
     refine Z29 ?_
     refine Zn ?_
     exact Zlq
    ·refine Zc3 ?_
     refine Zcw ?_
     refine Zlr ?_
     refine Zh8 ?_
     refine Zha ?_
     refine Zcw ?_
     refine Zk ?_
     refine Z2d ?_
     refine Zn ?_
     exact Zlq
   ·refine Z2c ?_
    refine Z2g ?_
    refine Zep ?_
    refine Z5t ?_
    exact Zlq
  exact Z22
abbrev q19 (i:Inst):List AV:=[.pl (i.graph.map qq),.pl (i.health.map eI),.pl (i.lease.map eI),.int .i64 i.til,.pl (i.jobs.map q1d),.pl (i.table.map qg),.int .i64 i.now,.int .i64 i.policy,.int .i64 i.depth]
set_option maxHeartbeats 0 in
theorem qra (i:Inst) (H:qj) (hw:IW i):AC Tryz.prog 77 [.agg (q19 i)] H (Ret (.bool (q5c i)) H):=by
 have w1:=hw.graph
 have w2:=hw.jobs
 have w3:=hw.table
 refine AC.body (N:=80) [.tmp 2] Tryz.func77 rfl rfl rfl (Nat.le_of_ble_eq_true rfl) fun B hB=>?_
 refine Zlt ?_
 refine Z34 ?_
 refine Z5 ?_
 refine Z53 ?_
 refine Z59 ?_
 refine qm (G:=Nat) (fun k=>k≤i.jobs.length∧∀ m,m<k→q58 i m=true) (fun k=>[(1,.pt (Lid H.length 0) 0 0 0),(3,.int .i64 (qpf (i.jobs.take k):Int)),(9,.pl (i.jobs.map q1d)),(10,.int .i64 (i.jobs.length:Int)),(11,.int .i64 (k:Int))]) (fun _=>H++[⟨0,9,[q19 i]⟩]) (fun k=>i.jobs.length-k) 0 ⟨Nat.zero_le _,fun m hm=>by omega⟩ Y6 (Fit.refl _ _) ?_
 rintro k ⟨hk,hno⟩
 have hbel:∀ (b:Nat),∀ o∈[AObj.mk 0 9 [q19 i]],∀ r∈o.rows,AV.bels b r=true:=by
  intro b o ho r hr
  simp only [List.mem_singleton] at ho
  subst ho
  simp only [List.mem_singleton] at hr
  subst hr
  rfl
 refine Z5a ?_
 refine qa rfl (fun hc=>?_) (fun hc=>?_)
 ·have hlt:k<i.jobs.length:=by simp at hc;omega
  obtain ⟨j,hj,hjl⟩:=qo hlt
  have hr:=qh q1d hj
  have hB2:=q69 hj
  have hstep:=qin hj
  have hrl:=qq9 (i.jobs.take k)
  rw [List.length_take] at hrl
  have hno0:=hno
  have hget:=ql8 w3 j.id
  clear hno hc
  refine Zi7 ?_
  refine Zlv ?_
  clear hr
  refine Z1 ?_
  refine qn 26 (.bool (!(decide (j.came≤i.now)&&decide (j.frm≤i.now)))) ?_ ?_
  ·refine Z7h ?_
   refine Zf9 ?_
   refine qb rfl rfl (fun hg5=>?_) (fun hg5=>?_)
   ·refine Z3j ?_
    refine Z3z ?_
    exact qf (Out.mk (by (refine congrArg AV.bool ?_;(clear hB hB2 hstep hno0 hget hrl hbel;(simp_all;done)))) Yb)
   ·refine Z39 ?_
    refine Z39 ?_
    refine Z43 ?_
    exact qf (Out.mk (by (refine congrArg AV.bool ?_;(clear hB hB2 hstep hno0 hget hrl hbel;grind))) Yb)
  refine Z1 ?_
  refine qa rfl (fun hc=>?_) (fun hc=>?_)
  ·have hbad:q58 i k=false:=by rw [Bool.not_eq_true'] at hc;rw [hB2,hc,Bool.false_and]
   refine Zf ?_
   rw [show q5c i=false by rw [q5c,q1z hlt hbad,Bool.false_and]]
   exact Zb
  have h1:(decide (j.came≤i.now)&&decide (j.frm≤i.now))=true:=by simpa only [Bool.not_eq_false'] using hc
  rw [h1,Bool.true_and] at hB2
  clear hc
  refine Z4i ?_
  refine Z2u ?_
  refine Z56 ?_
  refine qa rfl (fun hc=>?_) (fun hc=>?_)
  ·have h2:j.state≠2:=by simpa using hc
   rw [decide_eq_true h2,Bool.true_or] at hB2
   rw [if_neg (by simpa using h2),Nat.add_zero] at hstep
   refine Z5l ?_
   refine ⟨k+1,by omega,⟨by omega,fun m hm=>?_⟩,by rw [hstep];exact Y6,Fit.loc hB rfl Y1 (hbel _)⟩
   rcases Nat.lt_or_eq_of_le (Nat.le_of_lt_succ hm) with h | h
   ·exact hno0 m h
   ·subst h;exact hB2
  have h2:j.state=2:=by simpa using hc
  rw [if_pos (by simpa using h2)] at hstep
  rw [show decide (j.state≠2)=false by simp [h2],Bool.false_or] at hB2
  refine Z12 ?_
  refine Zlw ?_
  refine Z4 ?_
  refine Z53 ?_
  refine Z37 ?_
  refine q13 (quj _ _ _ Y1d) rfl (by decide) ?_
  refine Z9u ?_
  refine Zi8 ?_
  refine Z1q ?_
  refine Zlx ?_
  generalize q2g i.table j.id=q at hB2 hget ⊢
  obtain ⟨h,ok⟩:=q
  simp only at hB2 hget
  clear hj hjl
  refine Z1 ?_
  refine q1l 73 (.bool (!q58 i k)) ?_ ?_
  ·refine Zly ?_
   refine Zab ?_
   refine Zlz ?_
   refine Z9y ?_
   refine qp (g:=42) rfl (fun hg2=>?_) (fun hg2=>?_)
   ·refine qr (g:=42) 3 rfl Y17 (by decide) rfl rfl rfl ?_
    refine qr (g:=42) 4 rfl Y17 (by decide) rfl rfl rfl ?_
    refine qr (g:=42) 5 rfl Y17 (by decide) rfl rfl rfl ?_
    refine qr (g:=42) 6 rfl Y17 (by decide) rfl rfl rfl ?_
    refine qr (g:=42) 7 rfl Y17 (by decide) rfl rfl rfl ?_
    refine Zdc ?_
    refine Zdd ?_
    refine Zm0 ?_
    refine Zm1 ?_
    refine Zm2 ?_
    refine Zm3 ?_
    refine Zm4 ?_
    refine Zm5 ?_
    refine Zm6 ?_
    refine Zm7 ?_
    refine Zm8 ?_
    refine Zm9 ?_
    refine Zma ?_
    refine Zmb ?_
    refine Zmc ?_
    refine Zmd ?_
    refine Zme ?_
    refine Zmf ?_
    refine Zmg ?_
    refine Zmh ?_
    refine Zmi ?_
    refine Zmj ?_
    refine Zmk ?_
    refine Zml ?_
    refine Zmm ?_
    refine Z7a ?_
    exact Zmn
   ·refine q1j (g:=42) 3 rfl Y17 (by decide) rfl rfl (fun G=>qc rfl (lk rfl rfl) rfl (by decide)) ?_
    refine q1j (g:=42) 4 rfl Y17 (by decide) rfl rfl (fun G=>qi (v:=.int _ _) rfl (lk rfl rfl) rfl rfl rfl) ?_
    refine q1j (g:=42) 5 rfl Y17 (by decide) rfl rfl (fun G=>qc rfl (lk rfl rfl) rfl (by decide)) ?_
    refine q1j (g:=42) 6 rfl Y17 (by decide) rfl rfl (fun G=>qi (v:=.int _ _) rfl (lk rfl rfl) rfl rfl rfl) ?_
    refine q1h (g:=42) 7 rfl Y17 (by decide) rfl rfl (fun _=>qpe rfl rfl) ?_
    refine Zea ?_
    refine Zdd ?_
    refine qp (g:=49) rfl (fun hg9=>?_) (fun hg9=>?_)
    ·refine Zm0 ?_
     refine Zm1 ?_
     refine Zm2 ?_
     refine Zm3 ?_
     refine Zm4 ?_
     refine Zm5 ?_
     refine Zm6 ?_
     refine Zm7 ?_
     refine Zm8 ?_
     refine Zm9 ?_
     refine Zma ?_
     refine Zmb ?_
     refine Zmc ?_
     refine Zmd ?_
     refine Zme ?_
     refine Zmf ?_
     refine Zmg ?_
     refine Zmh ?_
     refine Zmi ?_
     refine Zmj ?_
     refine Zmk ?_
     refine Zml ?_
     refine Zmm ?_
     refine Z7a ?_
     exact Zmn
    ·refine q1j (g:=49) 10 rfl Y17 (by decide) rfl rfl (fun G=>qc rfl (lk rfl rfl) rfl (by decide)) ?_
     refine q1j (g:=49) 11 rfl Y17 (by decide) rfl rfl (fun G=>qi (v:=.int _ _) rfl (lk rfl rfl) rfl rfl rfl) ?_
     refine q1j (g:=49) 12 rfl Y17 (by decide) rfl rfl (fun G=>qc rfl (lk rfl rfl) rfl (by decide)) ?_
     refine q1j (g:=49) 13 rfl Y17 (by decide) rfl rfl (fun G=>qcw (cs:=[_,_,_,_,_,_,_]) rfl (lk rfl rfl) rfl rfl rfl rfl) ?_
     refine q1j (g:=49) 14 rfl Y17 (by decide) rfl rfl (fun G=>qc rfl (lk rfl rfl) rfl (by decide)) ?_
     refine q1j (g:=49) 15 rfl Y17 (by decide) rfl rfl (fun G=>qi (v:=.int _ _) rfl (lk rfl rfl) rfl rfl rfl) ?_
     refine q7c (g:=49) 16 rfl Y17 (by decide) rfl rfl (fun _=>V2.call (qde _ _ _) rfl) ?_
     refine q1h (g:=49) 17 rfl Y17 (by decide) rfl rfl (fun _=>qpe rfl rfl) ?_
     refine aq0 18 rfl Y17 (by decide) (fun _=>q17 (v:=.bool _) rfl rfl) ?_
     refine Zm9 ?_
     refine qp (g:=59) rfl (fun hg19=>?_) (fun hg19=>?_)
     ·refine Zma ?_
      refine Zmb ?_
      refine Zmc ?_
      refine Zmd ?_
      refine Zme ?_
      refine Zmf ?_
      refine Zmg ?_
      refine Zmh ?_
      refine Zmi ?_
      refine Zmj ?_
      refine Zmk ?_
      refine Zml ?_
      refine Zmm ?_
      refine Z7a ?_
      exact Zmn
     ·refine q1j (g:=59) 20 rfl Y17 (by decide) rfl rfl (fun G=>qc rfl (lk rfl rfl) rfl (by decide)) ?_
      refine q1j (g:=59) 21 rfl Y17 (by decide) rfl rfl (fun G=>qi (v:=.int _ _) rfl (lk rfl rfl) rfl rfl rfl) ?_
      refine q1j (g:=59) 22 rfl Y17 (by decide) rfl rfl (fun G=>qc rfl (lk rfl rfl) rfl (by decide)) ?_
      refine q1j (g:=59) 23 rfl Y17 (by decide) rfl rfl (fun G=>qi (v:=.int _ _) rfl (lk rfl rfl) rfl rfl rfl) ?_
      refine q1h (g:=59) 24 rfl Y17 (by decide) rfl rfl (fun _=>qqc rfl rfl) ?_
      refine aq0 25 rfl Y17 (by decide) (fun _=>q17 (v:=.bool _) rfl rfl) ?_
      refine Zmg ?_
      refine qp (g:=66) rfl (fun hg26=>?_) (fun hg26=>?_)
      ·refine Zmh ?_
       refine Zmi ?_
       refine Zmj ?_
       refine Zmk ?_
       refine Zml ?_
       refine Zmm ?_
       refine Z7a ?_
       exact Zmn
      ·refine q1j (g:=66) 27 rfl Y17 (by decide) rfl rfl (fun G=>qc rfl (lk rfl rfl) rfl (by decide)) ?_
       refine q1j (g:=66) 28 rfl Y17 (by decide) rfl rfl (fun G=>qi (v:=.pl _) rfl (lk rfl rfl) rfl rfl rfl) ?_
       refine q1j (g:=66) 29 rfl Y17 (by decide) rfl rfl (fun G=>qc rfl (lk rfl rfl) rfl (by decide)) ?_
       refine q1j (g:=66) 30 rfl Y17 (by decide) rfl rfl (fun G=>qi (v:=.pl _) rfl (lk rfl rfl) rfl rfl rfl) ?_
       refine q7c (g:=66) 31 rfl Y17 (by decide) rfl rfl (fun _=>V2.call (qct _ _ _ (by omega) (by omega)) rfl) ?_
       refine q1h (g:=66) 32 rfl Y17 (by decide) rfl rfl (fun _=>q8e rfl) ?_
       refine Z7d ?_
       exact Zmn
  refine Z1 ?_
  refine qa rfl (fun hc=>?_) (fun hc=>?_)
  ·have hbad:q58 i k=false:=by simpa only [Bool.not_eq_true'] using hc
   refine Z1r ?_
   try dsimp only
   refine Z1 ?_
   rw [show q5c i=false by rw [q5c,q1z hlt hbad,Bool.false_and]]
   exact Zb
  ·have hgood:q58 i k=true:=by simpa only [Bool.not_eq_false'] using hc
   refine Z5k ?_
   refine qf ?_
   try dsimp only
   refine Z1 ?_
   refine ⟨k+1,by omega,⟨by omega,fun m hm=>?_⟩,by rw [hstep];exact Y6,Fit.loc hB rfl Y1 (hbel _)⟩
   rcases Nat.lt_or_eq_of_le (Nat.le_of_lt_succ hm) with h | h
   ·exact hno0 m h
   ·subst h;exact hgood
 ·have:k=i.jobs.length:=by simp at hc;omega
  subst this
  refine Z6e ?_
  refine Z7g ?_
  refine Z1 ?_
  rw [List.take_length,show q5c i=decide (qpf i.jobs=i.table.length) by rw [q5c,q2s hno,Bool.true_and];rfl]
  exact Zmo
set_option maxHeartbeats 0 in
theorem qnd (i:Inst) (H:qj) (hw:IW i):AC Tryz.prog 26 [.agg (q19 i)] H (Ret (.bool (q2c i)) H):=by
 have w1:=hw.graph
 have w2:=hw.jobs
 have w3:=hw.table
 have w4:=hw.health
 have w5:=hw.lease
 refine AC.body (N:=48) [.tmp 2] Tryz.func26 rfl rfl rfl (Nat.le_of_ble_eq_true rfl) fun B hB=>?_
 refine Zlt ?_
 refine Z35 ?_
 refine qn 3 (.bool (q2o i.graph i.health&&q27 i.graph i.lease&&tm i.til&&tm i.now&&q4g i.policy i.depth)) ?_ ?_
 ·refine Z52 ?_
  refine Z52 ?_
  refine Zf3 ?_
  refine Zh ?_
  refine qb rfl rfl (fun hg5=>?_) (fun hg5=>?_)
  ·refine Z97 ?_
   refine Zmp ?_
   refine Z3b ?_
   refine qb rfl rfl (fun hg12=>?_) (fun hg12=>?_)
   ·refine Z39 ?_
    refine Z5y ?_
    refine Z3b ?_
    refine qb rfl rfl (fun hg17=>?_) (fun hg17=>?_)
    ·refine Z39 ?_
     refine Z5y ?_
     refine Z3b ?_
     refine qb rfl rfl (fun hg22=>?_) (fun hg22=>?_)
     ·refine Z39 ?_
      refine Z39 ?_
      refine Zmq ?_
      refine Zn ?_
      exact Zmr
     ·refine Z5o ?_
      exact Zms
    ·refine Z99 ?_
     exact Zms
   ·refine Z3f ?_
    refine Z99 ?_
    exact Zmr
  ·refine Zq ?_
   refine Z3f ?_
   refine Z3f ?_
   refine Z99 ?_
   exact Zmr
 refine Z1 ?_
 refine qn 2 (.bool (q2c i)) ?_ ?_
 ·refine Z3r ?_
  refine qb rfl rfl (fun hg1=>?_) (fun hg1=>?_)
  ·refine Z68 ?_
   refine q5b rfl rfl (by decide) (V2.call (qd7 _ _ (by omega)) rfl) ?_
   refine Z3b ?_
   refine qb rfl rfl (fun hg6=>?_) (fun hg6=>?_)
   ·refine Z68 ?_
    refine Zmt ?_
    refine Z3b ?_
    refine qb rfl rfl (fun hg11=>?_) (fun hg11=>?_)
    ·refine Z5x ?_
     refine q5b rfl rfl (by decide) (V2.call (qra _ _ Y1d) rfl) ?_
     refine Zn ?_
     exact Zmu
    ·refine Zt ?_
     exact Zmu
   ·refine Z61 ?_
    refine Zs ?_
    exact Zmu
  ·refine Z63 ?_
   refine Zs ?_
   exact Zmu
 exact Z22
end Go.Av
namespace Go.Av
structure IR (w : Inst) : Prop where
 jobs:q24 w.jobs=true
 table:q1s w.table=true
 came:∀ j∈w.jobs,j.came≤w.now∧j.frm≤w.now
 run:∀ j∈w.jobs,j.state=2→∃ h∈w.table,h.id=j.id∧h.frm=j.frm∧h.to=q1p j.spec j.frm∧q27 w.graph h.things=true
 held:∀ h∈w.table,∃ j∈w.jobs,j.id=h.id∧j.state=2
 now:tm w.now=true
theorem IR.pj {w:Inst} (h:IR w):w.jobs.Pairwise (fun a b=>a.id<b.id):=q28 h.jobs
theorem IR.pt {w:Inst} (h:IR w):w.table.Pairwise (fun a b=>a.id<b.id):=(held_iff.1 h.table).2.2.1
theorem q64 {w:Inst} (h:IR w) {a b:Job} (ha:a∈w.jobs) (hb:b∈w.jobs) (e:a.id=b.id):a=b:=qjf (f:=Job.id) h.pj ha hb e
theorem qmg {w:Inst} (h:IR w) {a b:Held} (ha:a∈w.table) (hb:b∈w.table) (e:a.id=b.id):a=b:=qjf (f:=Held.id) h.pt ha hb e
theorem IR.of {w:Inst} (h:IR w) {x:Held} (hx:x∈w.table):∃ j∈w.jobs,j.id=x.id∧j.state=2∧x.frm=j.frm∧x.to=q1p j.spec j.frm∧q27 w.graph x.things=true:=by
 obtain ⟨j,hj,e,s⟩:=h.held x hx
 obtain ⟨y,hy,e2,r⟩:=h.run j hj s
 have:y=x:=qmg h hy hx (by rw [e2,e])
 subst this
 exact ⟨j,hj,e,s,r⟩
theorem qmh {α:Type} [DecidableEq α]:∀ (R T:List α),R.Nodup→(∀ x∈R,x∈T)→R.length≤T.length
 | [],T,_,_=>Nat.zero_le _
 | x :: R,T,hnd,hs=>by
  have hx:=hs x List.mem_cons_self
  rw [List.nodup_cons] at hnd
  have:=qmh R (T.erase x) hnd.2 fun z hz=>by
   have hzx:z≠x:=fun h=>hnd.1 (h▸hz)
   exact (List.mem_erase_of_ne hzx).2 (hs z (List.mem_cons_of_mem _ hz))
  have h2:=List.length_erase_of_mem hx
  have:0<T.length:=List.length_pos_of_mem hx
  simp only [List.length_cons]
  omega
def istatic (i:Inst):Bool:=q2o i.graph i.health&&q27 i.graph i.lease&&tm i.til&&tm i.now&&q4g i.policy i.depth
theorem iright_iff {i:Inst}:q2c i=true↔istatic i=true∧IR i∧∀ h∈i.table,i.now<h.to:=by
 constructor
 ·intro h
  have hj:=qc4 h
  have ht:=qb0 h
  have hn:=qqm h
  have hp:=(held_iff.1 ht).2.2.1
  refine ⟨by simp only [q2c,Bool.and_eq_true] at h;simp only [istatic,Bool.and_eq_true];exact h.1.1.1,⟨hj,ht,?_,?_,fun x hx=>?_,?_⟩,fun x hx=>?_⟩
  ·intro j hjm
   have htold:q5c i=true:=by simp only [q2c,Bool.and_eq_true] at h;exact h.2
   rw [q5c,Bool.and_eq_true] at htold
   obtain ⟨k,hk⟩:=List.mem_iff_getElem?.1 hjm
   have hb:=q4f htold.1 (List.getElem?_eq_some_iff.1 hk).1
   rw [q69 hk] at hb
   simp only [Bool.and_eq_true,decide_eq_true_eq] at hb
   exact hb.1
  ·intro j hjm hs
   have htold:q5c i=true:=by simp only [q2c,Bool.and_eq_true] at h;exact h.2
   rw [q5c,Bool.and_eq_true] at htold
   obtain ⟨k,hk⟩:=List.mem_iff_getElem?.1 hjm
   have hb:=q4f htold.1 (List.getElem?_eq_some_iff.1 hk).1
   rw [q69 hk] at hb
   simp only [Bool.and_eq_true,Bool.or_eq_true,decide_eq_true_eq,hs,ne_eq,not_true_eq_false,false_or] at hb
   obtain ⟨⟨h1,h2⟩,⟨⟨⟨⟨h3,h4⟩,h5⟩,h6⟩,h7⟩⟩:=hb
   obtain ⟨x,hx,hid⟩:=(qke ht).1 h3
   have he:=qa2 ht hx
   rw [hid] at he
   rw [he] at h4 h5 h7
   exact ⟨x,hx,hid,h4,h5,h7⟩
  ·obtain ⟨j,hjm,hs,he,_⟩:=hn x hx
   exact ⟨j,hjm,he,hs⟩
  ·simp only [q2c,Bool.and_eq_true] at h;exact h.1.1.1.1.2
  ·obtain ⟨j,hjm,hs,he,_,_,r,_⟩:=hn x hx
   exact r
 ·rintro ⟨hs,h,hlt⟩
  have hst:=hs
  simp only [istatic,Bool.and_eq_true] at hst
  have htold:q5c i=true:=by
   rw [q5c,Bool.and_eq_true,decide_eq_true_eq]
   refine ⟨q2s fun k hk=>?_,?_⟩
   ·have hj:i.jobs[k]?=some i.jobs[k]:=List.getElem?_eq_getElem hk
    have hm:i.jobs[k]∈i.jobs:=List.getElem_mem hk
    rw [q69 hj]
    have hc:=h.came _ hm
    rw [decide_eq_true hc.1,decide_eq_true hc.2,Bool.true_and,Bool.true_and]
    by_cases e:i.jobs[k].state=2
    ·obtain ⟨x,hx,h1,h2,h3,h4⟩:=h.run _ hm e
     have he:=qa2 h.table hx
     rw [h1] at he
     rw [he]
     simp only [Bool.or_eq_true,Bool.and_eq_true,decide_eq_true_eq,true_and]
     exact .inr ⟨⟨⟨h2,h3⟩,hlt x hx⟩,h4⟩
    ·rw [decide_eq_true e,Bool.true_or]
   ·have ndj:((i.jobs.filter fun j=>decide (j.state=2)).map (·.id)).Nodup:=(q8w (f:=Job.id) (h.pj.sublist (List.filter_sublist))).imp fun h=>by omega
    have ndt:(i.table.map (·.id)).Nodup:=(q8w (f:=Held.id) h.pt).imp fun h=>by omega
    have l1:=qmh _ (i.table.map (·.id)) ndj (fun n hn=>by
     obtain ⟨j,hjm,rfl⟩:=List.mem_map.1 hn
     rw [List.mem_filter,decide_eq_true_eq] at hjm
     obtain ⟨y,hy,hyid,r⟩:=h.run j hjm.1 hjm.2
     exact List.mem_map.2 ⟨y,hy,hyid⟩)
    have l2:=qmh _ ((i.jobs.filter fun j=>decide (j.state=2)).map (·.id)) ndt (fun n hn=>by
     obtain ⟨x,hx,rfl⟩:=List.mem_map.1 hn
     obtain ⟨j,hjm,he,hs2⟩:=h.held x hx
     exact List.mem_map.2 ⟨j,List.mem_filter.2 ⟨hjm,by rw [decide_eq_true_eq];exact hs2⟩,he⟩)
    rw [List.length_map,List.length_map] at l1 l2
    omega
  simp only [q2c,Bool.and_eq_true]
  exact ⟨⟨⟨hst,h.jobs⟩,h.table⟩,htold⟩
theorem qjb {s w:Int} (h:q3w s w=some 2):w=3∧s=0:=by
 unfold q3w at h
 repeat' split at h
 all_goals first | omega | (injection h with h;omega) | cases h
theorem qp0 {s w t:Int} (h:q3w s w=some t) (ht:t<2):s<2∧w<3:=by
 unfold q3w at h
 repeat' split at h
 all_goals first | omega | (injection h with h;omega) | cases h
theorem qdl (j:Job) (w now:Int):((jdo j w now).2≠0∧(jdo j w now).1=j)∨∃ s,qdv j w now=false∧q3w j.state w=some s∧jdo j w now=(q3f j s now,0):=by
 unfold jdo
 cases hb:qdv j w now with
 | true=>exact .inl ⟨by simp,by simp⟩
 | false =>
  cases hn:q3w j.state w with
  | none=>exact .inl ⟨by simp,by simp⟩
  | some s=>exact .inr ⟨s,rfl,rfl,by simp⟩
theorem qqv (w:Inst) (id:Int):(∃ j∈w.jobs,j.id=id)∨∀ j∈w.jobs,j.id≠id:=by
 by_cases h:∃ j∈w.jobs,j.id=id
 ·exact .inl h
 ·exact .inr fun j hj e=>h ⟨j,hj,e⟩
theorem q3h {w:Inst} (hr:q24 w.jobs=true) (id what at_:Int) :
  ((wdo w id what at_).1=w∧(wdo w id what at_).2≠0)∨∃ j∈w.jobs,j.id=id∧∃ s,qdv j what at_=false∧q3w j.state what=some s∧q1n w.jobs id what at_=(w.jobs.set (q11 w.jobs id) (q3f j s at_),0) ∧
   wdo w id what at_=({ w with jobs:=w.jobs.set (q11 w.jobs id) (q3f j s at_),table:=if q3z s then (q1a w.table id).1 else w.table },0):=by
 rcases qqv w id with ⟨j,hj,rfl⟩ | hn
 ·obtain ⟨h1,h2,h3,h4⟩:=q6h hr hj what at_
  rcases qdl j what at_ with ⟨e,e1⟩ | ⟨s,hb,hs,e⟩
  ·left
   unfold wdo
   rw [h1,if_pos e]
   exact ⟨rfl,e⟩
  ·right
   refine ⟨j,hj,rfl,s,hb,hs,by rw [h1,e],?_⟩
   have hm:q3f j s at_∈(q1n w.jobs j.id what at_).1:=(h3 _).2 (.inl (by rw [e]))
   have hg:=qad h2 hm
   rw [show (q3f j s at_).id=j.id from rfl] at hg
   unfold wdo
   rw [hg]
   rw [h1,e]
   simp only [ne_eq,not_true_eq_false,if_false]
   rw [show (q3f j s at_).state=s from rfl]
   split<;>rfl
 ·left
  have:=qpp (w:=what) (now:=at_) hr hn
  unfold wdo
  rw [if_pos this]
  exact ⟨rfl,this⟩
theorem qgd {w:Inst} (hr:q24 w.jobs=true) {j:Job} (hj:j∈w.jobs) {what at_ s:Int} (e:q1n w.jobs j.id what at_=(w.jobs.set (q11 w.jobs j.id) (q3f j s at_),0)) (hb:qdv j what at_=false) (hs:q3w j.state what=some s) :
  q24 (w.jobs.set (q11 w.jobs j.id) (q3f j s at_))=true∧∀ y,y∈w.jobs.set (q11 w.jobs j.id) (q3f j s at_)↔y=q3f j s at_∨(y∈w.jobs∧y.id≠j.id):=by
 obtain ⟨h1,h2,h3,h4⟩:=q6h hr hj what at_
 rw [e] at h2 h3
 have:(jdo j what at_).1=q3f j s at_:=by unfold jdo;rw [hb,hs];simp
 rw [this] at h3
 exact ⟨h2,h3⟩
theorem q9o {l:List Held} (hr:q1s l=true) (id:Int):q1s (q1a l id).1=true∧∀ y,y∈(q1a l id).1↔y∈l∧y.id≠id:=by
 by_cases h:∃ x∈l,x.id=id
 ·obtain ⟨x,hx,rfl⟩:=h
  have:=qhv hr hx
  exact ⟨this.1,this.2.1⟩
 ·have hn:∀ x∈l,x.id≠id:=fun x hx e=>h ⟨x,hx,e⟩
  rw [q6s hr hn]
  exact ⟨hr,fun y=>⟨fun hy=>⟨hy,hn y hy⟩,fun hy=>hy.1⟩⟩
theorem qvx {w:Inst} (h:IR w) {id what at_:Int} (h3:what≠3):IR (wdo w id what at_).1:=by
 rcases q3h h.jobs id what at_ with ⟨e,_⟩ | ⟨j,hj,rfl,s,hb,hs,e1,e⟩
 ·rw [e];exact h
 ·rw [e]
  obtain ⟨hr,hm⟩:=qgd h.jobs hj e1 hb hs
  have hs2:s≠2:=by rintro rfl;exact h3 (qjb hs).1
  obtain ⟨dr,dm⟩:=q9o h.table j.id
  have hin:=qbp (q53 ((jobs_iff.1 h.jobs).2.1 j hj)).1 hs
  refine ⟨hr,?_,?_,?_,?_,h.now⟩
  ·show q1s (if q3z s then (q1a w.table j.id).1 else w.table)=true
   split
   ·exact dr
   ·exact h.table
  ·intro y hy
   rcases (hm y).1 hy with rfl | ⟨hy,_⟩
   ·show j.came≤w.now∧(if s=2 then at_ else j.frm)≤w.now
    rw [if_neg hs2];exact h.came j hj
   ·exact h.came y hy
  ·intro y hy hst
   rcases (hm y).1 hy with rfl | ⟨hy,hne⟩
   ·exact absurd hst hs2
   ·obtain ⟨x,hx,e1,r⟩:=h.run y hy hst
    refine ⟨x,?_,e1,r⟩
    show x∈(if q3z s then (q1a w.table j.id).1 else w.table)
    split
    ·exact (dm x).2 ⟨hx,by rw [e1];exact hne⟩
    ·exact hx
  ·intro x hx
   have hx':x∈w.table∧(x.id≠j.id∨q3z s=false):=by
    have:x∈(if q3z s then (q1a w.table j.id).1 else w.table):=hx
    split at this
    ·exact ⟨((dm x).1 this).1,.inl ((dm x).1 this).2⟩
    ·exact ⟨this,.inr (by simp_all)⟩
   obtain ⟨hx,hor⟩:=hx'
   obtain ⟨y,hy,e5,e2⟩:=h.held x hx
   refine ⟨y,(hm y).2 (.inr ⟨hy,fun e3=>?_⟩),e5,e2⟩
   have:=q64 h hy hj e3
   subst this
   rcases hor with ho | ho
   ·exact ho e5.symm
   ·have:s<2:=by simp only [q3z,Bool.and_eq_false_iff,decide_eq_false_iff_not] at ho;omega
    have:=(qp0 hs this).1
    omega
end Go.Av
namespace Go.Av
open Go.Proofs
theorem qip (g:List Thing) (l:List Int) (H:qj) (hg:g.length≤1000000) (hl:l.length≤1000000):AC Tryz.prog 93 [.pl (g.map qq),.pl (l.map q3u)] H (Ret (.bool (q27 g l)) H):=by
 refine AC.body (N:=23) [.tmp 4] Tryz.func93 rfl rfl rfl (Nat.le_of_ble_eq_true rfl) fun B hB=>?_
 refine Z1r ?_
 by_cases h0:l.length=0
 ·refine Z1 ?_
  refine qn 4 (.bool (q27 g l)) ?_ ?_
  ·refine Z4n ?_
   refine Zhl ?_
   refine Zh ?_
   refine qb rfl rfl (fun hg2=>?_) (fun hg2=>?_)
   ·refine Zeu ?_
    refine Z28 ?_
    refine qb rfl rfl (fun hg6=>?_) (fun hg6=>?_)
    ·refine Z5f ?_
     refine Z3j ?_
     refine Z3k ?_
     refine Z29 ?_
     refine Zn ?_
     exact Zlp
    ·exfalso;have:=List.eq_nil_of_length_eq_zero h0;subst this;simp at hg6
   ·refine Z2c ?_
    refine Z2g ?_
    refine Zep ?_
    refine Z5t ?_
    exact Zlp
  exact Z22
 ·obtain ⟨x,hx,hxl⟩:=qo (l:=l) (k:=l.length-1) (by omega)
  have hr:=qh q3u hx
  have hd:l.getD (l.length-1) 0=x:=by rw [List.getD_eq_getElem?_getD,hx];rfl
  have hs:q27 g l=(sok l&&decide (x<(g.length:Int))):=by rw [q27,hd,decide_eq_false h0,Bool.false_or]
  rw [hs]
  refine Z1 ?_
  refine qn 4 (.bool (sok l&&decide (x<(g.length:Int)))) ?_ ?_
  ·refine Z4n ?_
   refine Zhl ?_
   refine Zh ?_
   refine qb rfl rfl (fun hg2=>?_) (fun hg2=>?_)
   ·refine Zeu ?_
    refine Z28 ?_
    refine qb rfl rfl (fun hg6=>?_) (fun hg6=>?_)
    ·refine Z5f ?_
     refine Z3j ?_
     refine Z3k ?_
     refine Z29 ?_
     refine Zn ?_
     exact Zlq
    ·refine Zc3 ?_
     refine Zcw ?_
     refine Zlr ?_
     refine Zh8 ?_
     refine Zha ?_
     refine Zcw ?_
     refine Zk ?_
     refine Z2d ?_
     refine Zn ?_
     exact Zlq
   ·refine Z2c ?_
    refine Z2g ?_
    refine Zep ?_
    refine Z5t ?_
    exact Zlq
  exact Z22
structure TagsW (i : Inst) : Prop where
 graph:TW i.graph
 jobs:QT i.jobs
theorem qi5 (i:Inst):q2c i=(istatic i&&(q24 i.jobs&&q1s i.table)&&q5c i):=by
 rw [q2c,istatic]
 simp only [Bool.and_assoc]
theorem qts {i:Inst} {k:Nat} {j:Job} (hj:i.jobs[k]?=some j) (hr:q1s i.table=true):q58 i k=(decide (j.came≤i.now)&&decide (j.frm≤i.now)&&(decide (j.state≠2) ||
 (q23 i.table j.id&&decide ((q4q i.table (qw i.table j.id)).frm=j.frm)&&decide ((q4q i.table (qw i.table j.id)).to=q1p j.spec j.frm) &&
  decide (i.now<(q4q i.table (qw i.table j.id)).to)&&decide ((q4q i.table (qw i.table j.id)).things.getD ((q4q i.table (qw i.table j.id)).things.length-1) 0<(i.graph.length:Int))))):=by
 rw [← quk hr,qz8,q12 hj]
set_option maxHeartbeats 0 in
theorem qkm (i:Inst) (H:qj) (hw:IW i) (ht:TagsW i):AC Tryz.prog 45 [.agg (q19 i)] H (Ret (.bool (q2c i)) H):=by
 have w1:=hw.graph
 have w2:=hw.jobs
 have w3:=hw.table
 have w4:=hw.health
 have w5:=hw.lease
 have w6:=w3.1
 have t1:=ht.graph
 have t2:=ht.jobs
 rw [qi5]
 refine AC.body (N:=155) [.tmp 2] Tryz.func45 rfl rfl rfl (Nat.le_of_ble_eq_true rfl) fun B hB=>?_
 refine Zlt ?_
 refine Z35 ?_
 refine qn 61 (.bool (!istatic i)) ?_ ?_
 ·refine Z52 ?_
  refine Z52 ?_
  refine Zmv ?_
  refine Z26 ?_
  refine qb rfl rfl (fun hg6=>?_) (fun hg6=>?_)
  ·refine Z5f ?_
   refine Z7z ?_
   refine Z3y ?_
   refine Z3x ?_
   refine Z40 ?_
   exact Zmw
  ·refine Z97 ?_
   refine q5b rfl rfl (by decide) (V2.call (qip _ _ _ (by omega) (by omega)) rfl) ?_
   refine Z66 ?_
   refine qb rfl rfl (fun hg14=>?_) (fun hg14=>?_)
   ·refine Z3y ?_
    refine Z3x ?_
    refine Z40 ?_
    exact Zmw
   ·refine Z42 ?_
    refine qb rfl rfl (fun hg19=>?_) (fun hg19=>?_)
    ·refine Z3y ?_
     refine Z3x ?_
     refine Z3z ?_
     exact Zmw
    ·refine Z3p ?_
     refine qb rfl rfl (fun hg24=>?_) (fun hg24=>?_)
     ·refine Z3y ?_
      refine Z40 ?_
      exact Zmw
     ·refine Z42 ?_
      refine qb rfl rfl (fun hg29=>?_) (fun hg29=>?_)
      ·refine Z3y ?_
       refine Z3z ?_
       exact Zmw
      ·refine Z3p ?_
       refine qb rfl rfl (fun hg34=>?_) (fun hg34=>?_)
       ·refine Z3x ?_
        refine Z40 ?_
        exact Zmw
       ·refine Z42 ?_
        refine qb rfl rfl (fun hg39=>?_) (fun hg39=>?_)
        ·refine Z3x ?_
         refine Z3z ?_
         exact Zmw
        ·refine Z3p ?_
         refine qb rfl rfl (fun hg44=>?_) (fun hg44=>?_)
         ·refine Z40 ?_
          exact Zmw
         ·refine Z42 ?_
          refine qb rfl rfl (fun hg49=>?_) (fun hg49=>?_)
          ·refine Z3z ?_
           exact Zmw
          ·refine Z39 ?_
           refine Z43 ?_
           exact qf (Out.mk (by (refine congrArg AV.bool ?_;(clear hB;simp only [istatic,tm,q4g];generalize q2o i.graph i.health=p at *;generalize q27 i.graph i.lease=q at *;cases p<;>cases q<;>simp only [Bool.not_true,Bool.not_false,Bool.true_and,Bool.false_and,Bool.true_or,Bool.false_or] at *<;>first | (simp_all;done) | (refine Bool.eq_iff_iff.mpr ?_;simp only [Bool.and_eq_true,Bool.or_eq_true,Bool.not_eq_true',decide_eq_true_eq,decide_eq_false_iff_not,Bool.false_eq_true,Bool.and_eq_false_iff,Bool.or_eq_false_iff,false_iff,true_iff,iff_true,iff_false,not_true,not_false_iff] at *;omega)))) Yb)
 refine Z1 ?_
 refine qa rfl (fun hc=>?_) (fun hc=>?_)
 ·have hno:istatic i=false:=by simpa only [Bool.not_eq_true'] using hc
  rw [hno,Bool.false_and,Bool.false_and]
  exact Z5m
 have hst:istatic i=true:=by simpa only [Bool.not_eq_false'] using hc
 rw [hst,Bool.true_and]
 clear hc
 refine Z1 ?_
 refine qn 71 (.bool (!(q24 i.jobs&&q1s i.table))) ?_ ?_
 ·refine Z52 ?_
  refine Zmx ?_
  refine Z26 ?_
  refine qb rfl rfl (fun hg4=>?_) (fun hg4=>?_)
  ·refine Z5g ?_
   exact Zgu
  ·refine Z68 ?_
   refine Zmy ?_
   refine Z6c ?_
   exact Zgu
 refine Z1 ?_
 refine qa rfl (fun hc=>?_) (fun hc=>?_)
 ·have hno:(q24 i.jobs&&q1s i.table)=false:=by simpa only [Bool.not_eq_true'] using hc
  rw [hno,Bool.false_and]
  exact Z5m
 have hjh:(q24 i.jobs&&q1s i.table)=true:=by simpa only [Bool.not_eq_false'] using hc
 rw [hjh,Bool.true_and]
 rw [Bool.and_eq_true] at hjh
 obtain ⟨hjr,hhr⟩:=hjh
 have hps:=q4a hhr
 clear hc
 refine Zhd ?_
 refine qm (G:=Nat) (fun k=>k≤i.jobs.length∧∀ m,m<k→q58 i m=true) (fun k=>[(1,.pt (Lid H.length 0) 0 0 0),(3,.int .i64 (qpf (i.jobs.take k):Int)),(4,.int .i64 (k:Int))]) (fun _=>H++[⟨0,9,[q19 i]⟩]) (fun k=>i.jobs.length-k) 0 ⟨Nat.zero_le _,fun m hm=>by omega⟩ Y6 (Fit.refl _ _) ?_
 rintro k ⟨hk,hno⟩
 have hbel:∀ (b:Nat),∀ o∈[AObj.mk 0 9 [q19 i]],∀ r∈o.rows,AV.bels b r=true:=by
  intro b o ho r hr
  simp only [List.mem_singleton] at ho
  subst ho
  simp only [List.mem_singleton] at hr
  subst hr
  rfl
 refine Z6e ?_
 refine Z6f ?_
 refine qa rfl (fun hc=>?_) (fun hc=>?_)
 ·have hlt:k<i.jobs.length:=by simpa using hc
  obtain ⟨j,hj,hjl⟩:=qo hlt
  have hr:=qh q1d hj
  have hB2:=qts hj hhr
  have hstep:=qin hj
  have hrl:=qq9 (i.jobs.take k)
  rw [List.length_take] at hrl
  have hno0:=hno
  have hat:=qa1 hps j.id
  have hsr:q2m j.spec=true:=by
   have:=(jobs_iff.1 hjr).2.1 j hjl
   simp only [q1q,Bool.and_eq_true] at this
   exact this.1.1.1.2
  rw [show q1p j.spec j.frm=qdu j.frm j.spec.long by rw [q1p,if_pos hsr]] at hB2
  clear hno hc
  refine Z53 ?_
  refine Z8 ?_
  refine Zcy ?_
  refine Zlv ?_
  clear hr
  refine Z1 ?_
  refine qn 95 (.bool (!(decide (j.came≤i.now)&&decide (j.frm≤i.now)))) ?_ ?_
  ·refine Z7h ?_
   refine Zf9 ?_
   refine qb rfl rfl (fun hg5=>?_) (fun hg5=>?_)
   ·refine Z3j ?_
    refine Z3z ?_
    exact qf (Out.mk (by (refine congrArg AV.bool ?_;(clear hB hB2 hstep hno0 hrl hbel hat;(simp_all;done)))) Yb)
   ·refine Z39 ?_
    refine Z39 ?_
    refine Z43 ?_
    exact qf (Out.mk (by (refine congrArg AV.bool ?_;(clear hB hB2 hstep hno0 hrl hbel hat;grind))) Yb)
  refine Z1 ?_
  refine qa rfl (fun hc=>?_) (fun hc=>?_)
  ·have hbad:q58 i k=false:=by rw [Bool.not_eq_true'] at hc;rw [hB2,hc,Bool.false_and]
   refine Zf ?_
   rw [show q5c i=false by rw [q5c,q1z hlt hbad,Bool.false_and]]
   exact Zb
  have h1:(decide (j.came≤i.now)&&decide (j.frm≤i.now))=true:=by simpa only [Bool.not_eq_false'] using hc
  rw [h1,Bool.true_and] at hB2
  clear hc
  refine Z4i ?_
  refine Zjw ?_
  refine qa rfl (fun hc=>?_) (fun hc=>?_)
  ·have h2:j.state=2:=by simpa using hc
   rw [if_pos (by simpa using h2)] at hstep
   rw [show decide (j.state≠2)=false by simp [h2],Bool.false_or] at hB2
   clear hc
   refine Z12 ?_
   refine Zlw ?_
   refine Z4 ?_
   refine Z53 ?_
   refine Z37 ?_
   refine q13 (qga _ _ _ (by omega)) rfl (by decide) ?_
   refine Z4g ?_
   rw [hat]
   by_cases hh:q23 i.table j.id=true
   ·rw [if_pos hh]
    rw [hh,Bool.true_and] at hB2
    have hpos:qw i.table j.id<i.table.length:=by rw [q23,Bool.and_eq_true,decide_eq_true_eq] at hh;exact hh.1
    obtain ⟨h,hx,hxl⟩:=qo hpos
    have hrh:=qh qg hx
    rw [q5j hx] at hB2
    have hpn:=qlq ((held_iff.1 hhr).2.1 h hxl)
    have hlt2:=w3.2 h hxl
    obtain ⟨x,hy,_⟩:=qo (l:=h.things) (k:=h.things.length-1) (by omega)
    have hrx:=qh eI hy
    rw [show h.things.getD (h.things.length-1) 0=x by rw [List.getD_eq_getElem?_getD,hy];rfl] at hB2
    clear hat hh hj hjl hps hx hxl
    refine Z1p ?_
    refine qa rfl (fun hc=>?_) (fun hc=>?_)
    ·exfalso;simp at hc;omega
    clear hc
    refine Z53 ?_
    refine Z8 ?_
    refine ao1 (by decide) (qe rfl rfl hrh rfl) ?_
    refine ao1 (by decide) (q3d rfl hrh rfl) ?_
    refine Zi8 ?_
    refine Zen ?_
    clear hrh hy
    refine Z1 ?_
    refine q1l 149 (.bool (!q58 i k)) ?_ ?_
    ·refine Zly ?_
     refine Zd6 ?_
     refine Zmz ?_
     refine aqp 3 rfl Y17 (by decide) (fun G=>qi (v:=.int _ _) rfl (lk rfl rfl) rfl rfl rfl) ?_
     refine aq0 4 rfl Y17 (by decide) (fun _=>qpe rfl rfl) ?_
     refine Zbg ?_
     refine qp (g:=118) rfl (fun hg5=>?_) (fun hg5=>?_)
     ·refine qr (g:=118) 6 rfl Y17 (by decide) rfl rfl rfl ?_
      refine qr (g:=118) 7 rfl Y17 (by decide) rfl rfl rfl ?_
      refine qr (g:=118) 8 rfl Y17 (by decide) rfl rfl rfl ?_
      refine qr (g:=118) 9 rfl Y17 (by decide) rfl rfl rfl ?_
      refine qr (g:=118) 10 rfl Y17 (by decide) rfl rfl rfl ?_
      refine qr (g:=118) 11 rfl Y17 (by decide) rfl rfl rfl ?_
      refine qr (g:=118) 12 rfl Y17 (by decide) rfl rfl rfl ?_
      refine qr (g:=118) 13 rfl Y17 (by decide) rfl rfl rfl ?_
      refine qr (g:=118) 14 rfl Y17 (by decide) rfl rfl rfl ?_
      refine Z6s ?_
      refine Z6t ?_
      refine Zn0 ?_
      refine Zn1 ?_
      refine Zn2 ?_
      refine Zn3 ?_
      refine Zn4 ?_
      refine Zn5 ?_
      refine Zn6 ?_
      refine Zn7 ?_
      refine Zn8 ?_
      refine Zn9 ?_
      refine Zna ?_
      refine Znb ?_
      refine Znc ?_
      refine Znd ?_
      refine Zne ?_
      refine Znf ?_
      refine Zng ?_
      refine Znh ?_
      refine Zni ?_
      refine Ze3 ?_
      exact Znj
     ·refine q1j (g:=118) 6 rfl Y17 (by decide) rfl rfl (fun G=>qc rfl (lk rfl rfl) rfl (by decide)) ?_
      refine q1j (g:=118) 7 rfl Y17 (by decide) rfl rfl (fun G=>qi (v:=.int _ _) rfl (lk rfl rfl) rfl rfl rfl) ?_
      refine q1j (g:=118) 8 rfl Y17 (by decide) rfl rfl (fun G=>qc rfl (lk rfl rfl) rfl (by decide)) ?_
      refine q1j (g:=118) 9 rfl Y17 (by decide) rfl rfl (fun G=>qi (v:=.int _ _) rfl (lk rfl rfl) rfl rfl rfl) ?_
      refine q1j (g:=118) 10 rfl Y17 (by decide) rfl rfl (fun G=>qc rfl (lk rfl rfl) rfl (by decide)) ?_
      refine q1j (g:=118) 11 rfl Y17 (by decide) rfl rfl (fun G=>qc rfl (lk rfl rfl) rfl (by decide)) ?_
      refine q1j (g:=118) 12 rfl Y17 (by decide) rfl rfl (fun G=>qi (v:=.int _ _) rfl (lk rfl rfl) rfl rfl rfl) ?_
      refine q7c (g:=118) 13 rfl Y17 (by decide) rfl rfl (fun _=>V2.call (qa4 _ _ _) rfl) ?_
      refine q1h (g:=118) 14 rfl Y17 (by decide) rfl rfl (fun _=>qpe rfl rfl) ?_
      refine Z7c ?_
      refine Z6t ?_
      refine qp (g:=129) rfl (fun hg16=>?_) (fun hg16=>?_)
      ·refine Zn0 ?_
       refine Zn1 ?_
       refine Zn2 ?_
       refine Zn3 ?_
       refine Zn4 ?_
       refine Zn5 ?_
       refine Zn6 ?_
       refine Zn7 ?_
       refine Zn8 ?_
       refine Zn9 ?_
       refine Zna ?_
       refine Znb ?_
       refine Znc ?_
       refine Znd ?_
       refine Zne ?_
       refine Znf ?_
       refine Zng ?_
       refine Znh ?_
       refine Zni ?_
       refine Ze3 ?_
       exact Znj
      ·refine q1j (g:=129) 17 rfl Y17 (by decide) rfl rfl (fun G=>qc rfl (lk rfl rfl) rfl (by decide)) ?_
       refine q1j (g:=129) 18 rfl Y17 (by decide) rfl rfl (fun G=>qi (v:=.int _ _) rfl (lk rfl rfl) rfl rfl rfl) ?_
       refine q1j (g:=129) 19 rfl Y17 (by decide) rfl rfl (fun G=>qc rfl (lk rfl rfl) rfl (by decide)) ?_
       refine q1j (g:=129) 20 rfl Y17 (by decide) rfl rfl (fun G=>qi (v:=.int _ _) rfl (lk rfl rfl) rfl rfl rfl) ?_
       refine q1h (g:=129) 21 rfl Y17 (by decide) rfl rfl (fun _=>qqc rfl rfl) ?_
       refine aq0 22 rfl Y17 (by decide) (fun _=>q17 (v:=.bool _) rfl rfl) ?_
       refine Zn6 ?_
       refine qp (g:=136) rfl (fun hg23=>?_) (fun hg23=>?_)
       ·refine Zn7 ?_
        refine Zn8 ?_
        refine Zn9 ?_
        refine Zna ?_
        refine Znb ?_
        refine Znc ?_
        refine Znd ?_
        refine Zne ?_
        refine Znf ?_
        refine Zng ?_
        refine Znh ?_
        refine Zni ?_
        refine Ze3 ?_
        exact Znj
       ·refine q1j (g:=136) 24 rfl Y17 (by decide) rfl rfl (fun G=>qc rfl (lk rfl rfl) rfl (by decide)) ?_
        refine q1j (g:=136) 25 rfl Y17 (by decide) rfl rfl (fun G=>qi (v:=.pl _) rfl (lk rfl rfl) rfl rfl rfl) ?_
        refine q1j (g:=136) 26 rfl Y17 (by decide) rfl rfl (fun G=>qc rfl (lk rfl rfl) rfl (by decide)) ?_
        refine q1j (g:=136) 27 rfl Y17 (by decide) rfl rfl (fun G=>qi (v:=.pl _) rfl (lk rfl rfl) rfl rfl rfl) ?_
        refine q1j (g:=136) 28 rfl Y17 (by decide) rfl rfl (fun G=>qfg rfl) ?_
        refine q1h (g:=136) 29 rfl Y17 (by decide) rfl rfl (fun _=>q5p (r:=((h.things.length-1:Nat):Int)) rfl rfl (by rw [List.length_map,show (h.things.length:Int)-1=((h.things.length-1:Nat):Int) by omega];exact q1b (by omega) (by omega))) ?_
        refine q1j (g:=136) 30 rfl Y17 (by decide) rfl rfl (fun G=>qe rfl rfl hrx rfl) ?_
        refine q1j (g:=136) 31 rfl Y17 (by decide) rfl rfl (fun G=>qz (v:=.int _ _) rfl hrx rfl) ?_
        refine q1j (g:=136) 32 rfl Y17 (by decide) rfl rfl (fun G=>qc rfl (lk rfl rfl) rfl (by decide)) ?_
        refine q1j (g:=136) 33 rfl Y17 (by decide) rfl rfl (fun G=>qi (v:=.pl _) rfl (lk rfl rfl) rfl rfl rfl) ?_
        refine q1j (g:=136) 34 rfl Y17 (by decide) rfl rfl (fun G=>qfg rfl) ?_
        refine q1h (g:=136) 35 rfl Y17 (by decide) rfl rfl (fun _=>qy2 rfl rfl) ?_
        refine Zee ?_
        exact q1i Y17 Yv (Out.mk (by (refine congrArg AV.bool ?_;(rw [hB2];clear hB hB2 hno0 hstep hbel hrl hrx hpn;grind))) Yb)
    refine Z1 ?_
    refine qa rfl (fun hc=>?_) (fun hc=>?_)
    ·have hbad:q58 i k=false:=by simpa only [Bool.not_eq_true'] using hc
     refine Zf ?_
     rw [show q5c i=false by rw [q5c,q1z hlt hbad,Bool.false_and]]
     exact Zb
    ·have hgood:q58 i k=true:=by simpa only [Bool.not_eq_false'] using hc
     refine Z2l ?_
     refine ⟨k+1,by omega,⟨by omega,fun m hm=>?_⟩,by rw [hstep];exact Y6,Fit.loc hB rfl Y1 (hbel _)⟩
     rcases Nat.lt_or_eq_of_le (Nat.le_of_lt_succ hm) with h | h
     ·exact hno0 m h
     ·subst h;exact hgood
   ·have hh':q23 i.table j.id=false:=by simpa using hh
    rw [if_neg hh]
    have hbad:q58 i k=false:=by rw [hB2,hh'];simp
    refine Z1p ?_
    refine qa rfl (fun hc=>?_) (fun hc=>?_)
    ·refine Zf ?_
     rw [show q5c i=false by rw [q5c,q1z hlt hbad,Bool.false_and]]
     exact Zb
    ·exfalso;simp at hc
  ·have h2:j.state≠2:=by simpa using hc
   rw [decide_eq_true h2,Bool.true_or] at hB2
   rw [if_neg (by simpa using h2),Nat.add_zero] at hstep
   refine Z2l ?_
   refine ⟨k+1,by omega,⟨by omega,fun m hm=>?_⟩,by rw [hstep];exact Y6,Fit.loc hB rfl Y1 (hbel _)⟩
   rcases Nat.lt_or_eq_of_le (Nat.le_of_lt_succ hm) with h | h
   ·exact hno0 m h
   ·subst h;exact hB2
 ·have:k=i.jobs.length:=by simp at hc;omega
  subst this
  refine Z6e ?_
  refine Z7g ?_
  refine Z1 ?_
  rw [List.take_length,show q5c i=decide (qpf i.jobs=i.table.length) by rw [q5c,q2s hno,Bool.true_and];rfl]
  exact Zmo
theorem q9d (w:Inst) (id:Nat) (H:qj) (hw:IW w) (hid:H[id]?=some ⟨0,9,[q19 w]⟩):ACT Tryz.prog KD 67 [.pt id 0 0 0] H (Ret (.pl ((q31 w).map q3u)) H):=by
 have hF:=hid
 have w1:=hw.graph
 have w4:=hw.health
 have w5:=hw.lease
 have hbl:=q9g w.graph w.health 0
 refine ACT.body (N:=20) [.tmp 2] Tryz.func67 rfl rfl rfl (Nat.le_of_ble_eq_true rfl) fun B hB=>?_
 refine Z4l ?_
 refine Z9 ?_
 refine Zd4 ?_
 refine Znk ?_
 refine Znl ?_
 refine Znm ?_
 refine Znn ?_
 refine Zno ?_
 refine Znp ?_
 refine Znq ?_
 refine Znr ?_
 refine Zns ?_
 refine Znt ?_
 refine Znu ?_
 refine Znv ?_
 refine Znw ?_
 refine Znx ?_
 refine Zny ?_
 refine q48 15 rfl Y17 (by decide) (fun _=>V2.call (qg2 _ _ _ (by omega) (by omega)) rfl) ?_
 refine q48 16 rfl Y17 (by decide) (fun _=>V2.callT (qmc w.lease (q21 w.graph w.health 0) (by omega) (by omega) _) rfl rfl) ?_
 refine Znz ?_
 refine Zo0 ?_
 exact Z22
set_option maxHeartbeats 0 in
theorem qj9 (i:Inst) (H:qj) (hw:IW i):ACT Tryz.prog KD 24 [.agg (q19 i)] H (Ret (.pl ((q9h i).map q3u)) H):=by
 have w3:=hw.table
 have hul:=qfj i
 have hbl:=qci i.table i.now (qdu i.now 1)
 refine ACT.body (N:=30) [.tmp 2] Tryz.func24 rfl rfl rfl (Nat.le_of_ble_eq_true rfl) fun B hB=>?_
 refine Zlt ?_
 refine Zav ?_
 refine Z4c ?_
 refine Zo1 ?_
 refine Z4d ?_
 refine qa rfl (fun hc=>?_) (fun hc=>?_)
 ·have hno:q2c i=false:=by simpa only [Bool.not_eq_true'] using hc
  rw [show q9h i=[] by rw [q9h,hno];rfl]
  refine Z4t ?_
  exact q33 (q4d hB (q3t rfl .nil) rfl rfl)
 have hyes:q2c i=true:=by simpa only [Bool.not_eq_false'] using hc
 rw [show q9h i=q8c (q31 i) (q3c i.table i.now (qdu i.now 1)) by rw [q9h,hyes];rfl]
 refine Z4c ?_
 refine Zo6 ?_
 refine Zo7 ?_
 refine Znk ?_
 refine qyj 1 rfl Y17 (by decide) (fun G=>V2.callT (q9d i _ _ hw (lk rfl rfl)) rfl rfl) ?_
 refine Zo8 ?_
 refine aqp 3 rfl Y17 (by decide) (fun G=>q1g rfl (lk rfl rfl) rfl) ?_
 refine Zo9 ?_
 refine Zoa ?_
 refine Zob ?_
 refine Zoc ?_
 refine Zod ?_
 refine Zoe ?_
 refine Zof ?_
 refine Zog ?_
 refine aq0 12 rfl Y17 (by decide) (fun _=>qd (v:=.pt _ _ _ _) rfl) ?_
 refine aqp 13 rfl Y17 (by decide) (fun G=>q1g rfl (lk rfl rfl) rfl) ?_
 refine aqp 14 rfl Y17 (by decide) (fun G=>qc rfl (lk rfl rfl) rfl (by decide)) ?_
 refine aqp 15 rfl Y17 (by decide) (fun G=>qc rfl (lk rfl rfl) rfl (by decide)) ?_
 refine aqp 16 rfl Y17 (by decide) (fun G=>qi (v:=.int _ _) rfl (lk rfl rfl) rfl rfl rfl) ?_
 refine q48 17 rfl Y17 (by decide) (fun _=>V2.call (qhx _ _ _) rfl) ?_
 refine q48 18 rfl Y17 (by decide) (fun _=>V2.callT (qt3 i.table i.now (qdu i.now 1) _ w3) rfl rfl) ?_
 refine q48 19 rfl Y17 (by decide) (fun _=>V2.callT (qme (q31 i) (q3c i.table i.now (qdu i.now 1)) (by omega) (by omega) _) rfl rfl) ?_
 refine Zoh ?_
 refine Zo0 ?_
 exact Z22
set_option maxHeartbeats 0 in
theorem qlk (g:List Thing) (p d:Int) (H:qj) (hl:g.length≤1000000):AC Tryz.prog 18 [.pl (g.map qq),.int .i64 p,.int .i64 d] H (Ret (.tup [.agg (q19 (q92 g p d).1),.int .i64 (q92 g p d).2]) H):=by
 refine AC.body (N:=27) [.cell 6 27,.tmp 7] Tryz.func18 rfl rfl rfl (Nat.le_of_ble_eq_true rfl) fun B hB=>?_
 refine Z2 ?_
 refine Zoi ?_
 refine Z4 ?_
 refine Z9e ?_
 refine Z1 ?_
 refine qn 16 (.bool (!q1o g||!q4g p d)) ?_ ?_
 ·refine Z4n ?_
  refine Zoj ?_
  refine Z26 ?_
  refine qb rfl rfl (fun hg3=>?_) (fun hg3=>?_)
  ·refine Z5g ?_
   exact Zgu
  ·refine Zj ?_
   refine Zj ?_
   refine Zmq ?_
   refine Z6c ?_
   exact Zgu
 refine Z1 ?_
 refine qa rfl (fun hc=>?_) (fun hc=>?_)
 ·have hno:q92 g p d=(qqn,1):=by rw [q92,if_pos hc]
  rw [hno]
  refine Z2 ?_
  refine Zo2 ?_
  refine Zol ?_
  exact Zi3
 have hyes:q92 g p d=(⟨g,List.replicate g.length 0,q45 g 0,4611686018427387904,[],[],0,p,d⟩,0):=by rw [q92,if_neg (by simp [hc])]
 have hg:q1o g=true:=by cases h:q1o g<;>simp_all
 rw [hyes]
 refine Z4o ?_
 refine q13 (q93 _ _ (by omega)) rfl (by decide) ?_
 refine Z4n ?_
 refine q13 (qpc _ _ (by omega)) rfl (by decide) ?_
 refine Z4n ?_
 refine q13 (qdg _ _ _ (by omega)) rfl (by decide) ?_
 refine Z30 ?_
 refine Zo2 ?_
 refine Zol ?_
 refine Zi1 ?_
 rw [if_pos hg]
 exact Zi2
end Go.Av
namespace Go.Av
def JW (l:List Job):Prop:=l.length≤1000000∧∀ j∈l,j.needs.length≤1000000
end Go.Av
namespace Go.Av
open Go.Proofs
theorem qj8 (g:List Thing) (h:List Int) (H:qj) (hl:g.length≤1000000) (hh:h.length≤1000000):AC Tryz.prog 27 [.pl (g.map qq),.pl (h.map eI)] H (Ret (.pl ((q21 g h 1).map q3u)) H):=by
 refine AC.body (N:=8) [.tmp 4] Tryz.func27 rfl rfl rfl (Nat.le_of_ble_eq_true rfl) fun B hB=>?_
 refine Zbc ?_
 refine Zf6 ?_
 refine Z4w ?_
 refine Z9 ?_
 exact Zb
theorem qjd (j:Job) (H:qj) (hw:j.needs.length≤1000000):AC Tryz.prog 83 [.agg (q1d j)] H (Ret (.agg (q1d j)) H):=by
 refine AC.body (N:=8) [.cell 2 63] Tryz.func83 rfl rfl rfl (Nat.le_of_ble_eq_true rfl) fun B hB=>?_
 refine Z50 ?_
 refine Z7t ?_
 refine qf ?_
 refine Zhv ?_
 refine Z53 ?_
 refine Z7v ?_
 refine Z36 ?_
 refine Z7w ?_
 refine Z7y ?_
 refine Z86 ?_
 refine qf ?_
 refine Z89 ?_
 exact Zhx
theorem qcz (l:List Job) (id:Int) (H:qj) (hw:JW l):AC Tryz.prog 30 [.pl (l.map q1d),.int .i64 id] H (Ret (.tup [.agg (q1d (q36 l id).1),.bool (q36 l id).2]) H):=by
 have hw1:=hw.1
 refine AC.body (N:=26) [.cell 4 63,.tmp 5] Tryz.func30 rfl rfl rfl (Nat.le_of_ble_eq_true rfl) fun B hB=>?_
 refine Z2 ?_
 refine Z7t ?_
 refine Z1q ?_
 refine Z9e ?_
 refine Z4o ?_
 refine Zom ?_
 refine Z4d ?_
 refine qa rfl (fun hc=>?_) (fun hc=>?_)
 ·have hno:q24 l=false:=by simpa only [Bool.not_eq_true'] using hc
  rw [show q36 l id=(qua,false) by rw [q36,hno];rfl]
  refine Z2 ?_
  refine Zon ?_
  refine Z85 ?_
  refine Z1q ?_
  exact Zi3
 have hyes:q24 l=true:=by simpa only [Bool.not_eq_false'] using hc
 have hs:=q28 hyes
 refine Zbe ?_
 refine Zjt ?_
 refine Zi5 ?_
 refine qa rfl (fun hc=>?_) (fun hc=>?_)
 ·have hno:q29 l id=false:=by simpa only [Bool.not_eq_true'] using hc
  rw [show q36 l id=(qua,false) by rw [q36,hyes,hno];rfl]
  refine Z2 ?_
  refine Zon ?_
  refine Z85 ?_
  refine Z1q ?_
  exact Zi3
 have hhit:q29 l id=true:=by simpa only [Bool.not_eq_false'] using hc
 have hn:q11 l id<l.length:=by simp only [q29,Bool.and_eq_true,decide_eq_true_eq] at hhit;exact hhit.1
 obtain ⟨x,hx,hxl⟩:=qo hn
 have hr:=qh q1d hx
 have hxw:=hw.2 x hxl
 rw [show q36 l id=(x,true) by rw [q36,hyes,hhit,q12 hx];rfl]
 refine Zbe ?_
 refine Zcy ?_
 refine Zoo ?_
 refine Z85 ?_
 refine Z1q ?_
 refine Z9n ?_
 exact Zi2
theorem qk7 (l:List Job) (H:qj) (hw:JW l):AC Tryz.prog 147 [.pl (l.map q1d)] H (Ret (.sl (Lid H.length 0) l.length 0 l.length l.length) (H++[⟨l.length,13,l.map q1d⟩])):=by
 have hl:=hw.1
 refine AC.body (N:=19) [.tmp 2] Tryz.func147 rfl rfl rfl (Nat.le_of_ble_eq_true rfl) fun B hB=>?_
 refine Z4m ?_
 refine Z4s ?_
 refine q22 (k:=0) 3 13 rfl (by decide) rfl ?_
 refine Zel ?_
 refine Zc5 ?_
 refine Z1 ?_
 refine qm (G:=Nat) (fun k=>k≤l.length) (fun k=>[(6,.pl (l.map q1d)),(7,.int .i64 (l.length:Int)),(8,.int .i64 (k:Int)),(3,.sl (Lid H.length 0) k 0 k k)]) (fun k=>H++[⟨k,13,(l.take k).map q1d⟩]) (fun k=>l.length-k) 0 (Nat.zero_le _) Y6 (Fit.refl _ _) ?_
 intro k hk
 refine Z5a ?_
 refine qa rfl (fun hc=>?_) (fun hc=>?_)
 ·have hlt:k<l.length:=by simpa using hc
  obtain ⟨x,hx,hxl⟩:=qo hlt
  have hr:=qh q1d hx
  have hb:=hw.2 x hxl
  refine Zi7 ?_
  refine Zlv ?_
  refine Zop ?_
  refine Zoo ?_
  refine Zoq ?_
  refine Zor ?_
  refine Zb5 ?_
  refine Zcs ?_
  refine Z5l ?_
  refine ⟨k+1,by omega,by omega,Y6,Fit.loc hB (by rw [q99 q1d hx];rfl) Y1 ?_⟩
  intro o ho r hr
  simp only [List.mem_singleton] at ho
  subst ho
  exact q2t _ _ r hr
 ·have:k=l.length:=by simp at hc;omega
  subst this
  rw [List.take_length]
  refine Zos ?_
  refine Z9 ?_
  exact qfb (G:=[]) hB (q3t rfl .nil) rfl rfl Y12 (by intro o ho r hr;simp only [List.mem_singleton] at ho;subst ho;exact q2t _ _ r hr)
theorem qf3 (l:List Held) (H:qj) (hw:HW l):AC Tryz.prog 137 [.pl (l.map qg)] H (Ret (.sl (Lid H.length 0) l.length 0 l.length l.length) (H++[⟨l.length,4,l.map qg⟩])):=by
 have hl:=hw.1
 refine AC.body (N:=19) [.tmp 2] Tryz.func137 rfl rfl rfl (Nat.le_of_ble_eq_true rfl) fun B hB=>?_
 refine Z4m ?_
 refine Z4s ?_
 refine q22 (k:=0) 3 4 rfl (by decide) rfl ?_
 refine Zel ?_
 refine Zc5 ?_
 refine Z1 ?_
 refine qm (G:=Nat) (fun k=>k≤l.length) (fun k=>[(6,.pl (l.map qg)),(7,.int .i64 (l.length:Int)),(8,.int .i64 (k:Int)),(3,.sl (Lid H.length 0) k 0 k k)]) (fun k=>H++[⟨k,4,(l.take k).map qg⟩]) (fun k=>l.length-k) 0 (Nat.zero_le _) Y6 (Fit.refl _ _) ?_
 intro k hk
 refine Z5a ?_
 refine qa rfl (fun hc=>?_) (fun hc=>?_)
 ·have hlt:k<l.length:=by simpa using hc
  obtain ⟨x,hx,hxl⟩:=qo hlt
  have hr:=qh qg hx
  have hb:=hw.2 x hxl
  refine Zi9 ?_
  refine Zen ?_
  refine Zop ?_
  refine Zi6 ?_
  refine Zot ?_
  refine Zor ?_
  refine Zb5 ?_
  refine Zcs ?_
  refine Z5l ?_
  refine ⟨k+1,by omega,by omega,Y6,Fit.loc hB (by rw [q99 qg hx];rfl) Y1 ?_⟩
  intro o ho r hr
  simp only [List.mem_singleton] at ho
  subst ho
  exact q1e _ _ r hr
 ·have:k=l.length:=by simp at hc;omega
  subst this
  rw [List.take_length]
  refine Zos ?_
  refine Z9 ?_
  exact qfb (G:=[]) hB (q3t rfl .nil) rfl rfl Y12 (by intro o ho r hr;simp only [List.mem_singleton] at ho;subst ho;exact q1e _ _ r hr)
end Go.Av
namespace Go.Av
section
variable {P : Program} {N : Nat} {B : Base} {ops : Array Oper} {a : Option Nat} {C : qj → Prop} {F : Env → qj → Prop} {Q : q77}
variable {op : Op} {ty : TypeId} {pos : String} {after : Array Edge}
inductive Anc (ops : Array Oper) (listed : Array Bool) (i : Nat) : Nat → Prop
 | here:Anc ops listed i i
 | step {m:Nat} {om:Oper} {e:Edge}:listed.getD m true=false→ops[m]?=some om→e∈om.after→Region.binds .any e=true→Anc ops listed i e.on→Anc ops listed i m
def qxw (ops:Array Oper) (a:Option Nat) (i:Nat) (listed:Array Bool):Prop:=∀ a',a=some a'→∀ oa,ops[a']?=some oa→∃ e∈oa.after,Region.binds .any e=true∧Anc ops listed i e.on
theorem qia {listed:Array Bool} {m:Nat} (h1:listed.getD m false=true) (h2:listed.getD m true=false):False:=by
 rcases Nat.lt_or_ge m listed.size with h' | h'
 ·simp [h'] at h1 h2;rw [h1] at h2;cases h2
 ·simp [Array.getElem?_eq_none h'] at h1
theorem Anc.put {listed:Array Bool} {i j m:Nat} {oj:Oper} (hoj:ops[j]?=some oj) (hall:∀ e∈oj.after,Region.binds .any e=true→listed.getD e.on false=true) (hnot:∀ e∈oj.after,Region.binds .any e=true→e.on≠i) (h:Anc ops listed i m):Anc ops (listed.setIfInBounds j true) i m:=by
 induction h with
 | here=>exact .here
 | @step m om e hm hom he hb h ih =>
  refine .step ?_ hom he hb ih
  have:j≠m:=by
   rintro rfl
   rw [hoj] at hom
   obtain rfl:=Option.some.inj hom
   have h1:=hall e he hb
   have h2:=hnot e he hb
   cases h with
   | here=>exact h2 rfl
   | step h3=>exact qia h1 h3
  rw [getD_set_ne true this];exact hm
theorem qgt {i:Nat} {oi:Oper} {v:AV} (hi:ops[i]?=some oi) (hdi:∀ t,oi.dst=some t→DN t N) (hai:a≠some i) :
  ∀ (fuel:Nat) (listed:Array Bool) (env:Env) (H:qj),qxw ops a i listed→listed.size=ops.size →
   (∀ j oj,ops[j]?=some oj→j≠i→listed.getD j true=false→(∀ e∈oj.after,Region.binds .any e=true→e.on≠i)→oi.apart ops oj=true) →
   i∈Region.ready .any ops listed→Yet a listed→Quiet P N ops C oi env v →
   AAny P N B ops a C F fuel (listed.setIfInBounds i true) (Av.put env oi.dst v) H→AAny P N B ops a C F (fuel+1) listed env H:=by
 have q4s:∀ (listed:Array Bool) (j:Nat),a≠some j→Yet a (listed.setIfInBounds j true)=Yet a listed:=fun listed j hj=>by
  unfold Yet
  cases a with
  | none=>rfl
  | some a=>simp only;rw [getD_set_ne true (fun e=>hj (by rw [e]))]
 intro fuel
 induction fuel with
 | zero =>
  intro listed env H _ hsz _ hr ha hq h
  have hC:C H:=h.1 Yt
  refine ⟨fun _=>hC,fun h0=>Yw,fun j hj=>?_⟩
  by_cases hji:j=i
  ·subst hji;exact hq.at_ hi hdi hC h
  ·have:=ready_mono hj hji
   rw [h.2.1] at this
   cases this
 | succ fuel ih =>
  intro listed env H hwait hsz hfree hr ha hq h
  have hC:C H:=h.1 Yt
  refine ⟨fun _=>hC,fun h0=>Yw,fun j hj=>?_⟩
  by_cases hji:j=i
  ·subst hji;exact hq.at_ hi hdi hC h
  ·have h1:=h.2.2 j (ready_mono hj hji)
   obtain ⟨hjun,oj,hoj,hall⟩:=mem_ready.1 hj
   have hnot:∀ e∈oj.after,Region.binds .any e=true→e.on≠i:=fun e he hb heq=>by
    have h1:=hall e he hb
    have h0:=(mem_ready.1 hr).1
    rw [heq] at h1
    rcases Nat.lt_or_ge i listed.size with h' | h'
    ·simp [h'] at h0 h1;rw [h0] at h1;cases h1
    ·simp [Array.getElem?_eq_none h'] at h1
   have hja:a≠some j:=by
    rintro rfl
    obtain ⟨e,he,hb,hm⟩:=hwait j rfl oj hoj
    generalize hx:e.on=x at hm
    cases hm with
    | here=>exact hnot e he hb hx
    | step h3=>exact qia (hall e he hb) (by rw [hx];exact h3)
   have hwait':qxw ops a i (listed.setIfInBounds j true):=by
    intro a' ha' oa hoa
    obtain ⟨e,he,hb,hm⟩:=hwait a' ha' oa hoa
    exact ⟨e,he,hb,hm.put hoj hall hnot⟩
   have hap:=hfree j oj hoj hji hjun hnot
   obtain ⟨p1,p2,p3⟩:=Oper.apart_spec hap
   have hfree':∀ k ok,ops[k]?=some ok→k≠i→(listed.setIfInBounds j true).getD k true=false →
     (∀ e∈ok.after,Region.binds .any e=true→e.on≠i)→oi.apart ops ok=true:=fun k ok hk hki hun hno=>by
    refine hfree k ok hk hki ?_ hno
    by_cases hjk:j=k
    ·subst hjk;exact hjun
    ·rw [getD_set_ne true hjk] at hun;exact hun
   obtain ⟨o,ho,hd,h2⟩:=h1
   rw [hoj] at ho
   obtain rfl:=Option.some.inj ho
   have step:∀ x H',AAny P N B ops a C F fuel ((listed.setIfInBounds i true).setIfInBounds j true) (Av.put (Av.put env oi.dst v) oj.dst x) H'→AAny P N B ops a C F (fuel+1) (listed.setIfInBounds j true) (Av.put env oj.dst x) H':=by
    intro x H' hx
    refine ih (listed.setIfInBounds j true) (Av.put env oj.dst x) H' hwait' (by simpa using hsz) hfree' (ready_mono hr (Ne.symm hji)) (by rw [q4s _ _ hja];exact ha) (hq.put p3 fun t ht=>(hd t ht).2) ?_
    rw [Array.setIfInBounds_comm _ _ hji]
    exact AAny.eqv _ _ _ _ _ (Eqv.comm env v x p2) hx
   refine ⟨oj,hoj,hd,?_⟩
   rcases h2 with ⟨k1,V,k2,k3⟩ | ⟨k1,k2⟩
   ·exact .inl ⟨k1.put p1,V,by rw [qbx ops oj env oi.dst v p1 fun t ht=>(hdi t ht).2] at k2;exact k2,fun x H' hx=>step x H' (k3 x H' hx)⟩
   ·exact .inr ⟨k1.put p1,step _ _ k2⟩
def qy4 (ops:Array Oper) (listed:Array Bool) (i:Nat):Nat→List Nat→Bool
 | m,[]=>m == i
 | m,x :: l=>!(listed.getD m true)&&(match ops[m]? with
   | some om=>om.after.toList.any fun e=>Region.binds .any e&&e.on == x
   | none=>false)&&qy4 ops listed i x l
theorem qh6 {listed:Array Bool} {i:Nat}:∀ (l:List Nat) (m:Nat),qy4 ops listed i m l=true→Anc ops listed i m
 | [],m,h=>by simp only [qy4,beq_iff_eq] at h;subst h;exact .here
 | x :: l,m,h=>by
  simp only [qy4,Bool.and_eq_true,Bool.not_eq_true'] at h
  obtain ⟨⟨h1,h2⟩,h3⟩:=h
  cases hm:ops[m]? with
  | none=>rw [hm] at h2;cases h2
  | some om =>
   rw [hm] at h2
   simp only [List.any_eq_true,Bool.and_eq_true,beq_iff_eq] at h2
   obtain ⟨e,he,hb,ho⟩:=h2
   subst ho
   exact .step h1 hm (by simpa using he) hb (qh6 l _ h3)
def qsp (ops:Array Oper) (listed:Array Bool) (a:Nat) (l:List Nat) (i:Nat):Bool :=
 (Region.ready .any ops listed).contains i&&Region.free .any ops listed i&&decide (listed.size=ops.size) &&
  (i != a&&!(listed.getD a true)&&qy4 ops listed i a l)
theorem qv9 {fuel:Nat} {listed:Array Bool} {env:Env} {H H0:qj} {v:AV} {d a:Nat} {L0:qj} (l:List Nat) (i:Nat) (hi:ops[i]?=some ⟨some d,op,ty,pos,after,none⟩) (hB:qsp ops listed a l i=true) (hd:DN d N) (h1:∀ G,V1 P N op ty (renv ⟨some d,op,ty,pos,after,none⟩ env) (H0++(L0++G)) v)
  (h:AAny P N B ops (some a) (Pre H0 L0) F fuel (listed.setIfInBounds i true) ((d,v) :: env) H):AAny P N B ops (some a) (Pre H0 L0) F (fuel+1) listed env H:=by
 simp only [qsp,Bool.and_eq_true,decide_eq_true_eq,bne_iff_ne,Bool.not_eq_true'] at hB
 obtain ⟨⟨⟨h2,h3⟩,h5⟩,⟨h6,h7⟩,h8⟩:=hB
 refine qgt hi Yx (fun e=>h6 (Option.some.inj e).symm) fuel listed env H ?_ h5 (Region.free_spec hi h3) (by simpa using h2) h7 (.inl ⟨rfl,by rintro H ⟨G,rfl⟩;exact (h1 G).toV2 _ _ _ _⟩) h
 intro a' ha oa hoa
 obtain rfl:=Option.some.inj ha
 cases qh6 _ _ h8 with
 | here=>exact absurd rfl h6
 | step h9 h10 h11 h12 h13 =>
  rw [hoa] at h10
  obtain rfl:=Option.some.inj h10
  exact ⟨_,h11,h12,h13⟩
end
end Go.Av
namespace Go.Av
open Go.Proofs
set_option maxHeartbeats 0 in
theorem qvb (l:List Job) (id what now:Int) (H:qj) (hw:JW l):AC Tryz.prog 138 [.pl (l.map q1d),.int .i64 id,.int .i64 what,.int .i64 now] H (Ret (.tup [.pl ((q1n l id what now).1.map q1d),.int .i64 (q1n l id what now).2]) H):=by
 have hw1:=hw.1
 refine AC.body (N:=46) [.tmp 8,.tmp 9] Tryz.func138 rfl rfl rfl (Nat.le_of_ble_eq_true rfl) fun B hB=>?_
 refine Z4l ?_
 refine Z4 ?_
 refine Z4o ?_
 refine Zou ?_
 refine Zb5 ?_
 refine Z9e ?_
 refine Z4o ?_
 refine Zom ?_
 refine Z4d ?_
 refine qa rfl (fun hc=>?_) (fun hc=>?_)
 ·have hno:q24 l=false:=by simpa only [Bool.not_eq_true'] using hc
  rw [show q1n l id what now=(l,1) by rw [q1n,hno];rfl]
  refine Zov ?_
  try dsimp only
  refine Z1d ?_
  refine Zow ?_
  exact Zox
 have hyes:q24 l=true:=by simpa only [Bool.not_eq_false'] using hc
 have hs:=q28 hyes
 refine Zbe ?_
 refine Zjt ?_
 refine Zi5 ?_
 refine qa rfl (fun hc=>?_) (fun hc=>?_)
 ·have hno:q29 l id=false:=by simpa only [Bool.not_eq_true'] using hc
  rw [show q1n l id what now=(l,6) by rw [q1n,hyes,hno];rfl]
  refine Zov ?_
  try dsimp only
  refine Z1d ?_
  refine Zow ?_
  exact Zox
 have hhit:q29 l id=true:=by simpa only [Bool.not_eq_false'] using hc
 have hn:q11 l id<l.length:=by simp only [q29,Bool.and_eq_true,decide_eq_true_eq] at hhit;exact hhit.1
 obtain ⟨x,hx,hxl⟩:=qo hn
 have hr:=qh q1d hx
 have hxw:=hw.2 x hxl
 rw [show q1n l id what now=(l.set (q11 l id) (jdo x what now).1,(jdo x what now).2) by rw [q1n,hyes,hhit,q12 hx];rfl]
 refine Zb2 ?_
 refine Zei ?_
 refine Zoy ?_
 refine Z30 ?_
 refine ao2 Y11 (V2.call (qy3 x what now hxw _) rfl) ?_
 refine Zoz ?_
 refine Zlu ?_
 refine Z4 ?_
 refine Zem ?_
 refine Zb2 ?_
 refine Z4b ?_
 refine Zei ?_
 refine Zp0 ?_
 refine Zej ?_
 rw [Nat.zero_add,← List.map_set]
 refine Zb2 ?_
 refine Zb4 ?_
 refine Z4 ?_
 refine Z1d ?_
 refine Zp1 ?_
 exact Zox
theorem qe8 (l:List Held) (i id g:Nat) (H:qj) (hid:H[id]?=some ⟨g,4,l.map qg⟩) (hi:i<l.length) (hl:l.length≤1000000) :
  AC Tryz.prog 171 [.sl id g 0 l.length l.length,.int .i64 (i:Int),.int .i64 ((i+1:Nat):Int)] H (Ret (.sl id (g+1) 0 (l.length-1) l.length) (H.set id ⟨g+1,4,(l.eraseIdx i).map qg⟩)):=by
 have hF:=hid
 have e1:((l.map qg).drop (i+1)).take (l.length-(i+1))=(l.drop (i+1)).map qg:=by
  rw [List.map_drop,List.take_of_length_le (by simp)]
 have e2:((l.drop (i+1)).map qg).length=l.length-(i+1):=by simp
 have e3:(l.map qg).take i++(l.drop (i+1)).map qg=(l.eraseIdx i).map qg:=by
  rw [List.eraseIdx_eq_take_drop_succ,List.map_append,List.map_take]
 have e4:i+((l.drop (i+1)).map qg).length=l.length-1:=by rw [e2];omega
 refine AC.body (N:=33) [.tmp 6] Tryz.func171 rfl rfl rfl (Nat.le_of_ble_eq_true rfl) fun B hB=>?_
 refine Z4m ?_
 refine Zb1 ?_
 refine Z30 ?_
 refine Zb0 ?_
 refine Zp2 ?_
 refine ao1 (by decide) (qqo rfl (lkF hF) rfl rfl (.some rfl rfl) rfl rfl (by omega) (by omega) (by omega)) ?_
 refine qf ?_
 refine Z2t ?_
 refine Z17 ?_
 refine qa rfl (fun hc=>?_) (fun hc=>?_)
 ·simp at hc;omega
 ·refine Zb1 ?_
  refine Zp2 ?_
  refine Za ?_
  refine q2y mixed (some 6) 999 ?_
  refine Zex ?_
  refine aqp 2 rfl Y17 (by decide) (fun G=>q4z rfl (lkF hF) rfl rfl .none (.some rfl rfl) (by omega) (by omega)) ?_
  refine aq0 3 rfl Y17 (by decide) (fun _=>qd (v:=.sl _ _ _ _ _) rfl) ?_
  refine Z1k ?_
  refine aqp 5 rfl Y17 (by decide) (fun G=>q4z rfl (lkF hF) rfl rfl (.some rfl rfl) .none (by omega) (by omega)) ?_
  refine aqs 6 rfl Y17 Yv Y11 (qcx l.length rfl hF rfl rfl (Src.sl (o:=⟨g,4,l.map qg⟩) rfl (lkF hF) rfl (by rw [Nat.zero_add];exact e1) e2) rfl Y1c (by rw [e2];omega) (by rw [e2];omega) (by omega)) ?_
  refine aq0 7 rfl Y17 (by decide) (fun _=>q14 (v:=.sl _ _ _ _ _) rfl) ?_
  refine Z9q ?_
  refine Z8j ?_
  simp only [Nat.sub_zero,e4,e3]
  have hF2:(H.set id ⟨g+1,4,(l.eraseIdx i).map qg⟩)[id]?=some ⟨g+1,4,(l.eraseIdx i).map qg⟩:=List.getElem?_set_self (List.getElem?_eq_some_iff.1 hid).1
  refine Zp3 ?_
  refine ao1 (by decide) (qfk rfl (lkF hF2) rfl) ?_
  refine Z8 ?_
  refine ao1 (by decide) (q4z (l:=l.length-1) (h:=l.length) rfl (lkF hF2) rfl rfl (.some rfl rfl) (.some rfl (by simp)) (by omega) (by omega)) ?_
  refine ao2 Y1b (qut rfl hF2 rfl rfl rfl) ?_
  refine Z4q ?_
  rw [show ((l.eraseIdx i).map qg).take (0+(l.length-1))=(l.eraseIdx i).map qg from List.take_of_length_le (by simp [List.length_eraseIdx,hi]),List.set_set]
  refine Zos ?_
  refine Z9 ?_
  refine q5d hB (q3t rfl .nil) rfl ?_ (by simp) (hB.heap.set _ _ (q1e _ _))
  simp [AV.bel]
  exact (List.getElem?_eq_some_iff.1 hid).1
set_option maxHeartbeats 0 in
theorem qrh (l:List Held) (id:Int) (H:qj) (hw:HW l):AC Tryz.prog 139 [.pl (l.map qg),.int .i64 id] H (Ret (.tup [.pl ((q1a l id).1.map qg),.agg (qg (q1a l id).2.1),.int .i64 (q1a l id).2.2]) H):=by
 have hw1:=hw.1
 refine AC.body (N:=38) [.tmp 4,.cell 5 60,.tmp 6] Tryz.func139 rfl rfl rfl (Nat.le_of_ble_eq_true rfl) fun B hB=>?_
 refine Z4l ?_
 refine Z9d ?_
 refine Z4 ?_
 refine Z9e ?_
 refine Z4o ?_
 refine Zp4 ?_
 refine Zb5 ?_
 refine Zp5 ?_
 refine Z4o ?_
 refine Zhz ?_
 refine qa rfl (fun hc=>?_) (fun hc=>?_)
 ·have hno:q1s l=false:=by simpa only [Bool.not_eq_true'] using hc
  rw [show q1a l id=(l,qdy,1) by rw [q1a,hno];rfl]
  refine Zb1 ?_
  refine Zi0 ?_
  refine Zb4 ?_
  refine Zfi ?_
  refine Z4 ?_
  refine Zi1 ?_
  refine Z1d ?_
  refine Zp6 ?_
  refine q33 ?_
  exact Zp7
 have hyes:q1s l=true:=by simpa only [Bool.not_eq_false'] using hc
 have hs:=q4a hyes
 refine Zbe ?_
 refine Zi4 ?_
 refine Zi5 ?_
 refine qa rfl (fun hc=>?_) (fun hc=>?_)
 ·have hno:q23 l id=false:=by simpa only [Bool.not_eq_true'] using hc
  rw [show q1a l id=(l,qdy,6) by rw [q1a,hyes,hno];rfl]
  refine Zb1 ?_
  refine Zi0 ?_
  refine Zb4 ?_
  refine Zfi ?_
  refine Z4 ?_
  refine Zi1 ?_
  refine Z1d ?_
  refine Zp6 ?_
  refine q33 ?_
  exact Zp7
 have hhit:q23 l id=true:=by simpa only [Bool.not_eq_false'] using hc
 have hk:qw l id<l.length:=by simp only [q23,Bool.and_eq_true,decide_eq_true_eq] at hhit;exact hhit.1
 obtain ⟨x,hx,hxl⟩:=qo hk
 have hr:=qh qg hx
 rw [show q1a l id=(l.eraseIdx (qw l id),x,0) by rw [q1a,hyes,hhit,q5j hx];rfl]
 generalize qw l id=k at *
 refine Zb2 ?_
 refine Zei ?_
 refine Zoy ?_
 refine Zi8 ?_
 refine Zen ?_
 refine Z1 ?_
 refine qm8 mixed (some 7) 2 ?_
 refine Zex ?_
 refine Z6j ?_
 refine aq0 3 rfl Y17 (by decide) (fun _=>q5y (r:=((k+1:Nat):Int)) rfl rfl (by rw [show (k:Int)+1=((k+1:Nat):Int) by omega];exact q1b (by omega) (by omega))) ?_
 refine aqr 5 rfl Y17 (by decide) (fun G hG=>q2h rfl (lk rfl hG) rfl rfl rfl) ?_
 refine aqs 4 rfl Y17 Yr Y11 (V2.callo3 (qe8 l k _ _ _ (lk rfl rfl) hk hw1) rfl rfl) ?_
 refine aq0 6 rfl Y17 (by decide) (fun _=>q14 (v:=.sl _ _ _ _ _) rfl) ?_
 refine aqs 7 rfl Y17 Yr Y1b (q2p (sz:=4) rfl rfl rfl rfl rfl rfl rfl rfl (Nat.le_of_ble_eq_true rfl)) ?_
 refine Z1o ?_
 refine q1i Y17 Yr ?_
 refine Zp8 ?_
 refine Z1d ?_
 refine qu (ys:=(l.eraseIdx k).map qg) 4 rfl rfl rfl rfl (by rw [List.drop_zero,List.take_of_length_le (by simp [List.length_eraseIdx,hk])]) (by simp [List.length_eraseIdx,hk]) (q1e 0 _) ?_
 refine q33 ?_
 exact Zp7
theorem q86 {H:qj} {p:Nat} {o:AObj} (h:H[p]?=some o):H.set p o=H:=by
 apply List.ext_getElem?
 intro j
 rw [List.getElem?_set]
 by_cases e:p=j
 ·subst e;rw [if_pos rfl,if_pos (List.getElem?_eq_some_iff.1 h).1,h]
 ·rw [if_neg e]
def qo4 (w:Inst) (l:List Job):Inst:=⟨w.graph,w.health,w.lease,w.til,l,w.table,w.now,w.policy,w.depth⟩
def qlj (w:Inst) (l:List Held):Inst:=⟨w.graph,w.health,w.lease,w.til,w.jobs,l,w.now,w.policy,w.depth⟩
set_option maxHeartbeats 0 in
theorem q7j (w:Inst) (id what at_:Int) (p:Nat) (H:qj) (hj:JW w.jobs) (hj2:JW (q1n w.jobs id what at_).1) (ht:HW w.table) (hid:H[p]?=some ⟨0,9,[q19 w]⟩):AC Tryz.prog 86 [.pt p 0 0 0,.int .i64 id,.int .i64 what,.int .i64 at_] H (Ret (.int .i64 (wdo w id what at_).2) (H.set p ⟨0,9,[q19 (wdo w id what at_).1]⟩)):=by
 have hF:=hid
 have hbel:∀ w:Inst,∀ r∈(AObj.mk 0 9 [q19 w]).rows,AV.bels H.length r=true:=by
  intro w r hr
  simp only [List.mem_singleton] at hr
  subst hr
  rfl
 refine AC.body (N:=57) [.tmp 8] Tryz.func86 rfl rfl rfl (Nat.le_of_ble_eq_true rfl) fun B hB=>?_
 refine Z5 ?_
 refine Zpa ?_
 refine Zpf ?_
 refine Z30 ?_
 refine Z8 ?_
 refine ao2 Y11 (V2.call (qvb w.jobs id what at_ _ hj) rfl) ?_
 refine Zpk ?_
 refine Z8j ?_
 generalize hq:q1n w.jobs id what at_=q at hj2 ⊢
 obtain ⟨l,e⟩:=q
 simp only at hj2
 refine Z12 ?_
 refine Z2u ?_
 refine qf ?_
 try dsimp only
 refine Z1 ?_
 refine qa rfl (fun hc=>?_) (fun hc=>?_)
 ·have he:e≠0:=by simpa using hc
  have hw:wdo w id what at_=(w,e):=by rw [wdo,hq,if_pos he]
  rw [hw,q86 hid]
  refine Z1c ?_
  try dsimp only
  exact Z22
 have he:¬ e≠0:=by simpa using hc
 have he0:e=0:=by simpa using he
 refine Zpa ?_
 refine Z4n ?_
 refine Zpd ?_
 refine ao2 Y1b (q6e (r':=q19 (qo4 w l)) rfl hF rfl rfl rfl rfl rfl (Nat.le_of_ble_eq_true rfl) rfl) ?_
 refine Z7y ?_
 try simp only [List.set_cons_zero]
 have hF2:(H.set p ⟨0,9,[q19 (qo4 w l)]⟩)[p]?=some ⟨0,9,[q19 (qo4 w l)]⟩:=List.getElem?_set_self (List.getElem?_eq_some_iff.1 hid).1
 have hF:=hF2
 refine Zbe ?_
 refine Zpl ?_
 refine Z9u ?_
 refine Zlu ?_
 refine Z1q ?_
 refine Z9v ?_
 refine Z4i ?_
 refine Z8o ?_
 refine Z56 ?_
 refine qa rfl (fun hc=>?_) (fun hc=>?_)
 ·have hw:wdo w id what at_=(qlj (qo4 w l) (q1a w.table id).1,0):=by rw [wdo,hq];simp only [he0];rw [if_neg (by decide),if_pos hc];rfl
  rw [hw]
  refine q1k ?_
  refine Zp9 ?_
  refine Zp9 ?_
  refine Zpf ?_
  refine Z8 ?_
  refine ao2 Y11 (V2.call (qrh w.table id _ ht) rfl) ?_
  refine Zph ?_
  refine Z9s ?_
  refine Z15 ?_
  refine Zpd ?_
  refine ao2 Y1b (q6e (r':=q19 (qlj (qo4 w l) (q1a w.table id).1)) rfl hF rfl rfl rfl rfl rfl (Nat.le_of_ble_eq_true rfl) rfl) ?_
  refine Z7y ?_
  simp only [List.set_cons_zero,List.set_set]
  refine Z10 ?_
  exact q5d hB (q3t rfl .nil) rfl rfl (by simp) (hB.heap.set _ _ (hbel _))
 ·have hw:wdo w id what at_=(qo4 w l,0):=by rw [wdo,hq];simp only [he0];rw [if_neg (by decide),if_neg (by simp [hc])];rfl
  rw [hw]
  refine Z5 ?_
  try dsimp only
  refine Z1 ?_
  exact q5d hB (q3t rfl .nil) rfl rfl (by simp) (hB.heap.set _ _ (hbel _))
theorem qck {α:Type} (p:α→Bool) {l:List α} {k:Nat} {x:α} (hx:l[k]?=some x):(l.take (k+1)).filter p=(l.take k).filter p++if p x then [x] else []:=by
 rw [List.take_add_one,hx,List.filter_append]
 cases h:p x<;>simp [h]
def ovR (l:List Held) (now:Int) (k:Nat):List Held:=(l.take k).filter fun h=>!decide (h.to≤now)
def ovG (l:List Held) (now:Int) (k:Nat):List Held:=(l.take k).filter fun h=>decide (h.to≤now)
set_option maxHeartbeats 0 in
theorem qr5 (l:List Held) (now:Int) (H:qj) (hw:HW l):AC Tryz.prog 85 [.pl (l.map qg),.int .i64 now] H (Ret (.tup [.pl ((q1x l now).1.map qg),.pl ((q1x l now).2.map qg)]) H):=by
 have hw1:=hw.1
 have hbel:∀ (b:Nat) (r g:List Held),∀ o∈[AObj.mk r.length 4 (r.map qg),AObj.mk g.length 4 (g.map qg)],∀ x∈o.rows,AV.bels b x=true:=by
  intro b r g o ho x hx
  simp only [List.mem_cons,List.not_mem_nil,or_false] at ho
  rcases ho with rfl | rfl<;>exact q1e _ _ x hx
 refine AC.body (N:=37) [.tmp 4,.tmp 5] Tryz.func85 rfl rfl rfl (Nat.le_of_ble_eq_true rfl) fun B hB=>?_
 refine Z4l ?_
 refine Zau ?_
 refine Z4o ?_
 refine Zhz ?_
 refine qa rfl (fun hc=>?_) (fun hc=>?_)
 ·have hno:q1s l=false:=by simpa only [Bool.not_eq_true'] using hc
  rw [show q1x l now=(l,[]) by rw [q1x,hno];rfl]
  refine Z4o ?_
  refine Zpm ?_
  refine Z4w ?_
  refine Z4k ?_
  refine Z4q ?_
  refine Z1d ?_
  refine q1c 5 rfl ?_
  exact Zox
 have hyes:q1s l=true:=by simpa only [Bool.not_eq_false'] using hc
 have ho:q1x l now=(ovR l now l.length,ovG l now l.length):=by rw [q1x,hyes,ovR,ovG,List.take_length];rfl
 rw [ho]
 refine Z4l ?_
 refine Zau ?_
 try dsimp only
 refine Z1d ?_
 refine q22 (k:=0) 6 4 rfl (by decide) rfl ?_
 refine q22 (k:=1) 7 4 rfl (by decide) rfl ?_
 refine Zf4 ?_
 refine Zpm ?_
 refine Zf5 ?_
 try dsimp only [put,List.nil_append,List.cons_append]
 refine Z1d ?_
 refine qm (G:=Nat) (fun k=>k≤l.length) (fun k=>[(1,.int .i64 now),(6,.sl (Lid H.length 0) (ovR l now k).length 0 (ovR l now k).length (ovR l now k).length),(7,.sl (Lid H.length 1) (ovG l now k).length 0 (ovG l now k).length (ovG l now k).length),(16,.pl (l.map qg)),(17,.int .i64 (l.length:Int)),(18,.int .i64 (k:Int))]) (fun k=>H++[⟨(ovR l now k).length,4,(ovR l now k).map qg⟩,⟨(ovG l now k).length,4,(ovG l now k).map qg⟩]) (fun k=>l.length-k) 0 (Nat.zero_le _) Y6 (Fit.refl _ _) ?_
 intro k hk
 refine Z5a ?_
 refine qa rfl (fun hc=>?_) (fun hc=>?_)
 ·have hlt:k<l.length:=by simp at hc;omega
  obtain ⟨x,hx,hxl⟩:=qo hlt
  have hr:=qh qg hx
  have s1:ovR l now (k+1)=ovR l now k++if (!decide (x.to≤now)) then [x] else []:=qck _ hx
  have s2:ovG l now (k+1)=ovG l now k++if decide (x.to≤now) then [x] else []:=qck _ hx
  have n1:(ovR l now k).length≤k:=Nat.le_trans (List.length_filter_le _ _) Ys
  have n2:(ovG l now k).length≤k:=Nat.le_trans (List.length_filter_le _ _) Ys
  have t1:((ovR l now k).map qg).take (ovR l now k).length=(ovR l now k).map qg:=List.take_of_length_le (by simp)
  have t2:((ovG l now k).map qg).take (ovG l now k).length=(ovG l now k).map qg:=List.take_of_length_le (by simp)
  refine Zi9 ?_
  refine Zen ?_
  refine Z8b ?_
  refine Zg ?_
  refine Z56 ?_
  refine qa rfl (fun hc=>?_) (fun hc=>?_)
  ·rw [hc,Bool.not_true,if_neg (by decide),List.append_nil] at s1
   rw [hc,if_pos rfl] at s2
   refine Zpn ?_
   refine Zpo ?_
   rw [t2]
   refine Z5l ?_
   refine ⟨k+1,by omega,by omega,by rw [s1,s2,List.length_append];exact Y6,Fit.loc hB (by rw [s1,s2];simp only [List.length_append,List.length_cons,List.length_nil,List.map_append,List.map_cons,List.map_nil];rfl) Y1 (hbel _ _ _)⟩
  ·rw [hc,Bool.not_false,if_pos rfl] at s1
   rw [hc,if_neg (by decide),List.append_nil] at s2
   refine Zpn ?_
   refine Zot ?_
   refine Zct ?_
   rw [t1]
   refine Z5l ?_
   refine ⟨k+1,by omega,by omega,by rw [s1,s2,List.length_append];exact Y6,Fit.loc hB (by rw [s1,s2];simp only [List.length_append,List.length_cons,List.length_nil,List.map_append,List.map_cons,List.map_nil];rfl) Y1 (hbel _ _ _)⟩
 ·have:k=l.length:=by simp at hc;omega
  subst this
  refine Zp3 ?_
  refine Zb4 ?_
  refine Zb9 ?_
  refine qu (ys:=(ovR l now l.length).map qg) 4 rfl rfl rfl rfl Yg (by simp) (q1e 0 _) ?_
  refine qu (ys:=(ovG l now l.length).map qg) 5 rfl rfl rfl rfl Yg (by simp) (q1e 0 _) ?_
  exact Zox
theorem qfw (l:List Held) (H:qj) (hn:l.length≤1000000):AC Tryz.prog 172 [.pl (l.map qg)] H (Ret (.pl (l.map qg)) H):=by
 refine AC.body (N:=8) [.tmp 2] Tryz.func172 rfl rfl rfl (Nat.le_of_ble_eq_true rfl) fun B hB=>?_
 refine Z4p ?_
 refine q7q rfl Y11 (qcb rfl rfl _ _ _ _) ?_ (fun _ _ h=>h.elim)
 rintro _ _ ⟨nb,rfl,hnb,rfl⟩
 refine Z4r ?_
 refine qa rfl (fun hc=>?_) (fun hc=>?_)
 ·subst hc
  have hb:l=[]:=by
   cases l with
   | nil=>rfl
   | cons x b=>simp at hnb
  subst hb
  refine Z4t ?_
  exact q33 (q4d hB (q3t rfl .nil) rfl rfl)
 ·refine Z4v ?_
  refine ao2 Y11 (q55 (sz:=4) (bytes:=48) rfl (Src.pl rfl (q6m l)) rfl (by decide) Y1c Y1c (q1e 0 l)) ?_
  exact Z4y
theorem qgi (l:List Job) (H:qj) (hn:l.length≤1000000):AC Tryz.prog 174 [.pl (l.map q1d)] H (Ret (.pl (l.map q1d)) H):=by
 refine AC.body (N:=8) [.tmp 2] Tryz.func174 rfl rfl rfl (Nat.le_of_ble_eq_true rfl) fun B hB=>?_
 refine Z4p ?_
 refine q7q rfl Y11 (qcb rfl rfl _ _ _ _) ?_ (fun _ _ h=>h.elim)
 rintro _ _ ⟨nb,rfl,hnb,rfl⟩
 refine Z4r ?_
 refine qa rfl (fun hc=>?_) (fun hc=>?_)
 ·subst hc
  have hb:l=[]:=by
   cases l with
   | nil=>rfl
   | cons x b=>simp at hnb
  subst hb
  refine Z4t ?_
  exact q33 (q4d hB (q3t rfl .nil) rfl rfl)
 ·refine Z4v ?_
  refine ao2 Y11 (q55 (sz:=13) (bytes:=128) rfl (Src.pl rfl (q6v l)) rfl (by decide) Y1c Y1c (q2t 0 l)) ?_
  exact Z4y
end Go.Av
namespace Go.Av
section
variable {P : Program} {N : Nat} {B : Base} {ops : Array Oper} {a : Option Nat} {F : Env → qj → Prop}
variable {fuel : Nat} {listed : Array Bool} {env : Env} {H H0 : qj} {op : Op} {ty : TypeId} {pos : String} {after : Array Edge} {v : AV}
theorem qzc {L0:qj} (i:Nat) (hi:ops[i]?=some ⟨none,op,ty,pos,after,none⟩) (hB:q5u ops listed a i=true) (h1:∀ G,V2 P N op ty (renv ⟨none,op,ty,pos,after,none⟩ env) (H0++(L0++G)) v (H0++(L0++G)))
  (h:AAny P N B ops a (Pre H0 L0) F fuel (listed.setIfInBounds i true) env H):AAny P N B ops a (Pre H0 L0) F (fuel+1) listed env H :=
 q9m i hi hB Y1b (.inl ⟨rfl,by rintro _ ⟨G,rfl⟩;exact h1 G _ _ _ _⟩) h
end
end Go.Av
namespace Go.Av
open Go.Proofs
theorem qjj {P:Program} {N:Nat} {env:Env} {ty:TypeId} {H0 L:qj} {t:TypeId} {x y:Operand} {n k g i j sz:Nat} {agg:Bool} {o:AObj} {r:List AV} {v:AV} [TyI P t agg sz] (hx:aev env x = .pt (Lid n k) g i j) (hn:H0.length=n) (hk:L[k]?=some o) (hg:o.gen=g) (hr:o.rows[i]?=some r)
  (hy:aev env y=v) (hc:v.cellish=true) (hl:v.cells.length=sz) (hj:j+sz≤o.sz) (hr':r.take j++v.cells++r.drop (j+sz)=r) (hs:(L.set k ⟨o.gen,o.sz,o.rows.set i r⟩)=L):V2 P N (.store t x y) ty env (H0++L) .junk (H0++L):=by
 have h:=q25 (P:=P) (N:=N) (env:=env) (ty:=ty) (t:=t) (agg:=agg) (r':=r) hx hn hk hg hr hy hc hl hj hr'
 rw [show ({ o with rows:=o.rows.set i r }:AObj)=⟨o.gen,o.sz,o.rows.set i r⟩ from rfl,hs] at h
 exact h
abbrev z9:List AV:=[.nsl,.nsl,.nsl,.int .i64 0,.nsl,.nsl,.int .i64 0,.int .i64 0,.int .i64 0]
set_option maxHeartbeats 0 in
theorem qrd (i:Inst) (H:qj) (hw:IW i) (hj:JW i.jobs):AC Tryz.prog 84 [.agg (q19 i)] H (Ret (.agg (q19 i)) H):=by
 have w1:=hw.graph
 have w2:=hw.health
 have w3:=hw.lease
 have w4:=hw.jobs
 have w5:=hw.table
 refine AC.body (N:=58) [.cell 2 27] Tryz.func84 rfl rfl rfl (Nat.le_of_ble_eq_true rfl) fun B hB=>?_
 refine Zpp ?_
 refine qf ?_
 refine Zhv ?_
 refine Zo7 ?_
 refine Z6i ?_
 refine q48 2 rfl Y17 (by decide) (fun _=>V2.call (q93 i.graph _ (by omega)) rfl) ?_
 refine Zpq ?_
 refine Zpr ?_
 refine q48 5 rfl Y17 (by decide) (fun _=>V2.call (q3a i.health _ (by omega)) rfl) ?_
 refine Zps ?_
 refine aqp 7 rfl Y17 (by decide) (fun G=>qi (v:=.pl _) rfl (lk rfl rfl) rfl rfl rfl) ?_
 refine q48 8 rfl Y17 (by decide) (fun _=>V2.call (q3a i.lease _ (by omega)) rfl) ?_
 refine Zoe ?_
 refine qzc 10 rfl Y17 (fun G=>qjj rfl rfl rfl rfl rfl rfl rfl rfl (Nat.le_of_ble_eq_true rfl) rfl rfl) ?_
 refine Zpt ?_
 refine qzc 12 rfl Y17 (fun G=>qjj rfl rfl rfl rfl rfl rfl rfl rfl (Nat.le_of_ble_eq_true rfl) rfl rfl) ?_
 refine Zpu ?_
 refine qzc 14 rfl Y17 (fun G=>qjj rfl rfl rfl rfl rfl rfl rfl rfl (Nat.le_of_ble_eq_true rfl) rfl rfl) ?_
 refine Zo0 ?_
 have hbel:∀ (b:Nat) (j:List Job) (t:List Held),∀ o∈[AObj.mk 0 9 [q19 i],AObj.mk 0 9 [z9],AObj.mk j.length 13 (j.map q1d),AObj.mk t.length 4 (t.map qg)],∀ x∈o.rows,AV.bels b x=true:=by
  intro b j t o ho x hx
  simp only [List.mem_cons,List.not_mem_nil,or_false] at ho
  rcases ho with rfl | rfl | rfl | rfl
  ·simp only [List.mem_singleton] at hx;subst hx;rfl
  ·simp only [List.mem_singleton] at hx;subst hx;rfl
  ·exact q2t _ _ x hx
  ·exact q1e _ _ x hx
 have hb3:∀ (b:Nat) (j:List Job),∀ o∈[AObj.mk 0 9 [q19 i],AObj.mk 0 9 [z9],AObj.mk j.length 13 (j.map q1d)],∀ x∈o.rows,AV.bels b x=true:=by
  intro b j o ho
  refine hbel b j [] o ?_
  simp only [List.mem_cons,List.not_mem_nil,or_false] at ho ⊢
  rcases ho with h | h | h
  ·exact .inl h
  ·exact .inr (.inl h)
  ·exact .inr (.inr (.inl h))
 refine Z4s ?_
 refine q22 (k:=2) 3 13 rfl (by decide) rfl ?_
 refine q1k ?_
 refine Z6d ?_
 refine Z9f ?_
 refine Zpv ?_
 refine Z1d ?_
 refine qm (G:=Nat) (fun k=>k≤i.jobs.length) (fun k=>[(1,.pt (Lid H.length 0) 0 0 0),(2,.pt (Lid H.length 1) 0 0 0),(3,.sl (Lid H.length 2) (i.jobs.take k).length 0 (i.jobs.take k).length (i.jobs.take k).length),(22,.pl (i.jobs.map q1d)),(23,.int .i64 (i.jobs.length:Int)),(24,.int .i64 (k:Int))]) (fun k=>H++[⟨0,9,[q19 i]⟩,⟨0,9,[z9]⟩,⟨(i.jobs.take k).length,13,(i.jobs.take k).map q1d⟩]) (fun k=>i.jobs.length-k) 0 (Nat.zero_le _) Y6 (.inl rfl) ?_
 intro k hk
 refine Z5a ?_
 refine qa rfl (fun hc=>?_) (fun hc=>?_)
 ·have hlt:k<i.jobs.length:=by simpa using hc
  obtain ⟨x,hx,hxl⟩:=qo hlt
  have hr:=qh q1d hx
  have hxw:=hj.2 x hxl
  have s1:i.jobs.take (k+1)=i.jobs.take k++[x]:=ql hx
  have n1:(i.jobs.take k).length≤1000000:=by rw [List.length_take];omega
  have t1:((i.jobs.take k).map q1d).take (i.jobs.take k).length=(i.jobs.take k).map q1d:=List.take_of_length_le (by simp)
  refine Zi7 ?_
  refine Zlv ?_
  refine Z53 ?_
  refine ao2 Y11 (V2.call (q3a x.needs _ hxw) rfl) ?_
  refine Z36 ?_
  refine Z7w ?_
  refine Zpw ?_
  refine Zop ?_
  refine Zoq ?_
  refine Zb7 ?_
  rw [t1]
  refine Z5l ?_
  refine ⟨k+1,by omega,by omega,by rw [s1,List.length_append];exact Y6,Fit.loc hB (by rw [s1];simp only [List.length_append,List.length_cons,List.length_nil,List.map_append,List.map_cons,List.map_nil];rfl) Y1 (hb3 _ _)⟩
 have:k=i.jobs.length:=by simp at hc;omega
 subst this
 rw [List.take_length]
 refine Z4s ?_
 refine q22 (k:=3) 6 4 rfl (by decide) rfl ?_
 refine q1k ?_
 refine Z6d ?_
 refine Z9f ?_
 refine Zpv ?_
 refine Z1d ?_
 refine qm (G:=Nat) (fun k=>k≤i.table.length) (fun k=>[(1,.pt (Lid H.length 0) 0 0 0),(2,.pt (Lid H.length 1) 0 0 0),(3,.sl (Lid H.length 2) i.jobs.length 0 i.jobs.length i.jobs.length),(6,.sl (Lid H.length 3) (i.table.take k).length 0 (i.table.take k).length (i.table.take k).length),(38,.pl (i.table.map qg)),(39,.int .i64 (i.table.length:Int)),(40,.int .i64 (k:Int))]) (fun k=>H++[⟨0,9,[q19 i]⟩,⟨0,9,[z9]⟩,⟨i.jobs.length,13,i.jobs.map q1d⟩,⟨(i.table.take k).length,4,(i.table.take k).map qg⟩]) (fun k=>i.table.length-k) 0 (Nat.zero_le _) Y6 (.inl rfl) ?_
 intro k hk
 refine Z5a ?_
 refine qa rfl (fun hc=>?_) (fun hc=>?_)
 ·have hlt:k<i.table.length:=by simpa using hc
  obtain ⟨x,hx,hxl⟩:=qo hlt
  have hr:=qh qg hx
  have hxw:=w5.2 x hxl
  have w6:=w5.1
  have s1:i.table.take (k+1)=i.table.take k++[x]:=ql hx
  have n1:(i.table.take k).length≤1000000:=by rw [List.length_take];omega
  have t1:((i.table.take k).map qg).take (i.table.take k).length=(i.table.take k).map qg:=List.take_of_length_le (by simp)
  refine Zi9 ?_
  refine Zen ?_
  refine Z53 ?_
  refine ao2 Y11 (V2.call (q3a x.things _ hxw) rfl) ?_
  refine Z36 ?_
  refine Zhw ?_
  refine Zpw ?_
  refine Zop ?_
  refine Zpo ?_
  rw [t1]
  refine Z5l ?_
  refine ⟨k+1,by omega,by omega,by rw [s1,List.length_append];exact Y6,Fit.loc hB (by rw [s1];simp only [List.length_append,List.length_cons,List.length_nil,List.map_append,List.map_cons,List.map_nil];rfl) Y1 (hbel _ i.jobs _)⟩
 have:k=i.table.length:=by simp at hc;omega
 subst this
 rw [List.take_length]
 refine Z1d ?_
 refine qu (ys:=i.jobs.map q1d) 3 rfl rfl rfl rfl Yg (by simp) (q2t 0 _) ?_
 refine qu (ys:=i.table.map qg) 6 rfl rfl rfl rfl Yg (by simp) (q1e 0 _) ?_
 refine Zf4 ?_
 refine Z4n ?_
 refine Zpx ?_
 refine Zpx ?_
 refine qf ?_
 refine Zpy ?_
 refine Z4c ?_
 refine Zok ?_
 refine qf ?_
 refine Z89 ?_
 exact Zhx
def qst (l:List Int) (k:Nat):Int:=if k=0 then 0 else l.getD (k-1) 0
def rB (l:List Int) (k:Nat):Bool:=decide (qst l k<l.getD k 0)
theorem qsj (l:List Int):q66 l=(qh4 (rB l) l.length&&decide (l.length≤16)):=rfl
theorem qil (l:List Int) (H:qj) (hl:l.length≤1000000):AC Tryz.prog 149 [.pl (l.map eI)] H (Ret (.bool (q66 l)) H):=by
 rw [qsj]
 refine AC.body (N:=20) [.tmp 2] Tryz.func149 rfl rfl rfl (Nat.le_of_ble_eq_true rfl) fun B hB=>?_
 refine Z1r ?_
 refine Z9i ?_
 refine qm (G:=Nat) (fun k=>k≤l.length∧∀ m,m<k→rB l m=true) (fun k=>[(0,.pl (l.map eI)),(3,.int .i64 (qst l k)),(6,.pl (l.map eI)),(7,.int .i64 (l.length:Int)),(8,.int .i64 (k:Int))]) (fun _=>H++[]) (fun k=>l.length-k) 0 ⟨Nat.zero_le _,fun m hm=>by omega⟩ Y6 (Fit.refl _ _) ?_
 rintro k ⟨hk,hno⟩
 refine Z5a ?_
 refine qa rfl (fun hc=>?_) (fun hc=>?_)
 ·have hlt:k<l.length:=by simpa using hc
  obtain ⟨x,hx,hxl⟩:=qo hlt
  have hr:=qh eI hx
  have hd:l.getD k 0=x:=by rw [List.getD_eq_getElem?_getD,hx];rfl
  have hat:rB l k=decide (qst l k<x):=by rw [rB,hd]
  have hlast:qst l (k+1)=x:=by rw [qst,if_neg (by omega),Nat.add_sub_cancel,hd]
  refine Zjs ?_
  refine Z2t ?_
  refine Zg ?_
  refine Z9 ?_
  refine qa rfl (fun hc=>?_) (fun hc=>?_)
  ·have hbad:rB l k=false:=by rw [hat];simp at hc;exact decide_eq_false (by omega)
   refine Zf ?_
   rw [q1z hlt hbad,Bool.false_and]
   exact Zb
  ·have hgood:rB l k=true:=by rw [hat];simp at hc;exact decide_eq_true (by omega)
   refine Z1c ?_
   refine Z5l ?_
   refine ⟨k+1,by omega,⟨by omega,fun m hm=>?_⟩,by rw [hlast];exact Y6,.refl _ _⟩
   rcases Nat.lt_or_eq_of_le (Nat.le_of_lt_succ hm) with h | h
   ·exact hno m h
   ·subst h;exact hgood
 ·have:k=l.length:=by simp at hc;omega
  subst this
  refine Z8u ?_
  refine Zg ?_
  refine Ze ?_
  rw [q2s hno,Bool.true_and]
  exact Zmo
set_option maxHeartbeats 0 in
theorem qqa (l:List Job) (s:Spec) (needs:List Int) (now:Int) (H:qj) (hw:JW l) (hn:needs.length≤1000000):AC Tryz.prog 100 [.pl (l.map q1d),.agg (q2i s),.pl (needs.map eI),.int .i64 now] H (Ret (.tup [.pl ((q18 l s needs now).1.map q1d),.int .i64 (q18 l s needs now).2.1,.int .i64 (q18 l s needs now).2.2]) H):=by
 have hw1:=hw.1
 refine AC.body (N:=94) [.tmp 8,.tmp 9,.tmp 10] Tryz.func100 rfl rfl rfl (Nat.le_of_ble_eq_true rfl) fun B hB=>?_
 refine Zpz ?_
 refine Z16 ?_
 refine Z33 ?_
 refine Z4o ?_
 refine Zou ?_
 refine Zb5 ?_
 refine Zp5 ?_
 refine Z2 ?_
 refine Zon ?_
 refine Zlu ?_
 refine qf ?_
 refine Zq0 ?_
 refine Z8u ?_
 refine Z2q ?_
 refine q4m ([(0,.pl (l.map q1d)),(2,.pl (needs.map eI)),(3,.int .i64 now),(5,.pt (Lid H.length 0) 0 0 0),(11,.sl (Lid H.length 1) l.length 0 l.length l.length),(12,.pt (Lid H.length 2) 0 0 0)]) (H++[⟨0,7,[q2i s]⟩,⟨l.length,13,l.map q1d⟩,⟨0,13,[q1d (q15 l)]⟩]) ?_ ?_
 ·refine Z1 ?_
  refine qa rfl (fun hc=>?_) (fun hc=>?_)
  ·have h0:0<l.length:=by simpa using hc
   obtain ⟨x,hx,hxl⟩:=qo (l:=l) (k:=l.length-1) (by omega)
   have hr:=qh q1d hx
   have hjl:q15 l=x:=by rw [q15,if_neg (by omega),q12 hx]
   refine Zf4 ?_
   refine Z8w ?_
   refine Zq1 ?_
   refine Zcy ?_
   refine Z85 ?_
   refine qf ?_
   refine Z88 ?_
   exact q2d Y6 (.inl (by rw [hjl]))
  ·have h0:l.length=0:=by simp at hc;simp [hc]
   have hjl:q15 l=qua:=by rw [q15,if_pos h0]
   refine Z1 ?_
   exact q2d Y6 (.inl (by rw [hjl];rfl))
 generalize hlast:q15 l=last
 refine Z1 ?_
 refine qn 53 (.bool (!(q24 l&&q2m s&&q66 needs&&tm now)||decide (now<last.came))) ?_ ?_
 ·refine Z4n ?_
  refine Zom ?_
  refine Z26 ?_
  refine qb rfl rfl (fun hg3=>?_) (fun hg3=>?_)
  ·refine Z3x ?_
   refine Z3l ?_
   refine Z5g ?_
   exact Zq2
  ·refine Z5x ?_
   refine Z5w ?_
   refine Z66 ?_
   refine qb rfl rfl (fun hg8=>?_) (fun hg8=>?_)
   ·refine Z3x ?_
    refine Z5g ?_
    exact Zq2
   ·refine Zc3 ?_
    refine q5b rfl rfl (by decide) (V2.call (qil _ _ (by omega)) rfl) ?_
    refine Z66 ?_
    refine qb rfl rfl (fun hg13=>?_) (fun hg13=>?_)
    ·refine Z3l ?_
     refine Z5g ?_
     exact Zq2
    ·refine Zj ?_
     refine Z5y ?_
     refine Z66 ?_
     refine qb rfl rfl (fun hg18=>?_) (fun hg18=>?_)
     ·refine Z5g ?_
      exact Zq2
     ·refine Z8t ?_
      refine Zr ?_
      exact Zq2
 refine Z1 ?_
 refine qa rfl (fun hc=>?_) (fun hc=>?_)
 ·have he:q18 l s needs now=(l,0,1):=by rw [q18,hlast,if_pos hc]
  rw [he]
  refine Zos ?_
  refine Z16 ?_
  try dsimp only
  refine Z1d ?_
  refine Zq3 ?_
  exact Zq5
 have hc1:=hc
 have hyes:q24 l=true:=by
  cases h:q24 l with
  | true=>rfl
  | false=>rw [h] at hc;simp at hc
 have hs:=q28 hyes
 have hnn:needs.length≤16:=by
  cases h:q66 needs with
  | true=>simp only [q66,Bool.and_eq_true,decide_eq_true_eq] at h;exact h.2
  | false=>rw [h] at hc;simp at hc
 clear hc
 refine Z9h ?_
 refine qm (G:=Nat) (fun k=>k≤needs.length∧∀ n∈needs.take k,q29 l n=true) (fun k=>[(0,.pl (l.map q1d)),(2,.pl (needs.map eI)),(3,.int .i64 now),(5,.pt (Lid H.length 0) 0 0 0),(11,.sl (Lid H.length 1) l.length 0 l.length l.length),(12,.pt (Lid H.length 2) 0 0 0),(55,.pl (needs.map eI)),(56,.int .i64 (needs.length:Int)),(57,.int .i64 (k:Int))]) (fun _=>H++[⟨0,7,[q2i s]⟩,⟨l.length,13,l.map q1d⟩,⟨0,13,[q1d last]⟩]) (fun k=>needs.length-k) 0 ⟨Nat.zero_le _,by simp⟩ Y6 (.inl rfl) ?_
 rintro k ⟨hk,hno⟩
 refine Z5a ?_
 refine qa rfl (fun hc=>?_) (fun hc=>?_)
 ·have hlt:k<needs.length:=by simpa using hc
  obtain ⟨n,hn',hnl⟩:=qo hlt
  have hr:=qh eI hn'
  clear hc
  refine Zjs ?_
  refine Zbe ?_
  refine Zjt ?_
  refine Zi5 ?_
  refine qa rfl (fun hc=>?_) (fun hc=>?_)
  ·have hbad:q29 l n=false:=by simpa only [Bool.not_eq_true'] using hc
   have hall:(needs.all fun n=>q29 l n)=false:=by rw [List.all_eq_false];exact ⟨n,hnl,by rw [hbad];decide⟩
   have he:q18 l s needs now=(l,0,6):=by rw [q18,hlast,if_neg Y15,hall];rfl
   rw [he]
   refine Zos ?_
   refine Z16 ?_
   try dsimp only
   refine Z1d ?_
   refine Zq3 ?_
   exact Zq5
  ·have hgood:q29 l n=true:=by simpa only [Bool.not_eq_false'] using hc
   refine Z5l ?_
   refine ⟨k+1,by omega,⟨by omega,?_⟩,Y6,.inl rfl⟩
   rw [ql hn']
   intro y hy
   rcases List.mem_append.1 hy with h | h
   ·exact hno y h
   ·simp only [List.mem_singleton] at h
    subst h
    exact hgood
 ·have:k=needs.length:=by simp at hc;omega
  subst this
  rw [List.take_length] at hno
  have hall:(needs.all fun n=>q29 l n)=true:=List.all_eq_true.2 hno
  clear hc
  refine Z8u ?_
  refine Z14 ?_
  refine qa rfl (fun hc=>?_) (fun hc=>?_)
  ·have h64:l.length=64:=by simp at hc;omega
   have he:q18 l s needs now=(l,0,5):=by rw [q18,hlast,if_neg Y15,hall,if_pos h64];rfl
   rw [he]
   refine Zos ?_
   refine Z16 ?_
   try dsimp only
   refine Z1d ?_
   refine Zq3 ?_
   exact Zq5
  have h64:l.length≠64:=by simp at hc;omega
  clear hc
  refine Z4i ?_
  refine Z7g ?_
  refine Z1 ?_
  refine qa rfl (fun hc=>?_) (fun hc=>?_)
  ·have hid:last.id=1073741824:=by simpa using hc
   have he:q18 l s needs now=(l,0,9):=by rw [q18,hlast,if_neg Y15,hall,if_neg h64,if_pos hid];rfl
   rw [he]
   refine Zos ?_
   refine Z16 ?_
   try dsimp only
   refine Z1d ?_
   refine Zq3 ?_
   exact Zq5
  have hid:last.id≠1073741824:=by simpa using hc
  have hle:0≤last.id∧last.id≤1073741824:=by
   rw [← hlast,q15]
   split
   ·exact ⟨by decide,by decide⟩
   ·rename_i h
    have hm:=(jobs_iff.1 hyes).2.1 (q1r l (l.length-1)) (by rw [q12 (List.getElem?_eq_getElem (show l.length-1<l.length by omega))];exact List.getElem_mem _)
    simp only [q1q,Bool.and_eq_true,decide_eq_true_eq] at hm
    omega
  have he:q18 l s needs now=(l++[⟨last.id+1,s,needs,0,now,0,0⟩],last.id+1,0):=by rw [q18,hlast,if_neg Y15,hall,if_neg h64,if_neg hid];rfl
  rw [he]
  clear hc he hall hno
  refine Z4i ?_
  refine ao1 (by decide) (q5y (r:=last.id+1) rfl rfl (q1b (by omega) (by omega))) ?_
  refine Z4h ?_
  refine q2y mixed (some 8) 3 ?_
  refine Za9 ?_
  refine Zex ?_
  refine qv9 [7,6,2] 2 rfl Y17 (by decide) (fun G=>q2h rfl (lk rfl rfl) rfl rfl rfl) ?_
  refine aq0 3 rfl Y17 (by decide) (fun _=>qd (v:=.pl _) rfl) ?_
  refine q48 4 rfl Y17 (by decide) (fun _=>V2.call (q3a needs _ hn) rfl) ?_
  refine Z1n ?_
  refine aq0 6 rfl Y17 (by decide) (fun _=>V1.up (q4i (cs:=[.int _ _,.int _ _,.int _ _,.int _ _,.str _,.bool _,.int _ _,.int _ _,_,.int _ _,.int _ _,.int _ _,.int _ _]) rfl)) ?_
  refine q48 7 rfl Y17 (by decide) (fun _=>qbc (sz:=13) (v:=.agg (q1d ⟨last.id+1,s,needs,0,now,0,0⟩)) (cs:=q1d ⟨last.id+1,s,needs,0,now,0,0⟩) rfl (by decide) (by decide) rfl rfl rfl rfl rfl) ?_
  refine Zq6 ?_
  refine aqs 8 rfl Y17 Yv Y11 (q5e rfl rfl rfl rfl rfl (Src.pl (ys:=[q1d ⟨last.id+1,s,needs,0,now,0,0⟩]) rfl (q6v [⟨last.id+1,s,needs,0,now,0,0⟩])) rfl (by simp) (by simp) Y1c Y1c) ?_
  refine aq0 10 rfl Y17 (by decide) (fun _=>q14 (v:=.sl _ _ _ _ _) rfl) ?_
  refine aq0 11 rfl Y17 (by decide) (fun _=>q14 (v:=.int _ _) rfl) ?_
  refine Zq7 ?_
  refine Z9q ?_
  refine Zq8 ?_
  refine Z1d ?_
  refine qu (ys:=(l++[(⟨last.id+1,s,needs,0,now,0,0⟩:Job)]).map q1d) 8 rfl rfl rfl rfl (by rw [List.drop_zero,List.take_of_length_le (by simp),List.take_of_length_le (by simp),List.map_append];rfl) (by simp) (q2t 0 _) ?_
  exact Zq5
theorem qhy (l:List Int) (v:Int) (H:qj) (hl:l.length≤1000000):AC Tryz.prog 153 [.pl (l.map eI),.int .i64 v] H (Ret (.int .i64 (ixf (fun x=>decide (v=x)) l)) H):=by
 refine AC.body (N:=19) [.tmp 4] Tryz.func153 rfl rfl rfl (Nat.le_of_ble_eq_true rfl) fun B hB=>?_
 refine Z9i ?_
 refine qm (G:=Nat) (fun k=>k≤l.length∧∀ y∈l.take k,decide (v=y)=false) (fun k=>[(0,.pl (l.map eI)),(1,.int .i64 v),(7,.int .i64 (l.length:Int)),(8,.int .i64 (k:Int))]) (fun _=>H++[]) (fun k=>l.length-k) 0 ⟨Nat.zero_le _,by simp⟩ Y6 (Fit.refl _ _) ?_
 rintro k ⟨hk,hno⟩
 refine Z5a ?_
 refine qa rfl (fun hc=>?_) (fun hc=>?_)
 ·have hlt:k<l.length:=by simp at hc;omega
  obtain ⟨x,hx,hxl⟩:=qo hlt
  have hr:=qh eI hx
  refine Z1c ?_
  refine Z12 ?_
  refine Zc7 ?_
  refine Z5d ?_
  refine Z17 ?_
  refine qa rfl (fun hc=>?_) (fun hc=>?_)
  ·have he:v=x:=by simpa using hc
   refine Z1w ?_
   rw [q9k (p:=fun x=>decide (v=x)) hx (decide_eq_true he) hno]
   exact Zb
  ·have he:¬ v=x:=by simpa using hc
   refine Z5l ?_
   refine ⟨k+1,by omega,⟨by omega,?_⟩,Y6,.refl _ _⟩
   rw [ql hx]
   intro y hy
   rcases List.mem_append.1 hy with h | h
   ·exact hno y h
   ·simp only [List.mem_singleton] at h
    subst h
    exact decide_eq_false he
 ·have:k=l.length:=by simp at hc;omega
  subst this
  rw [List.take_length] at hno
  rw [q9z hno]
  exact Z19
theorem qh9 (l:List Int) (v:Int):decide (ixf (fun x=>decide (v=x)) l≥0)=l.contains v:=by
 rw [q6g,Bool.eq_iff_iff,List.any_eq_true,List.contains_iff_mem]
 constructor
 ·rintro ⟨x,hx,e⟩
  rw [decide_eq_true_eq] at e
  subst e
  exact hx
 ·intro h
  exact ⟨v,h,by simp⟩
theorem q7n (l:List Int) (v:Int) (H:qj) (hl:l.length≤1000000):AC Tryz.prog 108 [.pl (l.map eI),.int .i64 v] H (Ret (.bool (l.contains v)) H):=by
 rw [← qh9]
 refine AC.body (N:=9) [.tmp 4] Tryz.func108 rfl rfl rfl (Nat.le_of_ble_eq_true rfl) fun B hB=>?_
 refine Z1r ?_
 refine Zbe ?_
 refine q13 (qhy _ _ _ (by omega)) rfl (by decide) ?_
 refine Z1s ?_
 exact Z1t
set_option maxHeartbeats 0 in
theorem qoj (g:List Thing) (h:List Int) (n how:Int) (H:qj) (hl:g.length≤1000000) (hh:h.length≤1000000):AC Tryz.prog 110 [.pl (g.map qq),.pl (h.map eI),.int .i64 n,.int .i64 how] H (Ret (.tup [.pl ((q4s g h n how).1.map eI),.int .i64 (q4s g h n how).2]) H):=by
 refine AC.body (N:=42) [.tmp 8,.tmp 9] Tryz.func110 rfl rfl rfl (Nat.le_of_ble_eq_true rfl) fun B hB=>?_
 refine Z4l ?_
 refine Z4 ?_
 refine Z4o ?_
 refine ao2 Y11 (V2.callo (q9j h _ hh) rfl rfl) ?_
 refine Zb5 ?_
 refine Z9e ?_
 refine Z1 ?_
 refine qn 13 (.bool (!q2o g h||decide (how<0)||decide (2<how))) ?_ ?_
 ·refine Z4n ?_
  refine Z4n ?_
  refine Zf3 ?_
  refine Z26 ?_
  refine qb rfl rfl (fun hg4=>?_) (fun hg4=>?_)
  ·refine Z7z ?_
   refine Z3j ?_
   exact Zhm
  ·refine Z82 ?_
   refine qb rfl rfl (fun hg8=>?_) (fun hg8=>?_)
   ·refine Z3j ?_
    exact Zhm
   ·refine Zj ?_
    refine Z3n ?_
    refine Zs ?_
    exact Zgw
 refine Z1 ?_
 refine qa rfl (fun hc=>?_) (fun hc=>?_)
 ·rw [show q4s g h n how=(h,1) by rw [q4s,if_pos hc]]
  refine Zov ?_
  try dsimp only
  refine Z1d ?_
  refine Zq9 ?_
  exact Zox
 have hc1:=hc
 clear hc
 refine Z1 ?_
 refine qn 27 (.bool (decide (n<0)||decide ((h.length:Int)≤n))) ?_ ?_
 ·refine Zw ?_
  refine qb rfl rfl (fun hg2=>?_) (fun hg2=>?_)
  ·refine Z5f ?_
   exact Zhm
  ·refine Zj ?_
   refine Zcw ?_
   refine Z27 ?_
   refine Zs ?_
   exact Zgw
 refine Z1 ?_
 refine qa rfl (fun hc=>?_) (fun hc=>?_)
 ·rw [show q4s g h n how=(h,6) by rw [q4s,if_neg Y15,if_pos Y19]]
  refine Zov ?_
  try dsimp only
  refine Z1d ?_
  refine Zq9 ?_
  exact Zox
 have hn:0≤n∧n<(h.length:Int):=by simp at hc;omega
 rw [show q4s g h n how=(h.set n.toNat how,0) by rw [q4s,if_neg Y15,if_neg (by omega)]]
 obtain ⟨k,rfl⟩:∃ k:Nat,n=(k:Int):=⟨n.toNat,by omega⟩
 obtain ⟨x,hx,_⟩:=qo (l:=h) (k:=k) (by omega)
 have hr:=qh eI hx
 clear hc
 refine Zb1 ?_
 refine Z30 ?_
 refine Zei ?_
 refine ao2 Y1b (q25 (sz:=1) (v:=.int .i64 how) (r':=eI how) rfl rfl rfl rfl (qm1 hr) rfl rfl rfl (Nat.le_refl 1) rfl) ?_
 refine Zej ?_
 rw [Nat.zero_add]
 refine Zov ?_
 refine Z1d ?_
 refine qu (ys:=(h.set k how).map eI) 8 rfl rfl rfl rfl (by rw [List.drop_zero,List.take_of_length_le (by simp),List.map_set]) (by simp) (qcl 0 _) ?_
 refine q33 ?_
 rw [Int.toNat_natCast]
 exact Z7r
theorem qqy (l:List Job) (H:qj) (hl:l.length≤1000000):AC Tryz.prog 201 [.pl (l.map q1d)] H (Ret (.pl ((l.map (·.id)).map eI)) H):=by
 refine AC.body (N:=19) [.tmp 2] Tryz.func201 rfl rfl rfl (Nat.le_of_ble_eq_true rfl) fun B hB=>?_
 refine Z4m ?_
 refine Z4s ?_
 refine q22 (k:=0) 3 1 rfl (by decide) rfl ?_
 refine Zel ?_
 refine Zc5 ?_
 refine Z1d ?_
 refine qm (G:=Nat) (fun k=>k≤l.length) (fun k=>[(6,.pl (l.map q1d)),(7,.int .i64 (l.length:Int)),(8,.int .i64 (k:Int)),(3,.sl (Lid H.length 0) k 0 k k)]) (fun k=>H++[⟨k,1,((l.take k).map (·.id)).map eI⟩]) (fun k=>l.length-k) 0 (Nat.zero_le _) Y6 (Fit.refl _ _) ?_
 intro k hk
 refine Z5a ?_
 refine qa rfl (fun hc=>?_) (fun hc=>?_)
 ·have hlt:k<l.length:=by simpa using hc
  obtain ⟨x,hx,hxl⟩:=qo hlt
  have hr:=qh q1d hx
  refine Zi7 ?_
  refine Zlv ?_
  refine Zb1 ?_
  refine Z37 ?_
  refine Zb3 ?_
  refine Zor ?_
  refine Zb5 ?_
  refine Zcs ?_
  refine Z5l ?_
  refine ⟨k+1,by omega,by omega,Y6,Fit.loc hB (by rw [ql hx,List.map_append,List.map_append,List.take_of_length_le Y1c];rfl) Y1 ?_⟩
  intro o ho r hr
  simp only [List.mem_singleton] at ho
  subst ho
  exact q1y _ _ r hr
 ·have:k=l.length:=by simp at hc;omega
  subst this
  rw [List.take_length]
  refine Zba ?_
  refine qu (ys:=(l.map (·.id)).map eI) 2 rfl rfl rfl rfl Yg (by simp) (q1y 0 _) ?_
  exact Zbb
end Go.Av
namespace Go.Av
open Go
section
variable {P : Program} {N : Nat} {env : Env} {H : qj}
theorem CR.ghostC {B:Base} {S:List Slot} {a:Act} {w:World} {k i j sz:Nat} {q:AObj} {r:List AV} (h:CR N env H S a w) (hx:Ext B.S B.w S w) (hk:H[k]?=some q) (hr:q.rows[i]?=some r) (hj:r[j]?=some .nsl) (hp:0<sz) :
  ∃ S',CR N env ((H++[(⟨0,sz,[]⟩:AObj)]).set k { q with rows:=q.rows.set i (r.set j (.sl H.length 0 0 0 0)) }) S' a w∧Ext B.S B.w S' w:=by
 obtain ⟨s,hs,ok⟩:=h.heap.slot hk
 have hil:=(List.getElem?_eq_some_iff.1 hr).1
 cases hpl:s.place with
 | none=>rw [ok.nope hpl] at hil;simp at hil
 | some b =>
  obtain ⟨arr,ty,h1,h2,h3⟩:=ok.lies b hpl
  obtain ⟨k1,k2⟩:=h3 i r hr
  obtain ⟨_,u,hu,hv⟩:=k2 j _ hj
  have hc:CR 1 [(0,.nsl)] H S { tmps:=#[u],defers:=[] } w:=⟨h.heap,fun t=>by
   cases t with
   | zero=>exact hv
   | succ t=>exact .junk,rfl,rfl⟩
  obtain ⟨S',hc',hx'⟩:=hc.ghost (B:=⟨S,w⟩) (t:=0) (Ext.refl S w) rfl hp
  have hv2:=hc'.env 0
  rw [qv] at hv2
  have hk':(H++[(⟨0,sz,[]⟩:AObj)])[k]?=some q:=by rw [List.getElem?_append_left (List.getElem?_eq_some_iff.1 hk).1];exact hk
  obtain ⟨s',hs',ok'⟩:=hc'.heap.slot hk'
  obtain ⟨s2,hs2,hg,he⟩:=hx'.slots k s hs
  rw [hs'] at hs2
  obtain rfl:=Option.some.inj hs2
  have hpl':s'.place=some b:=(he (by rw [← ok'.gen,ok.gen])).2.trans hpl
  have hh:=hc'.heap.retell (v2:=.sl H.length 0 0 0 0) hk' hs' hpl' h1 hr (List.getElem?_eq_some_iff.1 hj).1 hu rfl hv2
  exact ⟨S',⟨hh,fun t=>(h.env t).ext hx',h.size,h.defers⟩,hx.trans hx'⟩
theorem qsz {B:Base} {Q:q77} {c:Code} {L:qj} {H0:qj} {n k i j sz:Nat} {q:AObj} {r:List AV} (k':Nat) (hk':k'=k) (hk:L[k]?=some q) (hr:q.rows[i]?=some r) (hj:r[j]?=some .nsl) (hn:H0.length=n) (hp:0<sz)
  (h:AWp P N B c Q env (H0++(L.set k { q with rows:=q.rows.set i (r.set j (.sl (Lid n L.length) 0 0 0 0)) }++[⟨0,sz,[]⟩]))):AWp P N B c Q env (H0++L):=fun S a w hc hb=>by
 obtain ⟨S',hc',hb'⟩:=hc.ghostC (k:=Lid n k) (sz:=sz) hb (lk hn hk) hr hj hp
 have hkl:=(List.getElem?_eq_some_iff.1 hk).1
 have e:((H0++L)++[(⟨0,sz,[]⟩:AObj)]).set (Lid n k) { q with rows:=q.rows.set i (r.set j (.sl (H0++L).length 0 0 0 0)) } = H0++(L.set k { q with rows:=q.rows.set i (r.set j (.sl (Lid n L.length) 0 0 0 0)) }++[⟨0,sz,[]⟩]):=by
  rw [List.append_assoc,show (H0++L).length=Lid n L.length by rw [List.length_append,hn];rfl,st hn,List.set_append_left _ _ hkl]
 rw [e] at hc'
 exact h S' a w hc' hb'
end
section
variable {P : Program} {N : Nat} {B : Base} {Q : q77} {env : Env} {c : Code} {H0 L : qj}
def gk (n N m:Nat):List (List AV):=(List.range N).map fun j=>if j<m then [AV.sl (n+(j+4)) 0 0 0 0] else [.nsl]
theorem qx0 (n N:Nat):gk n N 0=List.replicate N [AV.nsl]:=by
 apply List.ext_getElem?
 intro j
 by_cases h:j<N
 ·simp [gk,h]
 ·rw [List.getElem?_eq_none (by simp [gk];omega),List.getElem?_eq_none Y1c]
theorem qn6 {n N m j:Nat} (h:j<N):(gk n N m)[j]?=some (if j<m then [AV.sl (n+(j+4)) 0 0 0 0] else [.nsl]):=by simp [gk,h]
theorem qxs {n N m:Nat} (h:m<N):(gk n N m).set m [AV.sl (n+(m+4)) 0 0 0 0]=gk n N (m+1):=by
 apply List.ext_getElem?
 intro j
 rw [List.getElem?_set]
 have hl:(gk n N m).length=N:=by simp [gk]
 by_cases hj:j<N
 ·rw [qn6 hj]
  by_cases e:m=j
  ·subst e;rw [if_pos rfl,if_pos (by omega),qn6 hj,if_pos (by omega)]
  ·rw [if_neg e,qn6 hj]
   by_cases e2:j<m
   ·rw [if_pos e2,if_pos (by omega)]
   ·rw [if_neg e2,if_neg (by omega)]
 ·rw [List.getElem?_eq_none (by simp [gk];omega),if_neg (by omega),List.getElem?_eq_none (by simp [gk];omega)]
theorem qd9 {pk M : Nat} (hL : L.length = 4) (hp : pk < 4) (h : AWp P N B c Q env (H0 ++ (L.set pk ⟨0, 1, gk H0.length M M⟩ ++ List.replicate M ⟨0, 1, []⟩))) (hk : L[pk]? = some ⟨0, 1, List.replicate M [.nsl]⟩) : AWp P N B c Q env (H0 ++ L) := by
  have key : ∀ d m, m + d = M → AWp P N B c Q env (H0 ++ (L.set pk ⟨0, 1, gk H0.length M m⟩ ++ List.replicate m ⟨0, 1, []⟩)) := by
    intro d
    induction d with
    | zero => intro m hm; obtain rfl : m = M := by omega
              exact h
    | succ d ih =>
      intro m hm
      have e0 : (L.set pk (⟨0, 1, gk H0.length M m⟩ : AObj) ++ List.replicate m (⟨0, 1, []⟩ : AObj))[pk]? = some ⟨0, 1, gk H0.length M m⟩ := by
        rw [List.getElem?_append_left Y1c, List.getElem?_set_self (by omega)]
      refine qsz (k := pk) (i := m) (j := 0) (sz := 1) pk rfl e0 (by show (gk _ _ _)[m]? = _; rw [qn6 (by omega), if_neg (by omega)]) rfl rfl (by decide) ?_
      have := ih (m + 1) (by omega)
      have e1 : ((L.set pk (⟨0, 1, gk H0.length M m⟩ : AObj) ++ List.replicate m (⟨0, 1, []⟩ : AObj)).set pk { gen := 0, sz := 1, rows := (gk H0.length M m).set m ([AV.nsl].set 0 (.sl (Lid H0.length (L.set pk (⟨0, 1, gk H0.length M m⟩ : AObj) ++ List.replicate m (⟨0, 1, []⟩ : AObj)).length) 0 0 0 0)) } ++ [(⟨0, 1, []⟩ : AObj)]) = L.set pk ⟨0, 1, gk H0.length M (m + 1)⟩ ++ List.replicate (m + 1) ⟨0, 1, []⟩ := by
        rw [List.set_append_left _ _ Y1c, List.set_set, List.replicate_succ', List.append_assoc]
        congr 3
        rw [← qxs (show m < M by omega)]
        simp only [List.set_cons_zero, List.length_append, List.length_set, List.length_replicate, hL, Lid]
        rw [Nat.add_comm 4 m]
      rw [e1]
      exact this
  have := key M 0 (by omega)
  rw [qx0, List.replicate_zero, List.append_nil] at this
  have e : L.set pk ⟨0, 1, List.replicate M [.nsl]⟩ = L := by
    apply List.ext_getElem?
    intro j
    rw [List.getElem?_set]
    by_cases e : pk = j
    · subst e; rw [if_pos rfl, if_pos (by omega), hk]
    · rw [if_neg e]
  rwa [e] at this
theorem qu7 {M:qj} (M':qj) (e:M=M') (h:AWp P N B c Q env M'):AWp P N B c Q env M:=by
 subst e;exact h
theorem qbl {E:Env} {M M' K:qj} (e:M=M') (h:Fit B E M' K):Fit B E M K:=by
 subst e;exact h
abbrev eN1 (x:Int):List AV:=[.int .i64 x]
def qcn (n:Nat) (f:Nat→List Int) (m j:Nat):List AV:=if j<m then [.pl ((f j).map eN1)] else [.sl (n+(j+4)) (f j).length 0 (f j).length (f j).length]
def qt7 (f:Nat→List Int) (m j:Nat):AObj:=if j<m then ⟨(f j).length+1,1,[]⟩ else ⟨(f j).length,1,(f j).map eN1⟩
def q2j (n:Nat) (f:Nat→List Int) (M m:Nat):List (List AV):=(List.range M).map (qcn n f m)
def q42 (f:Nat→List Int) (M m:Nat):List AObj:=(List.range M).map (qt7 f m)
theorem q3s {α:Type} {f g:Nat→α} {M m:Nat} {x:α} (hx:g m=x) (h:∀ j,j≠m→g j=f j):((List.range M).map f).set m x=(List.range M).map g:=by
 apply List.ext_getElem?
 intro j
 rw [List.getElem?_set]
 by_cases hj:j<M
 ·by_cases e:m=j
  ·subst e;rw [if_pos rfl,if_pos (by simpa using hj)];simp [hj,hx]
  ·rw [if_neg e];simp [hj,h j (Ne.symm e)]
 ·rw [List.getElem?_eq_none (l:=(List.range M).map g) Y1c]
  split
  ·rw [if_neg Y1c]
  ·exact List.getElem?_eq_none Y1c
theorem qaz {pk M : Nat} {f : Nat → List Int} (hL : L.length = 4) (hp : pk < 4) (h : AWp P N B c Q env (H0 ++ (L.set pk ⟨0, 1, q2j H0.length f M M⟩ ++ q42 f M M))) (hk : L[pk]? = some ⟨0, 1, q2j H0.length f M 0⟩) : AWp P N B c Q env (H0 ++ (L ++ q42 f M 0)) := by
  have key : ∀ d m, m + d = M → AWp P N B c Q env (H0 ++ (L.set pk ⟨0, 1, q2j H0.length f M m⟩ ++ q42 f M m)) := by
    intro d
    induction d with
    | zero => intro m hm; obtain rfl : m = M := by omega
              exact h
    | succ d ih =>
      intro m hm
      have hm' : m < M := by omega
      have e0 : (L.set pk (⟨0, 1, q2j H0.length f M m⟩ : AObj) ++ q42 f M m)[pk]? = some ⟨0, 1, q2j H0.length f M m⟩ := by
        rw [List.getElem?_append_left Y1c, List.getElem?_set_self (by omega)]
      have e2 : (L.set pk (⟨0, 1, q2j H0.length f M m⟩ : AObj) ++ q42 f M m)[m + 4]? = some ⟨(f m).length, 1, (f m).map eN1⟩ := by
        rw [List.getElem?_append_right Y1c, List.length_set, hL, Nat.add_sub_cancel]
        simp [q42, qt7, hm']
      have e3 : (q2j H0.length f M m)[m]? = some [.sl (H0.length + (m + 4)) (f m).length 0 (f m).length (f m).length] := by simp [q2j, qcn, hm']
      refine q5g (k := pk) (i := m) (j := 0) (kid := m + 4) (n := H0.length) (ys := (f m).map eN1) pk rfl e0 e3 rfl rfl (by omega) e2 rfl (by rw [List.drop_zero]; exact List.take_of_length_le (by simp)) (by simp) (fun r hr => by
        obtain ⟨x, _, rfl⟩ := List.mem_map.1 hr
        rfl) ?_
      have := ih (m + 1) (by omega)
      have e1 : ((L.set pk (⟨0, 1, q2j H0.length f M m⟩ : AObj) ++ q42 f M m).set (m + 4) ⟨(f m).length + 1, 1, []⟩).set pk { gen := 0, sz := 1, rows := (q2j H0.length f M m).set m ([AV.sl (H0.length + (m + 4)) (f m).length 0 (f m).length (f m).length].set 0 (.pl ((f m).map eN1))) } = L.set pk ⟨0, 1, q2j H0.length f M (m + 1)⟩ ++ q42 f M (m + 1) := by
        rw [List.set_append_right _ _ Y1c, List.length_set, hL, Nat.add_sub_cancel, List.set_append_left _ _ Y1c, List.set_set]
        congr 1
        · congr 2
          exact q3s (by simp [qcn]) fun j hj => by
            simp only [qcn]
            by_cases e : j < m
            · rw [if_pos e, if_pos (by omega)]
            · rw [if_neg e, if_neg (by omega)]
        · exact q3s (by simp [qt7]) fun j hj => by
            simp only [qt7]
            by_cases e : j < m
            · rw [if_pos e, if_pos (by omega)]
            · rw [if_neg e, if_neg (by omega)]
      rw [e1]
      exact this
  have := key M 0 (by omega)
  have e : L.set pk ⟨0, 1, q2j H0.length f M 0⟩ = L := by
    apply List.ext_getElem?
    intro j
    rw [List.getElem?_set]
    by_cases e : pk = j
    · subst e; rw [if_pos rfl, if_pos (by omega), hk]
    · rw [if_neg e]
  rwa [e] at this
end
section
variable {P : Program} {N : Nat} {B : Base} {ops : Array Oper} {a : Option Nat} {C : qj → Prop} {F : Env → qj → Prop} {Q : q77}
variable {fuel : Nat} {listed : Array Bool} {env : Env} {H H0 L : qj} {op : Op} {ty : TypeId} {pos : String} {after : Array Edge} {v : AV} {id : Nat} {l : List Oper}
def qz3 (p:Nat) (o:AObj) (p2:Nat) (o2:AObj) (n:Nat) (L0 H:qj):Prop:=∃ M G,H=M++(L0++G)∧M.length=n∧M[p]?=some o∧M[p2]?=some o2
theorem quf (hm:P.follows .mixedOrders=true) (a:Option Nat) (k:Nat) {p p2:Nat} {o o2:AObj} (hp:H0[p]?=some o) (hp2:H0[p2]?=some o2) (h:AAny P N B l.toArray a (qz3 p o p2 o2 H0.length (L.take k)) (Q .nrm) l.length (Array.replicate l.length false) env (H0++L)):AWp P N B (.region id l.toArray true) Q env (H0++L):=qh2 hm a _ h
theorem qk9 {d p p2 n:Nat} {o o2:AObj} {L0:qj} (i:Nat) (hi:ops[i]?=some ⟨some d,op,ty,pos,after,none⟩) (hB:q5u ops listed a i=true) (hd:DN d N) (h1:∀ M G,M.length=n→M[p]?=some o→M[p2]?=some o2→V1 P N op ty (renv ⟨some d,op,ty,pos,after,none⟩ env) (M++(L0++G)) v)
  (h:AAny P N B ops a (qz3 p o p2 o2 n L0) F fuel (listed.setIfInBounds i true) ((d,v) :: env) H):AAny P N B ops a (qz3 p o p2 o2 n L0) F (fuel+1) listed env H :=
 aq1 i hi hB hd (by rintro _ ⟨M,G,rfl,hn,hp,hp2⟩;exact h1 M G hn hp hp2) h
end
end Go.Av
namespace Go.Av
def q2l (g:List Thing) (l:List Int):List (List AV):=(List.range g.length).map fun m=>[AV.bool (inl l m)]
theorem qed (g:List Thing):q2l g []=List.replicate g.length [AV.bool false]:=by
 apply List.ext_getElem?
 intro j
 by_cases h:j<g.length
 ·simp [q2l,h,qso]
 ·rw [List.getElem?_eq_none (by simp [q2l];omega),List.getElem?_eq_none Y1c]
theorem q6c {g:List Thing} {l:List Int} {m:Nat} (h:m<g.length):(q2l g l)[m]?=some [AV.bool (inl l m)]:=by simp [q2l,h]
theorem qff (g:List Thing) (l:List Int):(q2l g l).length=g.length:=by simp [q2l]
theorem qgp {l:List Int} {k:Nat} {x:Int} (hx:l[k]?=some x) (n:Nat):inl (l.take (k+1)) n=(inl (l.take k) n||x == (n:Int)):=by
 rw [inl,List.take_add_one,hx,List.any_append];simp [inl]
theorem qez {g:List Thing} {l:List Int} {k m:Nat} (hx:l[k]?=some (m:Int)):(q2l g (l.take k)).set m [AV.bool true]=q2l g (l.take (k+1)):=by
 refine q3s (f:=fun j=>[AV.bool (inl (l.take k) j)]) (g:=fun j=>[AV.bool (inl (l.take (k+1)) j)]) ?_ ?_
 ·simp [qgp hx]
 ·intro j hj
  have:((m:Int) == (j:Int))=false:=by simp;omega
  simp [qgp hx,this]
theorem qc7 {g:List Thing} {l:List Int} {k:Nat} {x:Int} (hx:l[k]?=some x) (h:(g.length:Int)≤x):q2l g (l.take (k+1))=q2l g (l.take k):=by
 refine List.map_congr_left fun j hj=>?_
 rw [List.mem_range] at hj
 have:(x == (j:Int))=false:=by simp;omega
 rw [qgp hx,this,Bool.or_false]
def q37 (g:List Thing) (i m:Nat):List Int:=idx (fun j=>decide (2<q2k g j)&&decide (qh3 g j=(m:Int))) i
theorem qu5 (g:List Thing) (m:Nat):q37 g g.length m=q3l g m:=rfl
theorem qsx (g:List Thing) (m:Nat):q37 g 0 m=[]:=rfl
theorem qs2 (g:List Thing) (i m:Nat):(q37 g i m).length≤i:=q62 _ _
theorem qmb {g:List Thing} {i u:Nat} {t:Thing} (ht:g[i]?=some t) (hk:2<t.kind) (hu:t.up=(u:Int)):q37 g (i+1) u=q37 g i u++[(i:Int)]:=by
 rw [q37,q5t,q2k,qh3,ht]
 simp only [hu,decide_true,hk,Bool.and_self,if_true]
 rfl
theorem qmz {g:List Thing} {i u m:Nat} {t:Thing} (ht:g[i]?=some t) (hu:t.up=(u:Int)) (hm:m≠u):q37 g (i+1) m=q37 g i m:=by
 rw [q37,q5t,q2k,qh3,ht]
 have:decide (t.up=(m:Int))=false:=by rw [hu,decide_eq_false_iff_not];omega
 simp only [this,Bool.and_false,Bool.false_eq_true,if_false,List.append_nil]
 rfl
theorem qwv {g:List Thing} {i m:Nat} {t:Thing} (ht:g[i]?=some t) (hk:¬ 2<t.kind):q37 g (i+1) m=q37 g i m:=by
 rw [q37,q5t,q2k,qh3,ht]
 simp only [hk,decide_false,Bool.false_and,Bool.false_eq_true,if_false,List.append_nil]
 rfl
theorem qrq (n:Nat) (g:List Thing):gk n g.length g.length=q2j n (q37 g 0) g.length 0:=by
 refine List.map_congr_left fun j hj=>?_
 rw [List.mem_range] at hj
 rw [if_pos hj,qcn,if_neg (Nat.not_lt_zero _)]
 rfl
theorem qlr (g:List Thing):List.replicate g.length (⟨0,1,[]⟩:AObj)=q42 (q37 g 0) g.length 0:=by
 apply List.ext_getElem?
 intro j
 by_cases h:j<g.length
 ·simp [q42,qt7,h,qsx]
 ·rw [List.getElem?_eq_none Y1c,List.getElem?_eq_none (by simp [q42];omega)]
def qpg (g:List Thing):List (List AV):=(List.range g.length).map fun m=>[.pl ((q3l g m).map eN1)]
theorem qey (n:Nat) (g:List Thing):q2j n (q37 g g.length) g.length g.length=qpg g:=by
 refine List.map_congr_left fun j hj=>?_
 rw [List.mem_range] at hj
 rw [qcn,if_pos hj,qu5]
theorem qly {g:List Thing} {m:Nat} (h:m<g.length):(qpg g)[m]?=some [.pl ((q3l g m).map eN1)]:=by simp [qpg,h]
theorem qmp (g:List Thing):(qpg g).length=g.length:=by simp [qpg]
theorem qek {n M u:Nat} (f:Nat→List Int) (h:u<M):(q2j n f M 0)[u]?=some [.sl (n+(u+4)) (f u).length 0 (f u).length (f u).length]:=by simp [q2j,qcn,h]
theorem qir {M u:Nat} (f:Nat→List Int) (h:u<M):(q42 f M 0)[u]?=some ⟨(f u).length,1,(f u).map eN1⟩:=by simp [q42,qt7,h]
theorem qf0 {n:Nat} {g:List Thing} {i u:Nat} {t:Thing} (ht:g[i]?=some t) (hk:2<t.kind) (hu:t.up=(u:Int)):(q2j n (q37 g i) g.length 0).set u [.sl (n+(u+4)) ((q37 g i u).length+1) 0 ((q37 g i u).length+1) ((q37 g i u).length+1)]=q2j n (q37 g (i+1)) g.length 0:=by
 refine q3s ?_ fun j hj=>?_
 ·rw [qcn,if_neg (Nat.not_lt_zero _),qmb ht hk hu,List.length_append];rfl
 ·rw [qcn,qcn,if_neg (Nat.not_lt_zero _),if_neg (Nat.not_lt_zero _),qmz ht hu hj]
theorem qig {g:List Thing} {i u:Nat} {t:Thing} (ht:g[i]?=some t) (hk:2<t.kind) (hu:t.up=(u:Int)):(q42 (q37 g i) g.length 0).set u ⟨(q37 g i u).length+1,1,((q37 g i u).map eN1).take (q37 g i u).length++[[.int .i64 (i:Int)]]⟩=q42 (q37 g (i+1)) g.length 0:=by
 refine q3s ?_ fun j hj=>?_
 ·rw [qt7,if_neg (Nat.not_lt_zero _),qmb ht hk hu,List.length_append,List.map_append,List.take_of_length_le (by simp)];rfl
 ·rw [qt7,qt7,if_neg (Nat.not_lt_zero _),if_neg (Nat.not_lt_zero _),qmz ht hu hj]
theorem qid {n:Nat} {g:List Thing} {i:Nat} {t:Thing} (ht:g[i]?=some t) (hk:¬ 2<t.kind):q2j n (q37 g (i+1)) g.length 0=q2j n (q37 g i) g.length 0∧q42 (q37 g (i+1)) g.length 0=q42 (q37 g i) g.length 0:=by
 have:q37 g (i+1)=q37 g i:=funext fun m=>qwv ht hk
 rw [this]
 exact ⟨rfl,rfl⟩
theorem qf9 {g:List Thing} (hg:q1o g=true) {i:Nat} {t:Thing} (ht:g[i]?=some t) (hk:2<t.kind):∃ u:Nat,t.up=(u:Int)∧u<i:=by
 have hl:=q1w hg
 have hb:=hg
 rw [qqr (by omega) hl.2] at hb
 have:=q4f hb (List.getElem?_eq_some_iff.1 ht).1
 rcases Nat.eq_zero_or_pos i with rfl | h0
 ·rw [qfo ht] at this
  simp only [Bool.and_eq_true,decide_eq_true_eq] at this
  omega
 ·rw [qh0 ht h0] at this
  simp only [Bool.and_eq_true,decide_eq_true_eq] at this
  exact ⟨t.up.toNat,by omega,by omega⟩
theorem q5i (n:Nat) (g:List Thing) (l:List Int):∀ r∈q2l g l,AV.bels n r=true:=by
 intro r hr
 obtain ⟨m,_,rfl⟩:=List.mem_map.1 hr
 rfl
theorem qlm (n:Nat) (g:List Thing):∀ r∈qpg g,AV.bels n r=true:=by
 intro r hr
 obtain ⟨m,_,rfl⟩:=List.mem_map.1 hr
 rfl
end Go.Av
namespace Go.Av
open Go.Proofs
abbrev qnn (g:List Thing) (free:List Int) (s:Spec):List AV:=[.pl (g.map qq),.pl (q2l g free),.pl (qpg g),.int .i64 s.nodes,.int .i64 s.cores,.int .i64 s.gpus,.str s.tag,.bool s.whole,.int .i64 s.long,.int .i64 s.prio]
abbrev eSk (g:List Thing) (n a b:Nat) (s:Spec):List AV:=[.pl (g.map qq),.sl (n+a) 0 0 g.length g.length,.sl (n+b) 0 0 g.length g.length,.int .i64 s.nodes,.int .i64 s.cores,.int .i64 s.gpus,.str s.tag,.bool s.whole,.int .i64 s.long,.int .i64 s.prio]
theorem qmf {H0 L:qj} {k:Nat} {o:AObj}:(H0++L).set (H0.length+k) o=H0++L.set k o:=st rfl
theorem q7y (n:Nat) (f:Nat→List Int) (M:Nat):∀ r∈q2j n f M 0,AV.bels (n+(M+4)) r=true:=by
 intro r hr
 obtain ⟨j,hj,rfl⟩:=List.mem_map.1 hr
 rw [List.mem_range] at hj
 rw [qcn,if_neg (Nat.not_lt_zero _)]
 simp [AV.bels,AV.bel]
 omega
theorem qlg {n M K:Nat} {f:Nat→List Int} {r0 r1 r2 r3:AObj} (hK:K=n+(M+4)) (h0:∀ r∈r0.rows,AV.bels K r=true) (h1:∀ r∈r1.rows,AV.bels (n+(M+4)) r=true) (h2:∀ r∈r2.rows,AV.bels (n+(M+4)) r=true) (h3:∀ r∈r3.rows,AV.bels K r=true):∀ o∈[r0,r1,r2,r3]++q42 f M 0,∀ r∈o.rows,AV.bels K r=true:=by
 subst hK
 intro o ho r hr
 rcases List.mem_append.1 ho with ho | ho
 ·simp only [List.mem_cons,List.not_mem_nil,or_false] at ho
  rcases ho with rfl | rfl | rfl | rfl
  ·exact h0 r hr
  ·exact h1 r hr
  ·exact h2 r hr
  ·exact h3 r hr
 ·obtain ⟨j,_,rfl⟩:=List.mem_map.1 ho
  rw [qt7,if_neg (Nat.not_lt_zero _)] at hr
  obtain ⟨x,_,rfl⟩:=List.mem_map.1 hr
  rfl
set_option maxHeartbeats 0 in
theorem qnj (g:List Thing) (free:List Int) (s:Spec) (H:qj) (hg:q1o g=true) (hf:sok free=true):AC Tryz.prog 215 [.pl (g.map qq),.pl (free.map eI),.agg (q2i s)] H (Ret (.pt (Lid H.length 3) 0 0 0) (H++[⟨0,7,[q2i s]⟩,⟨1,1,[]⟩,⟨1,1,[]⟩,⟨0,10,[qnn g free s]⟩])):=by
 have hlen:=q1w hg
 have hfl:=qwo hf
 have hml:(g.map qq).length=g.length:=by simp
 refine AC.body (N:=69) [.tmp 6] Tryz.func215 rfl rfl rfl (Nat.le_of_ble_eq_true rfl) fun B hB=>?_
 refine Z32 ?_
 refine ao1 (by decide) (q14 (v:=.nptr) rfl) ?_
 refine qf ?_
 refine Z33 ?_
 refine Zqa ?_
 refine Z90 ?_
 refine Zqb ?_
 refine Zqc ?_
 refine Z94 ?_
 refine aqp 5 rfl Y17 (by decide) (fun G=>qfg rfl) ?_
 refine Zqd ?_
 refine qxz [3,6] Y17 (by simp) Yv ?_
 simp only [List.forall_mem_cons,List.not_mem_nil,false_implies,implies_true,and_true]
 refine ⟨?_,?_⟩
 refine aat rfl Y11 (q38 (n:=g.length) (c:=g.length) (bytes:=1) rfl (by decide) (congrArg (fun k:Nat=>AV.int .i64 (k:Int)) hml) (congrArg (fun k:Nat=>AV.int .i64 (k:Int)) hml) (Nat.le_refl _) (by omega) (by omega) rfl) ?_
 refine aqs 6 rfl Y17 Yv Y11 (q38 (n:=g.length) (c:=g.length) (bytes:=24) rfl (by decide) (congrArg (fun k:Nat=>AV.int .i64 (k:Int)) hml) (congrArg (fun k:Nat=>AV.int .i64 (k:Int)) hml) (Nat.le_refl _) (by omega) (by omega) rfl) ?_
 refine Zqe ?_
 refine Zqf ?_
 refine Zqg ?_
 refine Z1l ?_
 refine Zqh ?_
 rotate_left
 refine aat rfl Y11 (q38 (n:=g.length) (c:=g.length) (bytes:=24) rfl (by decide) (congrArg (fun k:Nat=>AV.int .i64 (k:Int)) hml) (congrArg (fun k:Nat=>AV.int .i64 (k:Int)) hml) (Nat.le_refl _) (by omega) (by omega) rfl) ?_
 refine aqs 3 rfl Y17 Yv Y11 (q38 (n:=g.length) (c:=g.length) (bytes:=1) rfl (by decide) (congrArg (fun k:Nat=>AV.int .i64 (k:Int)) hml) (congrArg (fun k:Nat=>AV.int .i64 (k:Int)) hml) (Nat.le_refl _) (by omega) (by omega) rfl) ?_
 refine Zqe ?_
 refine Zqf ?_
 refine Zqg ?_
 refine Z1l ?_
 refine Zqh ?_
 rotate_left
 ·refine Z9h ?_
  refine qd9 (pk:=2) (M:=g.length) rfl (by decide) ?_ rfl
  refine qm (G:=Nat) (fun k=>k≤free.length) (fun k=>[(0,.pl (g.map qq)),(7,.pt (Lid H.length 3) 0 0 0),(22,.pl (free.map eI)),(23,.int .i64 (free.length:Int)),(24,.int .i64 (k:Int))]) (fun k=>H++([⟨0,7,[q2i s]⟩,⟨0,1,q2l g (free.take k)⟩,⟨0,1,gk H.length g.length g.length⟩,⟨0,10,[eSk g H.length 1 2 s]⟩]++List.replicate g.length ⟨0,1,[]⟩)) (fun k=>free.length-k) 0 (Nat.zero_le _) Y6 (.inl (by rw [List.take_zero,qed];rfl)) ?_
  intro k hk
  refine Z2 ?_
  refine Zqi ?_
  refine Zay ?_
  refine Z1 ?_
  refine qa rfl (fun hc=>?_) (fun hc=>?_)
  ·have hlt:k<free.length:=by simpa using hc
   obtain ⟨x,hx,hxl⟩:=qo hlt
   have hr:=qh eI hx
   have hx0:=q4h hf hxl
   obtain ⟨m,rfl⟩:∃ m:Nat,x=(m:Int):=⟨x.toNat,by omega⟩
   clear hc
   refine Zjs ?_
   refine Z8z ?_
   refine qa rfl (fun hc=>?_) (fun hc=>?_)
   ·have hm:m<g.length:=by simp at hc;omega
    have hrow:(q2l g (free.take k))[0+m]?=some [.bool (inl (free.take k) m)]:=by rw [Nat.zero_add];exact q6c hm
    clear hc
    refine q1k ?_
    refine Zp9 ?_
    refine Zqj ?_
    refine Zqk ?_
    refine Z8 ?_
    refine Zei ?_
    refine Zql ?_
    refine qf ?_
    refine Zpy ?_
    refine Z5l ?_
    exact ⟨k+1,by omega,by omega,Y6,.inl (by rw [Nat.zero_add,qez hx])⟩
   ·have hm:(g.length:Int)≤(m:Int):=by simp at hc;omega
    clear hc
    refine Z5l ?_
    exact ⟨k+1,by omega,by omega,Y6,.inl (by rw [qc7 hx hm])⟩
  have:k=free.length:=by simp at hc;omega
  subst this
  clear hc
  rw [List.take_length]
  refine Z9h ?_
  refine qm (G:=Nat) (fun i=>i≤g.length) (fun i=>[(7,.pt (Lid H.length 3) 0 0 0),(39,.pl (g.map qq)),(40,.int .i64 (g.length:Int)),(41,.int .i64 (i:Int))]) (fun i=>H++([⟨0,7,[q2i s]⟩,⟨0,1,q2l g free⟩,⟨0,1,q2j H.length (q37 g i) g.length 0⟩,⟨0,10,[eSk g H.length 1 2 s]⟩]++q42 (q37 g i) g.length 0)) (fun i=>g.length-i) 0 (Nat.zero_le _) Y6 (.inl (by rw [qrq,qlr];rfl)) ?_
  intro i hi
  refine Z2 ?_
  refine Zqi ?_
  refine Zay ?_
  refine Z1 ?_
  refine qa rfl (fun hc=>?_) (fun hc=>?_)
  ·have hlt:i<g.length:=by simpa using hc
   obtain ⟨t,ht,htl⟩:=qo hlt
   have hr:=qh qq ht
   clear hc
   generalize hM:H++([⟨0,7,[q2i s]⟩,⟨0,1,q2l g free⟩,⟨0,1,q2j H.length (q37 g i) g.length 0⟩,⟨0,10,[eSk g H.length 1 2 s]⟩]++q42 (q37 g i) g.length 0)=M
   refine Zqm ?_
   have hS:M[Lid H.length 3]?=some ⟨0,10,[eSk g H.length 1 2 s]⟩:=by rw [← hM];exact lk rfl rfl
   have hK:M[Lid H.length 2]?=some ⟨0,1,q2j H.length (q37 g i) g.length 0⟩:=by rw [← hM];exact lk rfl rfl
   have hF:=hS
   refine Zcz ?_
   refine Zd0 ?_
   refine Z3 ?_
   refine Zd1 ?_
   refine Zd3 ?_
   refine Z4i ?_
   refine Z2p ?_
   refine Z56 ?_
   refine qa rfl (fun hc=>?_) (fun hc=>?_)
   ·have h2:2<t.kind:=by simpa using hc
    obtain ⟨u,hu,hui⟩:=qf9 hg ht h2
    clear hc
    obtain ⟨kd,up,tag⟩:=t
    simp only at hu h2
    subst hu
    have hug:u<g.length:=by omega
    have hR:M[Lid H.length (u+4)]?=some ⟨(q37 g i u).length,1,(q37 g i u).map eN1⟩:=by rw [← hM];exact lk rfl (show (q42 (q37 g i) g.length 0)[u]?=_ from qir _ hug)
    have hcell:=qek (n:=H.length) (q37 g i) hug
    have hle:=qs2 g i u
    have hF3:(M.set (Lid H.length (u+4)) ⟨(q37 g i u).length+1,1,((q37 g i u).map eN1).take (q37 g i u).length++[[.int .i64 (i:Int)]]⟩)[Lid H.length 3]?=some ⟨0,10,[eSk g H.length 1 2 s]⟩:=by rw [List.getElem?_set_ne Y14];exact hS
    have hK3:(M.set (Lid H.length (u+4)) ⟨(q37 g i u).length+1,1,((q37 g i u).map eN1).take (q37 g i u).length++[[.int .i64 (i:Int)]]⟩)[Lid H.length 2]?=some ⟨0,1,q2j H.length (q37 g i) g.length 0⟩:=by rw [List.getElem?_set_ne Y14];exact hK
    refine Zqn ?_
    refine Za9 ?_
    refine Znk ?_
    refine Zqo ?_
    refine Zqp ?_
    refine qk9 3 rfl Y17 (by decide) (fun M G hn hp hp2=>qi (v:=.sl (H.length+2) 0 0 g.length g.length) rfl (lkF hp) rfl rfl rfl) ?_
    refine Zqq ?_
    refine Zqr ?_
    refine Zqs ?_
    refine Zqt ?_
    refine Zqu ?_
    refine qk9 9 rfl Y17 (by decide) (fun M G hn hp hp2=>qi (v:=.sl (H.length+2) 0 0 g.length g.length) rfl (lkF hp) rfl rfl rfl) ?_
    refine Zqv ?_
    refine Zqw ?_
    refine Zqx ?_
    refine Zqy ?_
    refine Zqz ?_
    refine Zr0 ?_
    refine Zr1 ?_
    refine Zr2 ?_
    refine Zr3 ?_
    refine Z9q ?_
    refine Zr4 ?_
    refine Z5l ?_
    refine ⟨i+1,by omega,by omega,Y6,qbl (M':=H++(([⟨0,7,[q2i s]⟩,⟨0,1,q2l g free⟩,⟨0,1,q2j H.length (q37 g (i+1)) g.length 0⟩,⟨0,10,[eSk g H.length 1 2 s]⟩]++q42 (q37 g (i+1)) g.length 0)++[⟨0,3,[qq ⟨kd,(u:Int),tag⟩]⟩])) ?_ (Fit.loc hB rfl Y1 (qlg Y10 Yd (q5i _ g free) (q7y _ _ _) Y3))⟩
    rw [← hM,qmf,qmf,Nat.zero_add,qf0 ht h2 rfl,← List.append_assoc,← qig ht h2 rfl]
    rfl
   ·have h2:¬ 2<t.kind:=by simpa using hc
    have hsame:=qid (n:=H.length) ht h2
    clear hc
    refine Z5l ?_
    refine ⟨i+1,by omega,by omega,Y6,qbl (M':=H++(([⟨0,7,[q2i s]⟩,⟨0,1,q2l g free⟩,⟨0,1,q2j H.length (q37 g (i+1)) g.length 0⟩,⟨0,10,[eSk g H.length 1 2 s]⟩]++q42 (q37 g (i+1)) g.length 0)++[⟨0,3,[qq t]⟩])) ?_ (Fit.loc hB rfl Y1 (qlg Y10 Yd (q5i _ g free) (q7y _ _ _) Y3))⟩
    rw [← hM,hsame.1,hsame.2,List.append_assoc]
  have:i=g.length:=by simp at hc;omega
  subst this
  clear hc
  refine Zpa ?_
  refine Zo4 ?_
  refine Z1d ?_
  refine qaz (L:=[⟨0,7,[q2i s]⟩,⟨0,1,q2l g free⟩,⟨0,1,q2j H.length (q37 g g.length) g.length 0⟩,⟨0,10,[eSk g H.length 1 2 s]⟩]) (M:=g.length) (pk:=2) (f:=q37 g g.length) rfl (by decide) ?_ rfl
  refine q5g (ys:=q2l g free) (i:=0) (j:=1) (k:=3) (kid:=1) 3 rfl rfl rfl rfl rfl (by decide) rfl rfl (by rw [List.drop_zero];exact List.take_of_length_le (by simp [q2l])) (qff g free) (q5i 0 g free) ?_
  refine q5g (ys:=qpg g) (i:=0) (j:=2) (k:=3) (kid:=2) 3 rfl rfl rfl rfl rfl (by decide) rfl rfl (by rw [List.drop_zero,qey];exact List.take_of_length_le (by simp [qpg])) (qmp g) (qlm 0 g) ?_
  refine q33 ?_
  exact qfb (K:=[⟨0,7,[q2i s]⟩,⟨1,1,[]⟩,⟨1,1,[]⟩,⟨0,10,[qnn g free s]⟩]) (G:=q42 (q37 g g.length) g.length g.length) hB (q3t rfl .nil) rfl rfl Y12 (by intro o ho r hr;simp only [List.mem_cons,List.not_mem_nil,or_false] at ho;rcases ho with rfl | rfl | rfl | rfl<;>simp only [List.mem_singleton,List.not_mem_nil] at hr<;>subst hr<;>rfl)
 ·refine Z9h ?_
  refine qd9 (pk:=1) (M:=g.length) rfl (by decide) ?_ rfl
  refine qm (G:=Nat) (fun k=>k≤free.length) (fun k=>[(0,.pl (g.map qq)),(7,.pt (Lid H.length 3) 0 0 0),(22,.pl (free.map eI)),(23,.int .i64 (free.length:Int)),(24,.int .i64 (k:Int))]) (fun k=>H++([⟨0,7,[q2i s]⟩,⟨0,1,gk H.length g.length g.length⟩,⟨0,1,q2l g (free.take k)⟩,⟨0,10,[eSk g H.length 2 1 s]⟩]++List.replicate g.length ⟨0,1,[]⟩)) (fun k=>free.length-k) 0 (Nat.zero_le _) Y6 (.inl (by rw [List.take_zero,qed];rfl)) ?_
  intro k hk
  refine Z2 ?_
  refine Zqi ?_
  refine Zay ?_
  refine Z1 ?_
  refine qa rfl (fun hc=>?_) (fun hc=>?_)
  ·have hlt:k<free.length:=by simpa using hc
   obtain ⟨x,hx,hxl⟩:=qo hlt
   have hr:=qh eI hx
   have hx0:=q4h hf hxl
   obtain ⟨m,rfl⟩:∃ m:Nat,x=(m:Int):=⟨x.toNat,by omega⟩
   clear hc
   refine Zjs ?_
   refine Z8z ?_
   refine qa rfl (fun hc=>?_) (fun hc=>?_)
   ·have hm:m<g.length:=by simp at hc;omega
    have hrow:(q2l g (free.take k))[0+m]?=some [.bool (inl (free.take k) m)]:=by rw [Nat.zero_add];exact q6c hm
    clear hc
    refine q1k ?_
    refine Zp9 ?_
    refine Zqj ?_
    refine Zqk ?_
    refine Z8 ?_
    refine Zei ?_
    refine Zql ?_
    refine qf ?_
    refine Zpy ?_
    refine Z5l ?_
    exact ⟨k+1,by omega,by omega,Y6,.inl (by rw [Nat.zero_add,qez hx])⟩
   ·have hm:(g.length:Int)≤(m:Int):=by simp at hc;omega
    clear hc
    refine Z5l ?_
    exact ⟨k+1,by omega,by omega,Y6,.inl (by rw [qc7 hx hm])⟩
  have:k=free.length:=by simp at hc;omega
  subst this
  clear hc
  rw [List.take_length]
  refine Z9h ?_
  refine qm (G:=Nat) (fun i=>i≤g.length) (fun i=>[(7,.pt (Lid H.length 3) 0 0 0),(39,.pl (g.map qq)),(40,.int .i64 (g.length:Int)),(41,.int .i64 (i:Int))]) (fun i=>H++([⟨0,7,[q2i s]⟩,⟨0,1,q2j H.length (q37 g i) g.length 0⟩,⟨0,1,q2l g free⟩,⟨0,10,[eSk g H.length 2 1 s]⟩]++q42 (q37 g i) g.length 0)) (fun i=>g.length-i) 0 (Nat.zero_le _) Y6 (.inl (by rw [qrq,qlr];rfl)) ?_
  intro i hi
  refine Z2 ?_
  refine Zqi ?_
  refine Zay ?_
  refine Z1 ?_
  refine qa rfl (fun hc=>?_) (fun hc=>?_)
  ·have hlt:i<g.length:=by simpa using hc
   obtain ⟨t,ht,htl⟩:=qo hlt
   have hr:=qh qq ht
   clear hc
   generalize hM:H++([⟨0,7,[q2i s]⟩,⟨0,1,q2j H.length (q37 g i) g.length 0⟩,⟨0,1,q2l g free⟩,⟨0,10,[eSk g H.length 2 1 s]⟩]++q42 (q37 g i) g.length 0)=M
   refine Zqm ?_
   have hS:M[Lid H.length 3]?=some ⟨0,10,[eSk g H.length 2 1 s]⟩:=by rw [← hM];exact lk rfl rfl
   have hK:M[Lid H.length 1]?=some ⟨0,1,q2j H.length (q37 g i) g.length 0⟩:=by rw [← hM];exact lk rfl rfl
   have hF:=hS
   refine Zcz ?_
   refine Zd0 ?_
   refine Z3 ?_
   refine Zd1 ?_
   refine Zd3 ?_
   refine Z4i ?_
   refine Z2p ?_
   refine Z56 ?_
   refine qa rfl (fun hc=>?_) (fun hc=>?_)
   ·have h2:2<t.kind:=by simpa using hc
    obtain ⟨u,hu,hui⟩:=qf9 hg ht h2
    clear hc
    obtain ⟨kd,up,tag⟩:=t
    simp only at hu h2
    subst hu
    have hug:u<g.length:=by omega
    have hR:M[Lid H.length (u+4)]?=some ⟨(q37 g i u).length,1,(q37 g i u).map eN1⟩:=by rw [← hM];exact lk rfl (show (q42 (q37 g i) g.length 0)[u]?=_ from qir _ hug)
    have hcell:=qek (n:=H.length) (q37 g i) hug
    have hle:=qs2 g i u
    have hF3:(M.set (Lid H.length (u+4)) ⟨(q37 g i u).length+1,1,((q37 g i u).map eN1).take (q37 g i u).length++[[.int .i64 (i:Int)]]⟩)[Lid H.length 3]?=some ⟨0,10,[eSk g H.length 2 1 s]⟩:=by rw [List.getElem?_set_ne Y14];exact hS
    have hK3:(M.set (Lid H.length (u+4)) ⟨(q37 g i u).length+1,1,((q37 g i u).map eN1).take (q37 g i u).length++[[.int .i64 (i:Int)]]⟩)[Lid H.length 1]?=some ⟨0,1,q2j H.length (q37 g i) g.length 0⟩:=by rw [List.getElem?_set_ne Y14];exact hK
    refine Zqn ?_
    refine Za9 ?_
    refine Znk ?_
    refine Zqo ?_
    refine Zqp ?_
    refine qk9 3 rfl Y17 (by decide) (fun M G hn hp hp2=>qi (v:=.sl (H.length+1) 0 0 g.length g.length) rfl (lkF hp) rfl rfl rfl) ?_
    refine Zqq ?_
    refine Zqr ?_
    refine Zqs ?_
    refine Zqt ?_
    refine Zqu ?_
    refine qk9 9 rfl Y17 (by decide) (fun M G hn hp hp2=>qi (v:=.sl (H.length+1) 0 0 g.length g.length) rfl (lkF hp) rfl rfl rfl) ?_
    refine Zqv ?_
    refine Zqw ?_
    refine Zqx ?_
    refine Zqy ?_
    refine Zqz ?_
    refine Zr0 ?_
    refine Zr1 ?_
    refine Zr2 ?_
    refine Zr3 ?_
    refine Z9q ?_
    refine Zr4 ?_
    refine Z5l ?_
    refine ⟨i+1,by omega,by omega,Y6,qbl (M':=H++(([⟨0,7,[q2i s]⟩,⟨0,1,q2j H.length (q37 g (i+1)) g.length 0⟩,⟨0,1,q2l g free⟩,⟨0,10,[eSk g H.length 2 1 s]⟩]++q42 (q37 g (i+1)) g.length 0)++[⟨0,3,[qq ⟨kd,(u:Int),tag⟩]⟩])) ?_ (Fit.loc hB rfl Y1 (qlg Y10 Yd (q7y _ _ _) (q5i _ g free) Y3))⟩
    rw [← hM,qmf,qmf,Nat.zero_add,qf0 ht h2 rfl,← List.append_assoc,← qig ht h2 rfl]
    rfl
   ·have h2:¬ 2<t.kind:=by simpa using hc
    have hsame:=qid (n:=H.length) ht h2
    clear hc
    refine Z5l ?_
    refine ⟨i+1,by omega,by omega,Y6,qbl (M':=H++(([⟨0,7,[q2i s]⟩,⟨0,1,q2j H.length (q37 g (i+1)) g.length 0⟩,⟨0,1,q2l g free⟩,⟨0,10,[eSk g H.length 2 1 s]⟩]++q42 (q37 g (i+1)) g.length 0)++[⟨0,3,[qq t]⟩])) ?_ (Fit.loc hB rfl Y1 (qlg Y10 Yd (q7y _ _ _) (q5i _ g free) Y3))⟩
    rw [← hM,hsame.1,hsame.2,List.append_assoc]
  have:i=g.length:=by simp at hc;omega
  subst this
  clear hc
  refine Zpa ?_
  refine Zo4 ?_
  refine Z1d ?_
  refine qaz (L:=[⟨0,7,[q2i s]⟩,⟨0,1,q2j H.length (q37 g g.length) g.length 0⟩,⟨0,1,q2l g free⟩,⟨0,10,[eSk g H.length 2 1 s]⟩]) (M:=g.length) (pk:=1) (f:=q37 g g.length) rfl (by decide) ?_ rfl
  refine q5g (ys:=q2l g free) (i:=0) (j:=1) (k:=3) (kid:=2) 3 rfl rfl rfl rfl rfl (by decide) rfl rfl (by rw [List.drop_zero];exact List.take_of_length_le (by simp [q2l])) (qff g free) (q5i 0 g free) ?_
  refine q5g (ys:=qpg g) (i:=0) (j:=2) (k:=3) (kid:=1) 3 rfl rfl rfl rfl rfl (by decide) rfl rfl (by rw [List.drop_zero,qey];exact List.take_of_length_le (by simp [qpg])) (qmp g) (qlm 0 g) ?_
  refine q33 ?_
  exact qfb (K:=[⟨0,7,[q2i s]⟩,⟨1,1,[]⟩,⟨1,1,[]⟩,⟨0,10,[qnn g free s]⟩]) (G:=q42 (q37 g g.length) g.length g.length) hB (q3t rfl .nil) rfl rfl Y12 (by intro o ho r hr;simp only [List.mem_cons,List.not_mem_nil,or_false] at ho;rcases ho with rfl | rfl | rfl | rfl<;>simp only [List.mem_singleton,List.not_mem_nil] at hr<;>subst hr<;>rfl)
end Go.Av
namespace Go.Av
structure JE (a b : Job) : Prop where
 id:b.id=a.id
 spec:b.spec=a.spec
 needs:b.needs=a.needs
 came:b.came=a.came
 over:q3z a.state=true→b=a
theorem JE.refl (a:Job):JE a a:=⟨rfl,rfl,rfl,rfl,fun _=>rfl⟩
theorem JE.trans {a b c:Job} (h:JE a b) (k:JE b c):JE a c:=⟨k.id.trans h.id,k.spec.trans h.spec,k.needs.trans h.needs,k.came.trans h.came,fun o=>by
 have:=h.over o
 subst this
 exact k.over o⟩
structure Ev (w v : Inst) : Prop where
 graph:v.graph=w.graph
 health:v.health=w.health
 lease:v.lease=w.lease
 til:v.til=w.til
 now:v.now=w.now
 policy:v.policy=w.policy
 depth:v.depth=w.depth
 len:v.jobs.length=w.jobs.length
 jobs:∀ (k:Nat) (a b:Job),w.jobs[k]?=some a→v.jobs[k]?=some b→JE a b
theorem Ev.refl (w:Inst):Ev w w:=⟨rfl,rfl,rfl,rfl,rfl,rfl,rfl,rfl,fun k a b ha hb=>by rw [ha] at hb;cases hb;exact JE.refl a⟩
theorem Ev.trans {w v u:Inst} (h:Ev w v) (k:Ev v u):Ev w u:=⟨k.graph.trans h.graph,k.health.trans h.health,k.lease.trans h.lease,k.til.trans h.til,k.now.trans h.now,k.policy.trans h.policy,k.depth.trans h.depth,k.len.trans h.len,fun i a c ha hc=>by
 have hi:=(List.getElem?_eq_some_iff.1 ha).1
 have hv:i<v.jobs.length:=by rw [h.len];exact hi
 exact (h.jobs i a _ ha (List.getElem?_eq_getElem hv)).trans (k.jobs i _ c (List.getElem?_eq_getElem hv) hc)⟩
theorem Ev.tab {w v:Inst} (h:Ev w v) (t:List Held):Ev w { v with table:=t }:=⟨h.graph,h.health,h.lease,h.til,h.now,h.policy,h.depth,h.len,h.jobs⟩
theorem qnr {s w t:Int} (h:q3w s w=some t):q3z s=false:=by
 have:=(q82 h).1
 rw [q3z,decide_eq_false (by omega),Bool.false_and]
theorem qeh {w:Inst} (hr:q24 w.jobs=true) (id what at_:Int):Ev w (wdo w id what at_).1:=by
 rcases q3h hr id what at_ with ⟨e,_⟩ | ⟨j,hj,rfl,s,hb,hs,e1,e⟩
 ·rw [e];exact Ev.refl w
 ·rw [e]
  refine ⟨rfl,rfl,rfl,rfl,rfl,rfl,rfl,by simp,fun k a b ha hb=>?_⟩
  have hp:=q6o (q28 hr) hj
  by_cases hk:q11 w.jobs j.id=k
  ·subst hk
   rw [hp] at ha
   cases ha
   have:b=q3f j s at_:=by
    simp only at hb
    rw [List.getElem?_set_self (List.getElem?_eq_some_iff.1 hp).1] at hb
    cases hb;rfl
   subst this
   exact ⟨rfl,rfl,rfl,rfl,fun o=>by rw [qnr hs] at o;cases o⟩
  ·simp only at hb
   rw [List.getElem?_set_ne hk,ha] at hb
   cases hb
   exact JE.refl a
theorem q96 {α:Type} {P:Inst→Prop} {f:Inst→α→Inst}:∀ (l:List α) (w:Inst),P w→(∀ v x,x∈l→P v→P (f v x))→P (l.foldl f w)
 | [],w,h,_=>h
 | x :: l,w,h,hs=>q96 l (f w x) (hs w x List.mem_cons_self h) fun v y hy hv=>hs v y (List.mem_cons_of_mem _ hy) hv
structure IE (w v : Inst) : Prop where
 ir:IR v
 ev:Ev w v
theorem IE.wdo {w v:Inst} (h:IE w v) {id what at_:Int} (h3:what≠3):IE w (wdo v id what at_).1:=⟨qvx h.ir h3,h.ev.trans (qeh h.ir.jobs _ _ _)⟩
theorem qiz {w:Inst} (h:IR w) (id what at_:Int):∀ x∈(wdo w id what at_).1.table,x∈w.table:=by
 rcases q3h h.jobs id what at_ with ⟨e,_⟩ | ⟨j,hj,rfl,s,hb,hs,e1,e⟩
 ·rw [e];exact fun x hx=>hx
 ·rw [e]
  intro x hx
  have:x∈(if q3z s then (q1a w.table j.id).1 else w.table):=hx
  split at this
  ·exact (((q9o h.table j.id).2 x).1 this).1
  ·exact this
theorem ql7 {w:Inst} (h:IR w) {j:Job} (hj:j∈w.jobs) {what:Int} (h1:1≤what) (h7:what≤7):qdv j what w.now=false:=by
 have hc:=h.came j hj
 simp only [qdv,(jobs_iff.1 h.jobs).2.1 j hj,h.now,Bool.not_true,Bool.false_or,Bool.or_eq_false_iff,decide_eq_false_iff_not]
 refine ⟨⟨⟨?_,?_⟩,?_⟩,?_⟩<;>first | trivial | omega
theorem qlh {w:Inst} (h:IR w) {x:Held} (hx:x∈w.table) {at_:Int} (hb:∀ j∈w.jobs,j.id=x.id→qdv j 5 at_=false):∀ y∈(wdo w x.id 5 at_).1.table,y∈w.table∧y.id≠x.id:=by
 obtain ⟨j,hj,e,s,_⟩:=h.of hx
 have hdo:(jdo j 5 at_)=(q3f j 4 at_,0):=by
  unfold jdo
  rw [hb j hj e,s]
  rfl
 rcases q3h h.jobs x.id 5 at_ with ⟨e1,e2⟩ | ⟨j',hj',e',s',hb',hs',e1,e2⟩
 ·exfalso
  apply e2
  have hd:=(q6h h.jobs hj 5 at_).1
  unfold wdo
  rw [← e,hd,hdo]
  simp only [ne_eq,not_true_eq_false,if_false]
  split<;>rfl
 ·have:=q64 h hj' hj (by rw [e',e])
  subst this
  rw [s] at hs'
  have:s'=4:=by
   have:q3w 2 5=some 4:=by decide
   rw [this] at hs'
   cases hs';rfl
  subst this
  rw [e2]
  intro y hy
  exact ((q9o h.table x.id).2 y).1 hy
theorem qio {w:Inst} (h:IR w):∀ x∈(q2w w).table,q2u x.things (q4t w.lease (q21 w.graph w.health 1))=true:=by
 unfold q2w
 suffices key:∀ (l:List Held) (v:Inst),IE w v→(∀ x∈v.table,x∈w.table)→(∀ x∈v.table,x∈l∨q2u x.things (q4t w.lease (q21 w.graph w.health 1))=true)→(∀ x∈l,x∈w.table) →
   ∀ x∈(l.foldl (fun a h=>if q2u h.things (q4t w.lease (q21 w.graph w.health 1)) then a else (wdo a h.id 5 a.now).1) v).table,q2u x.things (q4t w.lease (q21 w.graph w.health 1))=true by
  exact key w.table w ⟨h,Ev.refl w⟩ (fun x hx=>hx) (fun x hx=>.inl hx) fun x hx=>hx
 intro l
 induction l with
 | nil =>
  intro v hv h1 h2 h3 x hx
  rcases h2 x hx with h | h
  ·cases h
  ·exact h
 | cons y l ih =>
  intro v hv h1 h2 h3
  rw [List.foldl_cons]
  cases hg:q2u y.things (q4t w.lease (q21 w.graph w.health 1)) with
  | true =>
   rw [if_pos rfl]
   refine ih v hv h1 (fun x hx=>?_) fun x hx=>h3 x (List.mem_cons_of_mem _ hx)
   rcases h2 x hx with h4 | h4
   ·rcases List.mem_cons.1 h4 with rfl | h5
    ·exact .inr hg
    ·exact .inl h5
   ·exact .inr h4
  | false =>
   rw [if_neg (by decide)]
   have hsub:=qiz hv.ir y.id 5 v.now
   refine ih _ (hv.wdo (by decide)) (fun x hx=>h1 x (hsub x hx)) (fun x hx=>?_) fun x hx=>h3 x (List.mem_cons_of_mem _ hx)
   rcases h2 x (hsub x hx) with h4 | h4
   ·rcases List.mem_cons.1 h4 with rfl | h5
    ·exfalso
     exact (qlh hv.ir (hsub x hx) (fun j hj _=>ql7 hv.ir hj (by decide) (by decide)) x hx).2 rfl
    ·exact .inl h5
   ·exact .inr h4
structure Beg (w : Inst) (h : Held) : Prop where
 may:hmay h=true
 things:q27 w.graph h.things=true
 frm:h.frm=w.now
 job:∃ j∈w.jobs,j.id=h.id∧j.state=0∧h.to=q1p j.spec w.now
 new:∀ x∈w.table,x.id≠h.id
 room:w.table.length<256
 apart:∀ x∈w.table,q3p x h=false
def qnz (a:Inst) (h:Held):Inst:={ (wdo a h.id 3 a.now).1 with table:=(q1f (wdo a h.id 3 a.now).1.table h).1 }
theorem qhe {w:Inst} (h:IR w) {x:Held} (hb:Beg w x):∃ j∈w.jobs,j.id=x.id∧j.state=0∧x.to=q1p j.spec w.now∧(qnz w x).table=qt6 Held.id w.table x∧q1s (qnz w x).table=true∧q24 (qnz w x).jobs=true∧Ev w (qnz w x)∧∀ y,y∈(qnz w x).jobs↔y=q3f j 2 w.now∨(y∈w.jobs∧y.id≠x.id):=by
 obtain ⟨j,hj,e,s,hto⟩:=hb.job
 have hdo:jdo j 3 w.now=(q3f j 2 w.now,0):=by
  unfold jdo
  rw [ql7 h hj (by decide) (by decide),s]
  rfl
 rcases q3h h.jobs x.id 3 w.now with ⟨e1,e2⟩ | ⟨j',hj',e',s',hb',hs',e1,e2⟩
 ·exfalso
  apply e2
  have hd:=(q6h h.jobs hj 3 w.now).1
  unfold wdo
  rw [← e,hd,hdo]
  simp only [ne_eq,not_true_eq_false,if_false]
  split<;>rfl
 ·have:=q64 h hj' hj (by rw [e',e])
  subst this
  rw [s] at hs'
  have:s'=2:=by
   have:q3w 0 3=some 2:=by decide
   rw [this] at hs'
   cases hs';rfl
  subst this
  have hev:=qeh h.jobs x.id 3 w.now
  rw [← e'] at e1
  obtain ⟨hr,hm⟩:=qgd h.jobs hj' e1 hb' (by rw [s];decide)
  have ht:(wdo w x.id 3 w.now).1.table=w.table:=by rw [e2];rfl
  have hjj:(wdo w x.id 3 w.now).1.jobs=w.jobs.set (q11 w.jobs x.id) (q3f j' 2 w.now):=by rw [e2]
  have ha:=q87 h.table hb.may hb.new hb.room hb.apart
  refine ⟨j',hj',e',s,hto,?_,?_,?_,hev.tab _,?_⟩
  ·show (q1f (wdo w x.id 3 w.now).1.table x).1=_
   rw [ht,ha.1]
  ·show q1s (q1f (wdo w x.id 3 w.now).1.table x).1=_
   rw [ht,ha.1];exact ha.2
  ·show q24 (wdo w x.id 3 w.now).1.jobs=true
   rw [hjj,← e'];exact hr
  ·intro y
   show y∈(wdo w x.id 3 w.now).1.jobs↔_
   rw [hjj,← e'];exact hm y
theorem qwu {w:Inst} (h:IR w) {x:Held} (hb:Beg w x):IR (qnz w x):=by
 obtain ⟨j,hj,e,s,hto,ht,hr,hjr,hev,hm⟩:=qhe h hb
 refine ⟨hjr,hr,?_,?_,?_,by rw [hev.now];exact h.now⟩
 ·intro y hy
  rw [hev.now]
  rcases (hm y).1 hy with rfl | ⟨hy,_⟩
  ·exact ⟨(h.came j hj).1,Int.le_refl _⟩
  ·exact h.came y hy
 ·intro y hy hs
  rw [hev.graph]
  rcases (hm y).1 hy with rfl | ⟨hy,hne⟩
  ·exact ⟨x,by rw [ht];exact kput_mem.2 (.inl rfl),e.symm,hb.frm,hto,hb.things⟩
  ·obtain ⟨z,hz,r⟩:=h.run y hy hs
   exact ⟨z,by rw [ht];exact kput_mem.2 (.inr hz),r⟩
 ·intro z hz
  rw [ht] at hz
  rcases kput_mem.1 hz with rfl | hz
  ·exact ⟨q3f j 2 w.now,(hm _).2 (.inl rfl),e,rfl⟩
  ·obtain ⟨y,hy,e1,e2⟩:=h.held z hz
   refine ⟨y,(hm _).2 (.inr ⟨hy,fun e3=>?_⟩),e1,e2⟩
   exact hb.new z hz (by rw [← e1,e3])
theorem q97 {a b:List Int} (ha:sok a=true) (hb:sok b=true) (h:∀ x∈a,x∈b):q2u a b=true:=spart_iff.2 ⟨ha,hb,fun n hn=>inl_mem.2 (h _ (inl_mem.1 hn))⟩
theorem qgf {a b:List Int} (h:q2u a b=true):∀ x∈a,x∈b:=by
 intro x hx
 obtain ⟨ha,hb,hs⟩:=spart_iff.1 h
 have h0:=q4h ha hx
 have:=hs x.toNat (inl_mem.2 (by rw [Int.toNat_of_nonneg h0.1];exact hx))
 have:=inl_mem.1 this
 rwa [Int.toNat_of_nonneg h0.1] at this
theorem qa8 {a b c:List Int} (h:q2u a b=true) (k:q2u b c=true):q2u a c=true:=q97 (spart_iff.1 h).1 (spart_iff.1 k).2.1 fun x hx=>qgf k x (qgf h x hx)
theorem qbm {b:List Int} (hb:sok b=true):q2u [] b=true:=q97 qkh hb fun x hx=>by cases hx
theorem qea {a b c:List Int} (h:q2u a c=true) (k:q2u b c=true):q2u (q7t a b) c=true:=by
 obtain ⟨h1,h2,h3⟩:=spart_iff.1 h
 obtain ⟨k1,_,k3⟩:=spart_iff.1 k
 refine spart_iff.2 ⟨q51 _ _ _,h2,fun n hn=>?_⟩
 rw [qkc h1 k1,Bool.or_eq_true] at hn
 rcases hn with hn | hn
 ·exact h3 n hn
 ·exact k3 n hn
theorem qf8 {a b:List Int} (ha:sok a=true) (hb:sok b=true):q2u (q8c a b) a=true:=spart_iff.2 ⟨q51 _ _ _,ha,fun n hn=>by
 rw [qxc ha hb,Bool.and_eq_true] at hn;exact hn.1⟩
theorem qoc {a b:List Int} (ha:sok a=true) (hb:sok b=true):q2u (q4t a b) a=true:=spart_iff.2 ⟨q51 _ _ _,ha,fun n hn=>by
 rw [qkl ha hb,Bool.and_eq_true] at hn;exact hn.1⟩
theorem q5l (a b:List Int):sok (q4t a b)=true:=q51 _ _ _
theorem qq4 (a b:List Int):sok (q7t a b)=true:=q51 _ _ _
theorem mkids_mem {g:List Thing} {node:Nat} {x:Int}:x∈q3l g node↔∃ k:Nat,x=k∧k<g.length∧2<q2k g k∧qh3 g k=(node:Int):=by
 rw [q3l,idx_mem]
 simp only [Bool.and_eq_true,decide_eq_true_eq]
theorem qhh (g:List Thing) (node:Nat):(q3l g node).Pairwise (· < ·):=qeu _ _
theorem q9a {g:List Thing} (hg:q1o g=true) (node:Nat):sok (q3l g node)=true:=qg3 _ (q1w hg).2
theorem qk4 {g:List Thing} (hg:q1o g=true) {node:Nat} {x:Int} (hx:x∈q3l g node):(node:Int)<x:=by
 obtain ⟨k,rfl,hk,_,hu⟩:=mkids_mem.1 hx
 have:=(q34 hg (List.getElem?_eq_getElem hk)).1
 rw [qh3,List.getElem?_eq_getElem hk] at hu
 have hu:g[k].up=(node:Int):=hu
 omega
theorem qwa {a b:List Int} (h:a.Sublist b) (hb:sok b=true):sok a=true:=q3b ((q49 hb).sublist h) fun x hx=>q4h hb (h.subset hx)
theorem q88 {g:List Thing} {free:List Int} (hg:q1o g=true) (hf:sok free=true) (node:Nat) (kind most:Int):q2u (q4v g free node kind most) free=true:=by
 have hs:(q4v g free node kind most).Sublist (q3l g node):=(List.take_sublist _ _).trans List.filter_sublist
 refine q97 (qwa hs (q9a hg node)) hf fun x hx=>?_
 have:=List.mem_of_mem_take hx
 rw [List.mem_filter,Bool.and_eq_true] at this
 have h0:=q4h (q9a hg node) this.1
 have:=inl_mem.1 this.2.1
 rwa [Int.toNat_of_nonneg h0.1] at this
theorem qbs {g:List Thing} (hg:q1o g=true) {node:Nat} (hn:node<256):sok ((node:Int) :: q3l g node)=true:=q3b (List.pairwise_cons.2 ⟨fun x hx=>qk4 hg hx,qhh g node⟩) fun x hx=>by
 rcases List.mem_cons.1 hx with rfl | hx
 ·omega
 ·exact q4h (q9a hg node) hx
theorem qnu {g:List Thing} {free:List Int} {s:Spec} (hg:q1o g=true) (hf:sok free=true) (node:Nat):q2u (q6n g free s node).1 free=true:=by
 unfold q6n
 split
 ·exact qbm hf
 rename_i h1
 split
 ·exact qbm hf
 split
 ·exact qea (q88 hg hf _ _ _) (q88 hg hf _ _ _)
 split
 ·rename_i h4
  have hfn:inl free node=true:=by
   simp only [Bool.not_eq_true',Bool.not_eq_false,Bool.and_eq_true] at h1
   exact h1.1.2
  refine q97 (qbs hg (qat hf hfn)) hf fun x hx=>?_
  rcases List.mem_cons.1 hx with rfl | hx
  ·exact inl_mem.1 hfn
  ·have h0:=q4h (q9a hg node) hx
   have:=inl_mem.1 (List.all_eq_true.1 h4 x hx)
   rwa [Int.toNat_of_nonneg h0.1] at this
 ·exact qbm hf
theorem q8y {g:List Thing} {free:List Int} {s:Spec} (hg:q1o g=true) (hf:sok free=true):∀ k,q2u (q1u g free s k).1 free=true
 | 0=>qbm hf
 | k+1=>by
  rw [q1u]
  split
  ·exact qea (q8y hg hf k) (qnu hg hf k)
  ·exact q8y hg hf k
theorem qoo {g:List Thing} {free:List Int} {s:Spec} (h:(q4u g free s).2=true):q2u (q4u g free s).1 free=true:=by
 unfold q4u at h ⊢
 split at h
 ·cases h
 rename_i hm
 rw [if_neg hm]
 simp only [qnp,Bool.not_eq_true',Bool.not_eq_false,Bool.and_eq_true] at hm
 split at h
 ·cases h
 rename_i hl
 rw [if_neg hl]
 exact q8y hm.1.1 hm.1.2 _
theorem qr8 {g:List Thing} {use:List Int} {l:List Held} {s:Spec} {t til:Int} (hu:sok use=true) (h:(q2f g use l s t til).2=true):q2u (q2f g use l s t til).1 use=true∧t≠4611686018427387904∧q1p s t≤til:=by
 unfold q2f at h ⊢
 split at h
 ·cases h
 rename_i hm
 rw [if_neg hm]
 simp only [Bool.or_eq_true,decide_eq_true_eq,not_or] at hm
 exact ⟨qa8 (qoo h) (qf8 hu (qdq _ _ _)),hm.1.2,by omega⟩
theorem q4o {g:List Thing} {use:List Int} {l:List Held} {s:Spec} {til:Int}:∀ ts:List Int,(q20 g use l s til ts).2.2=true→(q20 g use l s til ts).1∈ts∧(q2f g use l s (q20 g use l s til ts).1 til).2=true∧(q20 g use l s til ts).2.1=(q2f g use l s (q20 g use l s til ts).1 til).1
 | [],h=>by cases h
 | t :: ts,h=>by
  unfold q20 at h ⊢
  split at h
  ·rename_i hf
   rw [if_pos hf]
   exact ⟨List.mem_cons_self,hf,rfl⟩
  ·rename_i hf
   rw [if_neg hf]
   have:=q4o ts h
   exact ⟨List.mem_cons_of_mem _ this.1,this.2⟩
theorem qpw {g:List Thing} {use:List Int} {l:List Held} {s:Spec} {frm til:Int} (hu:sok use=true) (h:(qt g use l s frm til).2.2=true):q2u (qt g use l s frm til).2.1 use=true∧(qt g use l s frm til).1≠4611686018427387904∧q1p s (qt g use l s frm til).1≤til:=by
 unfold qt at h ⊢
 split at h
 ·cases h
 rename_i hm
 rw [if_neg hm]
 obtain ⟨h1,h2,h3⟩:=q4o _ h
 rw [h3]
 exact qr8 hu h2
theorem q7m {l:List Held} {h:Held} (e:(q1f l h).2=0):q1s l=true∧hmay h=true∧(∀ x∈l,x.id≠h.id)∧l.length<256∧(∀ x∈l,q3p x h=false)∧(q1f l h).1=qt6 Held.id l h:=by
 unfold q1f at e
 split at e
 ·simp at e
 rename_i h1
 simp only [Bool.not_eq_true',Bool.not_eq_false,Bool.and_eq_true] at h1
 split at e
 ·simp at e
 rename_i h2
 split at e
 ·simp at e
 rename_i h3
 simp only [Bool.or_eq_true,decide_eq_true_eq,not_or,Bool.not_eq_true,List.any_eq_false] at h3
 have hp:=held_iff.1 h1.1
 have hn:∀ x∈l,x.id≠h.id:=fun x hx e=>h2 ((q32 hp.2.2.1).2 ⟨x,hx,e⟩)
 have hl:l.length<256:=by have:=hp.1;omega
 exact ⟨h1.1,h1.2,hn,hl,h3.2,by rw [(q87 h1.1 h1.2 hn hl h3.2).1]⟩
theorem qte {l:List Held} (hr:q1s l=true) {a b:Held} (ha:a∈l) (hb:b∈l) (hne:a.id≠b.id):q3p a b=false:=by
 obtain ⟨_,_,_,h4⟩:=held_iff.1 hr
 obtain ⟨i,hi⟩:=List.mem_iff_getElem?.1 ha
 obtain ⟨j,hj⟩:=List.mem_iff_getElem?.1 hb
 obtain ⟨hi1,hi2⟩:=List.getElem?_eq_some_iff.1 hi
 obtain ⟨hj1,hj2⟩:=List.getElem?_eq_some_iff.1 hj
 rcases Nat.lt_trichotomy i j with h | h | h
 ·have:=List.pairwise_iff_getElem.1 h4 i j hi1 hj1 h
  rwa [hi2,hj2] at this
 ·subst h
  rw [hi] at hj
  cases hj
  exact absurd rfl hne
 ·have:=List.pairwise_iff_getElem.1 h4 j i hj1 hi1 h
  rw [hi2,hj2,qej] at this
  exact this
structure PK (use : List Int) (now til : Int) (ws : List Want) (l0 : List Held) (l : List Held) (begun : List Held) : Prop where
 r:q1s l=true
 old:∀ x∈l0,x∈l
 isin:∀ x∈begun,x∈l
 new:∀ x∈begun,∀ y∈l0,y.id≠x.id
 dif:begun.Pairwise (fun a b=>a.id≠b.id)
 frm:∀ x∈begun,x.frm=now
 of:∀ x∈begun,∃ w∈ws,w.id=x.id∧x.to=q1p w.spec now
 part:∀ x∈begun,q2u x.things use=true
 til:∀ x∈begun,x.to≤til∧now≠4611686018427387904
theorem PK.none {use:List Int} {now til:Int} {ws:List Want} {l0:List Held} (h:q1s l0=true):PK use now til ws l0 l0 [] :=
 ⟨h,fun x hx=>hx,(fun _ h=>nomatch h),(fun _ h=>nomatch h),List.Pairwise.nil,(fun _ h=>nomatch h),(fun _ h=>nomatch h),(fun _ h=>nomatch h),(fun _ h=>nomatch h)⟩
theorem PK.add {use:List Int} {now til:Int} {ws:List Want} {l0 l begun:List Held} (p:PK use now til ws l0 l begun) {h:Held} (e:(q1f l h).2=0):PK use now til ws l0 (q1f l h).1 begun:=by
 obtain ⟨h1,h2,h3,h4,h5,h6⟩:=q7m e
 rw [h6]
 exact ⟨(q87 h1 h2 h3 h4 h5).2,fun x hx=>kput_mem.2 (.inr (p.old x hx)),fun x hx=>kput_mem.2 (.inr (p.isin x hx)),p.new,p.dif,p.frm,p.of,p.part,p.til⟩
theorem PK.begin {use:List Int} {now til:Int} {ws:List Want} {l0 l begun:List Held} (p:PK use now til ws l0 l begun) {w:Want} (hw:w∈ws) {things:List Int} (hp:q2u things use=true) (ht:q1p w.spec now≤til∧now≠4611686018427387904) (e:(q1f l ⟨w.id,things,now,q1p w.spec now⟩).2=0) :
  PK use now til ws l0 (q1f l ⟨w.id,things,now,q1p w.spec now⟩).1 (begun++[⟨w.id,things,now,q1p w.spec now⟩]):=by
 obtain ⟨h1,h2,h3,h4,h5,h6⟩:=q7m e
 have q:=p.add e
 refine ⟨q.r,q.old,fun x hx=>?_,fun x hx y hy=>?_,?_,fun x hx=>?_,fun x hx=>?_,fun x hx=>?_,fun x hx=>?_⟩
 ·rcases List.mem_append.1 hx with hx | hx
  ·exact q.isin x hx
  ·rw [List.mem_singleton] at hx;subst hx
   rw [h6];exact kput_mem.2 (.inl rfl)
 ·rcases List.mem_append.1 hx with hx | hx
  ·exact p.new x hx y hy
  ·rw [List.mem_singleton] at hx;subst hx
   exact h3 y (p.old y hy)
 ·rw [List.pairwise_append]
  refine ⟨p.dif,List.pairwise_singleton _ _,fun a ha b hb=>?_⟩
  rw [List.mem_singleton] at hb;subst hb
  exact h3 a (p.isin a ha)
 ·rcases List.mem_append.1 hx with hx | hx
  ·exact p.frm x hx
  ·rw [List.mem_singleton] at hx;subst hx;rfl
 ·rcases List.mem_append.1 hx with hx | hx
  ·exact p.of x hx
  ·rw [List.mem_singleton] at hx;subst hx
   exact ⟨w,hw,rfl,rfl⟩
 ·rcases List.mem_append.1 hx with hx | hx
  ·exact p.part x hx
  ·rw [List.mem_singleton] at hx;subst hx;exact hp
 ·rcases List.mem_append.1 hx with hx | hx
  ·exact p.til x hx
  ·rw [List.mem_singleton] at hx;subst hx;exact ht
theorem q9p {g:List Thing} {use:List Int} {now til policy depth:Int} {ws0:List Want} {l0:List Held} (hu:sok use=true):∀ (ws:List Want) (s:PickS),(∀ w∈ws,w∈ws0)→PK use now til ws0 l0 s.l s.begun→q1s l0=true→∃ l,PK use now til ws0 l0 l (q5q g use now til policy depth s ws).1
 | [],s,_,p,h0=>⟨s.l,p⟩
 | w :: ws,s,hm,p,h0=>by
  have hm':=fun v hv=>hm v (List.mem_cons_of_mem _ hv)
  unfold q5q
  split
  ·exact q9p hu ws s hm' p h0
  rename_i hf
  have hf':(qt g use s.l w.spec now til).2.2=true:=by simpa using hf
  split
  ·exact ⟨s.l,p⟩
  split
  ·exact q9p hu ws s hm' p h0
  split
  ·exact ⟨l0,PK.none h0⟩
  rename_i he
  have he':=Classical.not_not.1 he
  obtain ⟨s1,s2,s3⟩:=qpw hu hf'
  split
  ·rename_i hnow
   refine q9p hu ws _ hm' ?_ h0
   simp only
   rw [hnow] at he' s2 s3 ⊢
   exact p.begin (hm w List.mem_cons_self) s1 ⟨s3,s2⟩ he'
  ·exact q9p hu ws _ hm' (p.add he') h0
theorem qf2 {g:List Thing} {use:List Int} {l0:List Held} {ws:List Want} {now til policy depth:Int} (hu:sok use=true) (h0:q1s l0=true):∃ l,PK use now til ws l0 l (q35 g use l0 ws now til policy depth).1:=by
 unfold q35
 split
 ·exact ⟨l0,PK.none h0⟩
 ·exact q9p hu ws _ (fun w hw=>hw) (PK.none h0) h0
def q7s (g:List Thing) (free:List Int) (kind most:Int) (l:List Int):List Int:=(l.filter fun n=>inl free n.toNat&&decide (q2k g n.toNat=kind)).take most.toNat
theorem qrc (g:List Thing) (free:List Int) (node:Nat) (kind most:Int):q4v g free node kind most=q7s g free kind most (q3l g node):=rfl
theorem qou {g:List Thing} {free:List Int} {kind most:Int} {l:List Int} {k:Nat} {x:Int} (hx:l[k]?=some x):q7s g free kind most (l.take (k+1))=if (decide (((q7s g free kind most (l.take k)).length:Int)<most)&&(inl free x.toNat&&decide (q2k g x.toNat=kind)))=true then q7s g free kind most (l.take k)++[x] else q7s g free kind most (l.take k):=by
 unfold q7s
 rw [List.take_add_one,hx,List.filter_append]
 cases h:(inl free x.toNat&&decide (q2k g x.toNat=kind)) with
 | false=>simp [h]
 | true =>
  simp only [Option.toList_some,List.filter_cons,h,if_true,List.filter_nil,Bool.and_true,decide_eq_true_eq]
  generalize (l.take k).filter (fun n=>inl free n.toNat&&decide (q2k g n.toNat=kind))=a
  by_cases hl:a.length<most.toNat
  ·rw [List.take_of_length_le Y1c,List.take_of_length_le (by omega),if_pos (by omega)]
  ·rw [List.take_append_of_le_length (by omega),if_neg Ys]
theorem qlo (g:List Thing) (free:List Int) (kind most:Int) (l:List Int):(q7s g free kind most l).length≤l.length:=by
 unfold q7s
 exact ((List.take_sublist _ _).trans List.filter_sublist).length_le
theorem q9x {g:List Thing} (hg:q1o g=true) (node:Nat):(q3l g node).length≤256:=Nat.le_trans (q62 _ _) (q1w hg).2
theorem qgu {g:List Thing} {node:Nat} {x:Int} (hx:x∈q3l g node):∃ k:Nat,x=(k:Int)∧k<g.length:=by
 obtain ⟨k,h1,h2,_⟩:=mkids_mem.1 hx
 exact ⟨k,h1,h2⟩
theorem qls {g:List Thing} (hg:q1o g=true) (free:List Int) (node:Nat) (kind most:Int):(q4v g free node kind most).length≤256:=Nat.le_trans (qlo _ _ _ _ _) (q9x hg node)
theorem qlz {g:List Thing} (hg:q1o g=true) (free:List Int) (s:Spec) (node:Nat):(q6n g free s node).1.length≤257:=by
 have h1:=q9x hg node
 have h2:(q7t (q4v g free node 3 s.cores) (q4v g free node 4 s.gpus)).length≤256:=q5n _ _ _
 unfold q6n
 (repeat' split)<;>simp<;>omega
theorem q9f {g:List Thing} (free:List Int) (s:Spec):∀ k,(q1u g free s k).1.length≤256
 | 0=>by simp [q1u]
 | k+1=>by
  have h:=q9f free s k (g:=g)
  rw [q1u]
  split
  ·exact q5n _ _ _
  ·exact h
theorem q8r {g:List Thing} (free:List Int) (s:Spec):∀ k:Nat,s.nodes-(k:Int)≤(q1u g free s k).2∧(q1u g free s k).2≤s.nodes
 | 0=>by simp [q1u]
 | k+1=>by
  have h:=q8r free s k (g:=g)
  rw [q1u]
  split
  ·simp only;omega
  ·omega
theorem q91 {g:List Thing} {free:List Int} {s:Spec} {k:Nat} (h:¬ 0<(q1u g free s k).2):∀ d,q1u g free s (k+d)=q1u g free s k
 | 0=>rfl
 | d+1=>by
  have:=q91 h d
  rw [← Nat.add_assoc,q1u,this,if_neg (fun e=>h e.1)]
end Go.Av
namespace Go.Av
open Go.Proofs
theorem qh7 (g:List Thing) (free:List Int) (kind most:Int):q7s g free kind most []=[]:=by simp [q7s]
theorem qws (l:List Int):∀ r∈l.map eN1,r.length=1:=q85 (e:=eN1) (n:=1) (fun _=>rfl) l
set_option maxHeartbeats 0 in
theorem qfi (g:List Thing) (free:List Int) (s:Spec) (node:Nat) (kind most:Int) (p:Nat) (H:qj) (hg:q1o g=true) (hn:node<g.length) (hid:H[p]?=some ⟨0,10,[qnn g free s]⟩):AC Tryz.prog 223 [.pt p 0 0 0,.int .i64 (node:Int),.int .i64 kind,.int .i64 most] H (Ret (.pl ((q4v g free node kind most).map eN1)) H):=by
 have hF:=hid
 have hp0:p<H.length:=(List.getElem?_eq_some_iff.1 hid).1
 have hkr:=qly hn
 have hkl:=q9x hg node
 have hmem:∀ x∈q3l g node,∃ k:Nat,x=(k:Int)∧k<g.length:=fun x hx=>qgu hx
 rw [qrc]
 generalize q3l g node=l at hkr hkl hmem
 refine AC.body (N:=55) [.tmp 8] Tryz.func223 rfl rfl rfl (Nat.le_of_ble_eq_true rfl) fun B hB=>?_
 refine Z4m ?_
 refine Z4s ?_
 refine q22 (k:=0) 9 1 rfl (by decide) rfl ?_
 refine q1k ?_
 refine Zp9 ?_
 refine Zpc ?_
 refine Zpe ?_
 refine Z8 ?_
 refine Zr5 ?_
 refine Zr6 ?_
 refine Zf5 ?_
 refine Zr7 ?_
 refine Z1d ?_
 refine qm (G:=Nat) (fun k=>k≤l.length) (fun k=>[(0,.pt p 0 0 0),(2,.int .i64 kind),(3,.int .i64 most),(9,.sl (Lid H.length 0) (q7s g free kind most (l.take k)).length 0 (q7s g free kind most (l.take k)).length (q7s g free kind most (l.take k)).length),(18,.pl (l.map eN1)),(19,.int .i64 (l.length:Int)),(20,.int .i64 (k:Int))]) (fun k=>H++[⟨(q7s g free kind most (l.take k)).length,1,(q7s g free kind most (l.take k)).map eN1⟩]) (fun k=>l.length-k) 0 (Nat.zero_le _) (by simp only [List.take_zero,qh7];exact Y6) (.inl (by rw [List.take_zero,qh7];rfl)) ?_
 intro k hk
 refine Z5a ?_
 refine qa rfl (fun hc=>?_) (fun hc=>?_)
 ·have hlt:k<l.length:=by simpa using hc
  obtain ⟨x,hx,hxl⟩:=qo hlt
  have hr:=qh eN1 hx
  obtain ⟨m,rfl,hm⟩:=hmem x hxl
  obtain ⟨t,ht,_⟩:=qo hm
  have hrT:=qh qq ht
  have hrI:=q6c (l:=free) hm
  have hst:=qou (g:=g) (free:=free) (kind:=kind) (most:=most) hx
  have hle:=qlo g free kind most (l.take k)
  rw [List.length_take] at hle
  rw [Int.toNat_natCast,show q2k g m=t.kind by rw [q2k,ht]] at hst
  generalize q7s g free kind most (l.take k)=acc at hst hle ⊢
  clear hc hmem hkr
  refine Z5e ?_
  refine Za ?_
  refine qn 48 (.bool (decide ((acc.length:Int)<most)&&(inl free m&&decide (t.kind=kind)))) ?_ ?_
  ·refine Zb0 ?_
   refine Zr8 ?_
   refine Zw ?_
   refine qb rfl rfl (fun hg4=>?_) (fun hg4=>?_)
   ·refine Zr9 ?_
    refine Zra ?_
    refine Zrb ?_
    refine q2n rfl rfl (by decide) (qi (v:=.pl (q2l g free)) rfl (lkF hF) rfl rfl rfl) ?_
    refine Zj ?_
    refine q2n rfl rfl (by decide) (qe rfl rfl hrI rfl) ?_
    refine q2n rfl rfl (by decide) (qz (v:=.bool _) rfl hrI rfl) ?_
    refine Z3b ?_
    refine qb rfl rfl (fun hg13=>?_) (fun hg13=>?_)
    ·refine Zr9 ?_
     refine Zra ?_
     refine Zrb ?_
     refine q2n rfl rfl (by decide) (qi (v:=.pl (g.map qq)) rfl (lkF hF) rfl rfl rfl) ?_
     refine Zj ?_
     refine q2n rfl rfl (by decide) (qe rfl rfl hrT rfl) ?_
     refine Zrc ?_
     refine q2n rfl rfl (by decide) (qz (v:=.int _ _) rfl hrT rfl) ?_
     refine Z7o ?_
     refine Zm ?_
     exact qf (Out.mk (by (refine congrArg AV.bool ?_;(clear hB hst hr hrT hrI ht;grind))) Yb)
    ·refine Z2c ?_
     refine Z2c ?_
     refine Z2h ?_
     exact qf (Out.mk (by (refine congrArg AV.bool ?_;(clear hB hst hr hrT hrI ht;(simp_all;done)))) Yb)
   ·refine Z2c ?_
    refine Z61 ?_
    refine Z2c ?_
    refine Z2i ?_
    exact qf (Out.mk (by (refine congrArg AV.bool ?_;(clear hB hst hr hrT hrI ht;(simp_all;omega)))) Yb)
  refine Z1 ?_
  refine qa rfl (fun hc=>?_) (fun hc=>?_)
  ·rw [if_pos hc] at hst
   refine Zcr ?_
   refine Zb3 ?_
   refine Zct ?_
   rw [show (acc.map eN1).take acc.length=acc.map eN1 from List.take_of_length_le (by simp)]
   refine Z5l ?_
   exact ⟨k+1,by omega,by omega,by rw [hst,List.length_append];exact Y6,by rw [hst,List.length_append];exact Fit.loc hB Yu Y1 Y8⟩
  ·rw [if_neg Y16] at hst
   refine Z5l ?_
   exact ⟨k+1,by omega,by omega,by rw [hst];exact Y6,by rw [hst];exact Fit.refl _ _⟩
 ·have:k=l.length:=by simp at hc;omega
  subst this
  rw [List.take_length]
  refine Zba ?_
  refine qu (ys:=(q7s g free kind most l).map eN1) 8 rfl rfl rfl rfl Yg (by simp) (q1y 0 _) ?_
  exact Zbb
set_option maxHeartbeats 0 in
theorem qox (g:List Thing) (free:List Int) (s:Spec) (node:Nat) (p:Nat) (H:qj) (hg:q1o g=true) (hn:node<g.length) (hid:H[p]?=some ⟨0,10,[qnn g free s]⟩):ACT Tryz.prog KD 216 [.pt p 0 0 0,.int .i64 (node:Int)] H (Ret (.tup [.pl ((q6n g free s node).1.map eN1),.bool (q6n g free s node).2]) H):=by
 have hF:=hid
 have hp0:p<H.length:=(List.getElem?_eq_some_iff.1 hid).1
 have hkr:=qly hn
 have hkl:=q9x hg node
 have hmem:∀ x∈q3l g node,∃ k:Nat,x=(k:Int)∧k<g.length:=fun x hx=>qgu hx
 obtain ⟨t,ht,_⟩:=qo hn
 have hrT:=qh qq ht
 have hrI:=q6c (l:=free) hn
 have l3:=qls hg free node 3 s.cores
 have l4:=qls hg free node 4 s.gpus
 refine ACT.body (N:=123) [.tmp 4,.tmp 5] Tryz.func216 rfl rfl rfl (Nat.le_of_ble_eq_true rfl) fun B hB=>?_
 refine Zrd ?_
 refine Zpa ?_
 refine Zpc ?_
 refine ao1 (by decide) (qi (v:=.pl (g.map qq)) rfl (lkF hF) rfl rfl rfl) ?_
 refine Z8 ?_
 refine ao1 (by decide) (qe rfl rfl hrT rfl) ?_
 refine ao1 (by decide) (q3d rfl hrT rfl) ?_
 refine Zd0 ?_
 refine Zd1 ?_
 refine qf ?_
 try dsimp only [put,List.length_nil,Nat.reduceAdd,List.nil_append,List.set_cons_zero]
 refine Z1 ?_
 refine q1l 48 (.bool (!(decide (t.kind=2)&&inl free node&&(decide (s.tag=⟨#[]⟩)||decide (t.tag=s.tag))))) ?_ ?_
 ·refine Zd5 ?_
  refine Zd6 ?_
  refine Zre ?_
  refine Z9z ?_
  refine qp (g:=21) rfl (fun hg3=>?_) (fun hg3=>?_)
  ·refine Zrf ?_
   refine Zrg ?_
   refine Zrh ?_
   refine Zgj ?_
   refine Zgk ?_
   refine Zgl ?_
   refine Zgm ?_
   refine Zgn ?_
   refine Zri ?_
   refine Zrj ?_
   refine Zrk ?_
   refine Zrl ?_
   refine Zrm ?_
   refine Zrn ?_
   refine Zro ?_
   refine Zrp ?_
   refine Zrq ?_
   refine Zrr ?_
   refine Zrs ?_
   refine Zrt ?_
   refine Zru ?_
   refine Zrv ?_
   refine Zrw ?_
   refine Zrx ?_
   refine Zry ?_
   refine Zrz ?_
   refine Zs0 ?_
   exact Zs1
  ·refine q1h (g:=21) 4 rfl Y17 (by decide) rfl rfl (fun _=>qd (v:=.pt _ _ _ _) rfl) ?_
   refine q1j (g:=21) 5 rfl Y17 (by decide) rfl rfl (fun G=>q1g rfl (lkF hF) rfl) ?_
   refine q1j (g:=21) 6 rfl Y17 (by decide) rfl rfl (fun G=>qc rfl (lkF hF) rfl (by decide)) ?_
   refine q1j (g:=21) 7 rfl Y17 (by decide) rfl rfl (fun G=>qi (v:=.pl (q2l g free)) rfl (lkF hF) rfl rfl rfl) ?_
   refine q1h (g:=21) 8 rfl Y17 (by decide) rfl rfl (fun _=>qd (v:=.int _ _) rfl) ?_
   refine q1j (g:=21) 9 rfl Y17 (by decide) rfl rfl (fun G=>qe rfl rfl hrI rfl) ?_
   refine q1j (g:=21) 10 rfl Y17 (by decide) rfl rfl (fun G=>qz (v:=.bool _) rfl hrI rfl) ?_
   refine q1h (g:=21) 11 rfl Y17 (by decide) rfl rfl (fun _=>q8e rfl) ?_
   refine Zs2 ?_
   refine Zrj ?_
   refine qp (g:=31) rfl (fun hg13=>?_) (fun hg13=>?_)
   ·refine Zrk ?_
    refine Zrl ?_
    refine Zrm ?_
    refine Zrn ?_
    refine Zro ?_
    refine Zrp ?_
    refine Zrq ?_
    refine Zrr ?_
    refine Zrs ?_
    refine Zrt ?_
    refine Zru ?_
    refine Zrv ?_
    refine Zrw ?_
    refine Zrx ?_
    refine Zry ?_
    refine Zrz ?_
    refine Zs0 ?_
    exact Zs1
   ·refine q1h (g:=31) 14 rfl Y17 (by decide) rfl rfl (fun _=>qd (v:=.pt _ _ _ _) rfl) ?_
    refine q1j (g:=31) 15 rfl Y17 (by decide) rfl rfl (fun G=>q1g rfl (lkF hF) rfl) ?_
    refine q1j (g:=31) 16 rfl Y17 (by decide) rfl rfl (fun G=>qc rfl (lkF hF) rfl (by decide)) ?_
    refine q1j (g:=31) 17 rfl Y17 (by decide) rfl rfl (fun G=>qc rfl (lkF hF) rfl (by decide)) ?_
    refine q1j (g:=31) 18 rfl Y17 (by decide) rfl rfl (fun G=>qi (v:=.str s.tag) rfl (lkF hF) rfl rfl rfl) ?_
    refine q1h (g:=31) 19 rfl Y17 (by decide) rfl rfl (fun _=>qer rfl rfl) ?_
    refine q1h (g:=31) 20 rfl Y17 (by decide) rfl rfl (fun _=>qd (v:=.bool _) rfl) ?_
    refine qp (g:=38) rfl (fun hg20=>?_) (fun hg20=>?_)
    ·refine q1j (g:=38) 21 rfl Y17 (by decide) rfl rfl (fun G=>qc rfl (lk rfl rfl) rfl (by decide)) ?_
     refine q1j (g:=38) 22 rfl Y17 (by decide) rfl rfl (fun G=>qi (v:=.str _) rfl (lk rfl rfl) rfl rfl rfl) ?_
     refine q1h (g:=38) 23 rfl Y17 (by decide) rfl rfl (fun _=>qd (v:=.pt _ _ _ _) rfl) ?_
     refine q1j (g:=38) 24 rfl Y17 (by decide) rfl rfl (fun G=>q1g rfl (lkF hF) rfl) ?_
     refine q1j (g:=38) 25 rfl Y17 (by decide) rfl rfl (fun G=>qc rfl (lkF hF) rfl (by decide)) ?_
     refine q1j (g:=38) 26 rfl Y17 (by decide) rfl rfl (fun G=>qc rfl (lkF hF) rfl (by decide)) ?_
     refine q1j (g:=38) 27 rfl Y17 (by decide) rfl rfl (fun G=>qi (v:=.str s.tag) rfl (lkF hF) rfl rfl rfl) ?_
     refine q1h (g:=38) 28 rfl Y17 (by decide) rfl rfl (fun _=>qer rfl rfl) ?_
     refine q1h (g:=31) 29 rfl Y17 (by decide) rfl rfl (fun _=>q16 (v:=.bool _) rfl rfl) ?_
     refine Zs3 ?_
     exact Zs1
    ·refine qr (g:=38) 21 rfl Y17 (by decide) rfl rfl rfl ?_
     refine qr (g:=38) 22 rfl Y17 (by decide) rfl rfl rfl ?_
     refine qr (g:=38) 23 rfl Y17 (by decide) rfl rfl rfl ?_
     refine qr (g:=38) 24 rfl Y17 (by decide) rfl rfl rfl ?_
     refine qr (g:=38) 25 rfl Y17 (by decide) rfl rfl rfl ?_
     refine qr (g:=38) 26 rfl Y17 (by decide) rfl rfl rfl ?_
     refine qr (g:=38) 27 rfl Y17 (by decide) rfl rfl rfl ?_
     refine qr (g:=38) 28 rfl Y17 (by decide) rfl rfl rfl ?_
     refine q1h (g:=31) 29 rfl Y17 (by decide) rfl rfl (fun _=>q17 (v:=.bool _) rfl rfl) ?_
     refine Zs3 ?_
     exact Zs1
 have hmh:q6n g free s node=if !(decide (t.kind=2)&&inl free node&&(decide (s.tag=⟨#[]⟩)||decide (t.tag=s.tag))) then ([],false)
  else if decide (((q4v g free node 3 s.cores).length:Int)<s.cores)||decide (((q4v g free node 4 s.gpus).length:Int)<s.gpus) then ([],false)
  else if !s.whole then (q7t (q4v g free node 3 s.cores) (q4v g free node 4 s.gpus),true)
  else if (q3l g node).all (fun n=>inl free n.toNat) then ((node:Int) :: q3l g node,true) else ([],false):=by
  rw [q6n,show q2k g node=t.kind by rw [q2k,ht],show qru g node=t.tag by rw [qru,ht]]
 rw [hmh]
 clear hmh
 refine Z1 ?_
 refine qa rfl (fun hc=>?_) (fun hc=>?_)
 ·rw [if_pos hc]
  refine Zrd ?_
  try dsimp only
  refine Z1d ?_
  refine q1c 4 rfl ?_
  exact Zox
 rw [if_neg Y16]
 clear hc
 have ck3:=fun H=>qfi g free s node 3 s.cores p H hg hn
 have ck4:=fun H=>qfi g free s node 4 s.gpus p H hg hn
 generalize q4v g free node 3 s.cores=c3 at ck3 l3 ⊢
 generalize q4v g free node 4 s.gpus=c4 at ck4 l4 ⊢
 refine Zqa ?_
 refine Znk ?_
 refine Z1j ?_
 refine Zo8 ?_
 refine aqp 3 rfl Y17 (by decide) (fun G=>q1g rfl (lkF hF) rfl) ?_
 refine Zs4 ?_
 refine aqp 5 rfl Y17 (by decide) (fun G=>qc rfl (lkF hF) rfl (by decide)) ?_
 refine aqp 6 rfl Y17 (by decide) (fun G=>qi (v:=.int .i64 s.cores) rfl (lkF hF) rfl rfl rfl) ?_
 refine qyj 7 rfl Y17 (by decide) (fun G=>V2.call (ck3 _ (lkF hF)) rfl) ?_
 refine aq0 8 rfl Y17 (by decide) (fun _=>qd (v:=.pt _ _ _ _) rfl) ?_
 refine Zq6 ?_
 refine Znu ?_
 refine Znv ?_
 refine Znw ?_
 refine Znx ?_
 refine aqp 14 rfl Y17 (by decide) (fun G=>qi (v:=.int .i64 s.gpus) rfl (lkF hF) rfl rfl rfl) ?_
 refine qyj 15 rfl Y17 (by decide) (fun G=>V2.call (ck4 _ (lkF hF)) rfl) ?_
 refine Zs5 ?_
 refine Znz ?_
 refine Zo0 ?_
 refine Z1 ?_
 refine qn 82 (.bool (decide ((c3.length:Int)<s.cores)||decide ((c4.length:Int)<s.gpus))) ?_ ?_
 ·refine Z8w ?_
  refine Zp9 ?_
  refine Zpd ?_
  refine ao1 (by decide) (qi (v:=.int .i64 s.cores) rfl (lkF hF) rfl rfl rfl) ?_
  refine Zv ?_
  refine qb rfl rfl (fun hg8=>?_) (fun hg8=>?_)
  ·refine Z5f ?_
   refine Z5g ?_
   exact qf (Out.mk (by (refine congrArg AV.bool ?_;(clear hB ck3 ck4 hmem hkr;(simp_all;done)))) Yb)
  ·refine Zcw ?_
   refine Zr9 ?_
   refine Zra ?_
   refine Zrb ?_
   refine Zrb ?_
   refine q2n rfl rfl (by decide) (qi (v:=.int .i64 s.gpus) rfl (lkF hF) rfl rfl rfl) ?_
   refine Zk ?_
   refine Zr ?_
   exact qf (Out.mk (by (refine congrArg AV.bool ?_;(clear hB ck3 ck4 hmem hkr;(simp_all;omega)))) Yb)
 refine Z1 ?_
 refine qa rfl (fun hc=>?_) (fun hc=>?_)
 ·rw [if_pos hc]
  refine Zrd ?_
  try dsimp only
  refine Z1d ?_
  refine q1c 4 rfl ?_
  exact Zox
 rw [if_neg Y16]
 clear hc ck3 ck4
 refine Zpa ?_
 refine Zpd ?_
 refine ao1 (by decide) (qi (v:=.bool s.whole) rfl (lkF hF) rfl rfl rfl) ?_
 refine Z1a ?_
 refine Z56 ?_
 refine qa rfl (fun hc=>?_) (fun hc=>?_)
 ·rw [if_pos hc]
  refine Za5 ?_
  refine ao2 Y11 (V2.callT (qgr c3 c4 (by omega) (by omega) _) rfl rfl) ?_
  refine Zs6 ?_
  try dsimp only [put]
  exact Zhu
 rw [if_neg Y16]
 clear hc
 generalize q3l g node=l at hkr hkl hmem
 refine Zpa ?_
 refine Zpc ?_
 refine Zs7 ?_
 refine Z8 ?_
 refine Zr5 ?_
 refine Zr6 ?_
 refine Z59 ?_
 refine qm (G:=Nat) (fun k=>k≤l.length∧∀ x∈l.take k,inl free x.toNat=true) (fun k=>[(0,.pt p 0 0 0),(1,.int .i64 (node:Int)),(98,.pl (l.map eN1)),(99,.int .i64 (l.length:Int)),(100,.int .i64 (k:Int))]) (fun _=>H++[⟨0,3,[qq t]⟩]) (fun k=>l.length-k) 0 ⟨Nat.zero_le _,by simp⟩ Y6 (.inl rfl) ?_
 rintro k ⟨hk,hno⟩
 refine Z5a ?_
 refine qa rfl (fun hc=>?_) (fun hc=>?_)
 ·have hlt:k<l.length:=by simpa using hc
  obtain ⟨x,hx,hxl⟩:=qo hlt
  have hr:=qh eN1 hx
  obtain ⟨m,rfl,hm⟩:=hmem x hxl
  have hrI2:=q6c (l:=free) hm
  clear hc
  refine Zjs ?_
  refine Zpa ?_
  refine Zpc ?_
  refine ao1 (by decide) (qi (v:=.pl (q2l g free)) rfl (lkF hF) rfl rfl rfl) ?_
  refine Z8 ?_
  refine ao1 (by decide) (qe rfl rfl hrI2 rfl) ?_
  refine ao1 (by decide) (qz (v:=.bool _) rfl hrI2 rfl) ?_
  refine Z1a ?_
  refine Z56 ?_
  refine qa rfl (fun hc=>?_) (fun hc=>?_)
  ·have hbad:l.all (fun n=>inl free n.toNat)=false:=by
    rw [List.all_eq_false]
    exact ⟨_,hxl,by rw [Int.toNat_natCast];simpa using hc⟩
   rw [if_neg (by rw [hbad];decide)]
   refine Zrd ?_
   try dsimp only
   refine Z1d ?_
   refine q1c 4 rfl ?_
   exact Zox
  ·refine Z5l ?_
   refine ⟨k+1,by omega,⟨by omega,?_⟩,Y6,.inl rfl⟩
   rw [ql hx]
   intro y hy
   rcases List.mem_append.1 hy with h | h
   ·exact hno y h
   ·simp only [List.mem_singleton] at h
    subst h
    rw [Int.toNat_natCast]
    simpa using hc
 ·have:k=l.length:=by simp at hc;omega
  subst this
  rw [List.take_length] at hno
  rw [if_pos (List.all_eq_true.2 hno)]
  clear hc
  refine Z12 ?_
  refine ao2 Y11 (q30 (sz:=1) (v:=.int .i64 (node:Int)) (cs:=[.int .i64 (node:Int)]) rfl (by decide) (by decide) rfl rfl rfl rfl rfl) ?_
  refine Zp9 ?_
  refine Zpc ?_
  refine Zs7 ?_
  refine Z8 ?_
  refine Zr5 ?_
  refine Zr6 ?_
  refine ao2 Y11 (qh1 rfl rfl rfl rfl rfl (Src.pl rfl (qws l)) rfl (by simp) Y1c Y1c) ?_
  refine Zb4 ?_
  refine Z1q ?_
  try dsimp only [List.length_cons,List.length_nil,Nat.reduceAdd,put,List.cons_append,List.nil_append,List.take_succ_cons,List.take_zero,List.set_cons_succ,List.set_cons_zero]
  refine Z1d ?_
  refine qu (ys:=((node:Int) :: l).map eN1) 4 rfl rfl rfl rfl (by rw [List.drop_zero];exact List.take_of_length_le Y1c) Y1c (q1y 0 _) ?_
  exact Zox
theorem qs3 (g:List Thing) (free:List Int) (s:Spec) (H:qj) (hl:g.length≤1000000) (hf:free.length≤1000000):AC Tryz.prog 214 [.pl (g.map qq),.pl (free.map eI),.agg (q2i s)] H (Ret (.bool (qnp g free s)) H):=by
 refine AC.body (N:=17) [.tmp 6] Tryz.func214 rfl rfl rfl (Nat.le_of_ble_eq_true rfl) fun B hB=>?_
 refine Z32 ?_
 refine Z35 ?_
 refine qn 6 (.bool (qnp g free s)) ?_ ?_
 ·refine Z4n ?_
  refine Zoj ?_
  refine Zh ?_
  refine qb rfl rfl (fun hg2=>?_) (fun hg2=>?_)
  ·refine Zc3 ?_
   refine Zfa ?_
   refine Z3b ?_
   refine qb rfl rfl (fun hg6=>?_) (fun hg6=>?_)
   ·refine Z5x ?_
    refine Z5w ?_
    refine Zn ?_
    exact Zs8
   ·refine Zt ?_
    exact Zs8
  ·refine Z62 ?_
   refine Zt ?_
   exact Zs8
 exact Z22
theorem V2.callK {P:Program} {N:Nat} {env:Env} {H0 L K:qj} {ty:TypeId} {f:Nat} {xs:Array Operand} {ts:Array TypeId} {vs:List AV} {v v':AV} [FnI P f] (hac:AC P f vs (H0++L) (Ret v' ((H0++L)++K))) (hvs:xs.toList.map (aev env)=vs) (hv:v'=v) :
  V2 P N (.call { callee:=.value (.func f),args:=xs,argTypes:=ts }) ty env (H0++L) v (H0++(L++K)):=by
 subst hv
 have:=V2.call (N:=N) (ty:=ty) (ts:=ts) hac hvs
 rwa [List.append_assoc] at this
set_option maxHeartbeats 0 in
theorem qet (g:List Thing) (free:List Int) (s:Spec) (H:qj) (hl:g.length≤1000000) (hf:free.length≤1000000):ACT Tryz.prog KD 197 [.pl (g.map qq),.pl (free.map eI),.agg (q2i s)] H (Ret (.tup [.pl ((q4u g free s).1.map eN1),.bool (q4u g free s).2]) H):=by
 refine ACT.body (N:=50) [.tmp 6,.tmp 7] Tryz.func197 rfl rfl rfl (Nat.le_of_ble_eq_true rfl) fun B hB=>?_
 refine Zpz ?_
 refine Z34 ?_
 refine Za5 ?_
 refine Z4b ?_
 refine q13 (qs3 _ _ _ _ (by omega) (by omega)) rfl (by decide) ?_
 refine Z4d ?_
 refine qa rfl (fun hc=>?_) (fun hc=>?_)
 ·have hno:q4u g free s=([],false):=by rw [q4u,if_pos hc]
  rw [hno]
  refine Zrd ?_
  try dsimp only
  refine Z1d ?_
  refine q1c 6 rfl ?_
  exact Zox
 have hmay:qnp g free s=true:=by simpa only [Bool.not_eq_false'] using hc
 have hmay':=hmay
 simp only [qnp,Bool.and_eq_true] at hmay'
 obtain ⟨⟨hg,hfs⟩,hss⟩:=hmay'
 have hlen:=q1w hg
 have hsf:=q5a hss
 have hfind:q4u g free s=if 0<(q1u g free s g.length).2 then ([],false) else ((q1u g free s g.length).1,true):=by rw [q4u,hmay];rfl
 rw [hfind]
 clear hc hfind
 refine Za5 ?_
 refine Z4b ?_
 refine ao2 Y11 (V2.callK (v:=.pt (Lid H.length 4) 0 0 0) (qnj g free s _ hg hfs) rfl (by simp [Lid])) ?_
 refine Zo4 ?_
 try dsimp only [put,List.cons_append,List.nil_append]
 refine Z4m ?_
 refine Z4i ?_
 refine Z4g ?_
 refine Z1e ?_
 refine q1c 9 rfl ?_
 refine qm (G:=Nat) (fun i=>i≤g.length) (fun i=>[(KT,KD.av),(0,.pl (g.map qq)),(8,.pt (Lid H.length 4) 0 0 0),(9,.pl ((q1u g free s i).1.map eN1)),(10,.int .i64 (q1u g free s i).2),(11,.int .i64 (i:Int))]) (fun _=>H++[⟨0,7,[q2i s]⟩,⟨0,7,[q2i s]⟩,⟨1,1,[]⟩,⟨1,1,[]⟩,⟨0,10,[qnn g free s]⟩]) (fun i=>g.length-i) 0 (Nat.zero_le _) Y6 (.inl rfl) ?_
 intro i hi
 have hle:=q9f (g:=g) free s i
 have hlf:=q8r (g:=g) free s i
 refine Z1 ?_
 refine qn 32 (.bool (decide (i<g.length)&&decide (0<(q1u g free s i).2))) ?_ ?_
 ·refine Z8 ?_
  refine Zcu ?_
  refine qb rfl rfl (fun hg4=>?_) (fun hg4=>?_)
  ·refine Zj ?_
   refine Z3n ?_
   refine Zm ?_
   exact Zgu
  ·refine Z2h ?_
   exact Zgw
 refine Z1 ?_
 refine qa rfl (fun hc=>?_) (fun hc=>?_)
 ·rw [Bool.and_eq_true,decide_eq_true_eq,decide_eq_true_eq] at hc
  obtain ⟨hlt,hpos⟩:=hc
  have hst:q1u g free s (i+1)=if 0<(q1u g free s i).2∧(q6n g free s i).2=true then (q7t (q1u g free s i).1 (q6n g free s i).1,(q1u g free s i).2-1) else q1u g free s i:=rfl
  have hml:=qlz hg free s i
  refine Zpa ?_
  refine Z8 ?_
  refine ao2 Y11 (V2.callT (qox g free s i (Lid H.length 4) _ hg hlt (lk rfl rfl)) rfl rfl) ?_
  refine Zsa ?_
  try dsimp only [put]
  generalize q6n g free s i=h at hst hml ⊢
  obtain ⟨hx,ok⟩:=h
  simp only at hst hml ⊢
  refine Z2x ?_
  refine qa rfl (fun hc=>?_) (fun hc=>?_)
  ·subst hc
   rw [if_pos ⟨hpos,rfl⟩] at hst
   refine Za5 ?_
   refine ao2 Y11 (V2.callT (qgr (q1u g free s i).1 hx (by omega) (by omega) _) rfl rfl) ?_
   refine Z4x ?_
   refine Z12 ?_
   refine ao1 (by decide) (q5p (r:=(q1u g free s i).2-1) rfl rfl (q1b (by omega) (by omega))) ?_
   refine Z4 ?_
   refine Z2l ?_
   exact ⟨i+1,by omega,by omega,by rw [hst];exact Y6,.inl rfl⟩
  ·subst hc
   rw [if_neg (fun e=>by cases e.2)] at hst
   refine Z2l ?_
   exact ⟨i+1,by omega,by omega,by rw [hst];exact Y6,.inl rfl⟩
 have hend:q1u g free s g.length=q1u g free s i:=by
  rw [Bool.and_eq_false_iff,decide_eq_false_iff_not,decide_eq_false_iff_not] at hc
  rcases hc with h | h
  ·rw [show i=g.length by omega]
  ·have:=q91 h (g.length-i)
   rw [← this,show i+(g.length-i)=g.length by omega]
 rw [hend]
 clear hc hend
 refine Z12 ?_
 refine Z2q ?_
 refine qa rfl (fun hc=>?_) (fun hc=>?_)
 ·have hp:0<(q1u g free s i).2:=by simpa using hc
  rw [if_pos hp]
  refine Zrd ?_
  try dsimp only
  refine Z1d ?_
  refine q1c 6 rfl ?_
  exact Zox
 ·have hp:¬ 0<(q1u g free s i).2:=by simpa using hc
  rw [if_neg hp]
  refine Zic ?_
  refine Z1q ?_
  try dsimp only
  exact Zhu
theorem qsw (g:List Thing) (n:Int):(q45 g n).length≤256:=by
 rw [q45]
 split
 ·rename_i h
  simp only [q44,Bool.and_eq_true] at h
  exact Nat.le_trans (q62 _ _) (q1w h.2).2
 ·decide
set_option maxHeartbeats 0 in
theorem qki (g:List Thing) (s:Spec) (H:qj) (hl:g.length≤1000000):ACT Tryz.prog KD 175 [.pl (g.map qq),.agg (q2i s)] H (Ret (.bool (q8o g s)) H):=by
 have hgl:=qsw g 0
 refine ACT.body (N:=16) [.tmp 4] Tryz.func175 rfl rfl rfl (Nat.le_of_ble_eq_true rfl) fun B hB=>?_
 refine Z32 ?_
 refine Z35 ?_
 refine Zd5 ?_
 refine Z90 ?_
 refine Zqb ?_
 refine q48 2 rfl Y17 (by decide) (fun _=>V2.call (qdg _ _ _ (by omega)) rfl) ?_
 refine aqp 3 rfl Y17 (by decide) (fun G=>q2h rfl (lk rfl rfl) rfl rfl rfl) ?_
 refine q48 4 rfl Y17 (by decide) (fun _=>V2.callT (qet g (q45 g 0) s _ hl (by omega)) rfl rfl) ?_
 refine Zsb ?_
 refine aq0 6 rfl Y17 (by decide) (fun _=>q1m (v:=.pl _) rfl rfl) ?_
 refine aq0 7 rfl Y17 (by decide) (fun _=>q1m (v:=.bool _) rfl rfl) ?_
 refine Zsc ?_
 refine aq0 9 rfl Y17 (by decide) (fun _=>q14 (v:=.bool _) rfl) ?_
 refine Z1l ?_
 refine Z2w ?_
 exact Z1t
end Go.Av
namespace Go.Av
theorem q98 (l:List Job):∀ k,(qdb l k).length=k
 | 0=>rfl
 | k+1=>by rw [qdb,List.length_append,q98 l k];rfl
theorem qd8 (l:List Job) {j k:Nat} (hj:j<k):∀ m,k≤m→(qdb l m).getD j false=(qdb l k).getD j false
 | 0,e=>by omega
 | m+1,e=>by
  rcases Nat.lt_or_eq_of_le e with h1 | h1
  ·rw [qdb,List.getD_eq_getElem?_getD,List.getElem?_append_left (by rw [q98];omega),← List.getD_eq_getElem?_getD]
   exact qd8 l hj m (by omega)
  ·rw [h1]
def q3x (l:List Job) (j:Nat):Bool:=(qdb l l.length).getD j false
def qas (l:List Job) (j:Nat):Bool:=q3x l j||(q3z (q1r l j).state&&decide ((q1r l j).state≠3))
theorem q5s {l:List Job} (hr:q24 l=true) {k:Nat} {j:Job} (hj:l[k]?=some j) {n:Int} (hn:n∈j.needs):q11 l n<k∧q29 l n=true:=by
 obtain ⟨_,_,h3,_,h5⟩:=jobs_iff.1 hr
 have:=h5 k j hj n hn
 rw [← List.map_take] at this
 obtain ⟨x,hx,rfl⟩:=List.mem_map.1 this
 obtain ⟨i,hi⟩:=List.mem_iff_getElem?.1 hx
 rw [List.getElem?_take] at hi
 split at hi
 ·rename_i hik
  have:q11 l x.id=i:=q3y (f:=Job.id) h3 hi
  rw [this]
  exact ⟨hik,(q2r h3).2 ⟨x,List.mem_of_getElem? hi,rfl⟩⟩
 ·cases hi
theorem qhf {l:List Job} (hr:q24 l=true) {k:Nat} {j:Job} (hj:l[k]?=some j):q3x l k=(decide (j.state≤1)&&!(j.needs.all fun n=>!qas l (q11 l n))):=by
 have hk:=(List.getElem?_eq_some_iff.1 hj).1
 rw [q3x,qd8 l (Nat.lt_succ_self k) l.length (by omega),qdb,List.getD_eq_getElem?_getD,List.getElem?_append_right (by rw [q98];exact Nat.le_refl _),q98,Nat.sub_self,q12 hj]
 simp only [List.getElem?_cons_zero,Option.getD_some]
 congr 1
 rw [List.not_all_eq_any_not]
 have e:∀ n∈j.needs,((qdb l k).getD (q11 l n) false||(q3z (q1r l (q11 l n)).state&&decide ((q1r l (q11 l n)).state≠3)))=(!!qas l (q11 l n)):=by
  intro n hn
  have:=(q5s hr hj hn).1
  rw [Bool.not_not,qas,q3x,qd8 l this l.length (by omega)]
 clear hr hj
 generalize j.needs=ns at e
 induction ns with
 | nil=>rfl
 | cons x ns ih=>rw [List.any_cons,List.any_cons,e x List.mem_cons_self,ih fun n hn=>e n (List.mem_cons_of_mem _ hn)]
def q3k (l:List Job) (i:Nat):List Int:=((l.take i).zipIdx.filter fun p=>q3x l p.2).map (·.1.id)
theorem q8t (l:List Job):q24 l=true→q3n l=q3k l l.length:=by
 intro h
 rw [q3n,if_pos h,q3k,List.take_length]
 rfl
theorem qj4 {l:List Job} {i:Nat} {j:Job} (hj:l[i]?=some j):q3k l (i+1)=if q3x l i then q3k l i++[j.id] else q3k l i:=by
 have hi:=(List.getElem?_eq_some_iff.1 hj).1
 unfold q3k
 rw [List.take_add_one,hj,List.zipIdx_append,List.filter_append,List.map_append]
 have:(l.take i).length=i:=by rw [List.length_take];omega
 simp only [Option.toList_some,List.zipIdx_cons,List.zipIdx_nil,Nat.zero_add,this]
 cases h:q3x l i<;>simp [h]
theorem qfe (l:List Job) (i:Nat):(q3k l i).length≤i:=by
 unfold q3k
 rw [List.length_map]
 refine Nat.le_trans (List.length_filter_le _ _) ?_
 rw [List.length_zipIdx,List.length_take]
 omega
def q3e (l:List Job) (i:Nat):List (List AV):=(List.range l.length).map fun j=>[AV.bool (decide (j<i)&&q3x l j)]
theorem qgx (l:List Job):q3e l 0=List.replicate l.length [AV.bool false]:=by
 apply List.ext_getElem?
 intro j
 by_cases h:j<l.length
 ·simp [q3e,h]
 ·rw [List.getElem?_eq_none (by simp [q3e];omega),List.getElem?_eq_none Y1c]
theorem qbf {l:List Job} {i j:Nat} (h:j<l.length):(q3e l i)[j]?=some [AV.bool (decide (j<i)&&q3x l j)]:=by simp [q3e,h]
theorem qih {l:List Job} {i:Nat} (h:q3x l i=true):(q3e l i).set i [AV.bool true]=q3e l (i+1):=by
 refine q3s (f:=fun j=>[AV.bool (decide (j<i)&&q3x l j)]) (g:=fun j=>[AV.bool (decide (j<i+1)&&q3x l j)]) (by simp [h]) fun j hj=>?_
 have:decide (j<i+1)=decide (j<i):=by rw [decide_eq_decide];omega
 simp only [this]
theorem qfq {l:List Job} {i:Nat} (h:q3x l i=false):q3e l (i+1)=q3e l i:=by
 refine List.map_congr_left fun j _=>?_
 by_cases e:j=i
 ·subst e;simp [h]
 ·have:decide (j<i+1)=decide (j<i):=by rw [decide_eq_decide];omega
  simp only [this]
theorem qb4 (n:Nat) (l:List Job) (i:Nat):∀ r∈q3e l i,AV.bels n r=true:=by
 intro r hr
 obtain ⟨j,_,rfl⟩:=List.mem_map.1 hr
 rfl
def qi2 (x:Job):List Job→List Job
 | []=>[x]
 | a :: A=>if a.spec.prio<x.spec.prio then x :: a :: A else a :: qi2 x A
theorem qhc (j x:Job):∀ A:List Job,byPrio.insP j (qi2 x A)=qi2 x (byPrio.insP j A)
 | []=>by
  simp only [qi2,byPrio.insP]
  by_cases h:x.spec.prio≤j.spec.prio
  ·rw [if_pos h,if_neg (by omega)]
  ·rw [if_neg h,if_pos (by omega)]
 | a :: A=>by
  have ih:=qhc j x A
  by_cases h1:a.spec.prio<x.spec.prio
  ·rw [qi2,if_pos h1,byPrio.insP]
   by_cases h2:a.spec.prio≤j.spec.prio
   ·rw [byPrio.insP,if_pos h2,qi2]
    by_cases h3:x.spec.prio≤j.spec.prio
    ·rw [if_pos h3,if_neg (by omega),qi2,if_pos h1]
    ·rw [if_neg h3,if_pos (by omega)]
   ·rw [if_neg (by omega),byPrio.insP,if_neg h2,qi2,if_pos h1]
  ·rw [qi2,if_neg h1,byPrio.insP]
   by_cases h2:a.spec.prio≤j.spec.prio
   ·rw [if_pos h2,byPrio.insP,if_pos h2,qi2,if_neg (by omega),qi2,if_neg h1]
   ·rw [if_neg h2,byPrio.insP,if_neg h2,qi2,if_neg h1,ih]
theorem qdc (x:Job):∀ l:List Job,byPrio (l++[x])=qi2 x (byPrio l)
 | []=>rfl
 | j :: l=>by rw [List.cons_append,byPrio,qdc x l,qhc,byPrio]
theorem insP_mem {j y:Job}:∀ {l:List Job},y∈byPrio.insP j l↔y=j∨y∈l
 | []=>by simp [byPrio.insP]
 | a :: l=>by
  rw [byPrio.insP]
  split
  ·simp
  ·rw [List.mem_cons,insP_mem,List.mem_cons]
   constructor
   ·rintro (h | h | h)
    ·exact .inr (.inl h)
    ·exact .inl h
    ·exact .inr (.inr h)
   ·rintro (h | h | h)
    ·exact .inr (.inl h)
    ·exact .inl h
    ·exact .inr (.inr h)
theorem byPrio_mem {y:Job}:∀ {l:List Job},y∈byPrio l↔y∈l
 | []=>by simp [byPrio]
 | j :: l=>by rw [byPrio,insP_mem,byPrio_mem,List.mem_cons]
theorem qmt (j:Job):∀ l:List Job,(byPrio.insP j l).length=l.length+1
 | []=>rfl
 | a :: l=>by
  rw [byPrio.insP]
  split
  ·rfl
  ·rw [List.length_cons,qmt j l];rfl
theorem q3j:∀ l:List Job,(byPrio l).length=l.length
 | []=>rfl
 | j :: l=>by rw [byPrio,qmt,q3j l];rfl
theorem qcu (j:Job):∀ {l:List Job},l.Pairwise (fun a b=>b.spec.prio≤a.spec.prio)→(byPrio.insP j l).Pairwise (fun a b=>b.spec.prio≤a.spec.prio)
 | [],_=>List.pairwise_singleton _ _
 | a :: l,h=>by
  rw [byPrio.insP]
  rw [List.pairwise_cons] at h
  split
  ·rename_i h1
   refine List.pairwise_cons.2 ⟨fun y hy=>?_,List.pairwise_cons.2 h⟩
   rcases List.mem_cons.1 hy with rfl | hy
   ·exact h1
   ·have:=h.1 y hy;omega
  ·rename_i h1
   refine List.pairwise_cons.2 ⟨fun y hy=>?_,qcu j h.2⟩
   rcases insP_mem.1 hy with rfl | hy
   ·omega
   ·exact h.1 y hy
theorem q94:∀ l:List Job,(byPrio l).Pairwise (fun a b=>b.spec.prio≤a.spec.prio)
 | []=>List.Pairwise.nil
 | j :: l=>by rw [byPrio];exact qcu j (q94 l)
theorem qpy {x:Job}:∀ {A:List Job} {j:Nat},(∀ a∈A.take j,x.spec.prio≤a.spec.prio)→(∀ a∈A.drop j,a.spec.prio<x.spec.prio)→qi2 x A=A.take j++x :: A.drop j
 | [],j,_,_=>by simp [qi2]
 | a :: A,0,_,h2=>by
  rw [qi2,if_pos (h2 a (by simp))];rfl
 | a :: A,j+1,h1,h2=>by
  have ha:=h1 a (by simp)
  rw [qi2,if_neg (by omega),qpy (j:=j) (fun b hb=>h1 b (by simp [hb])) (fun b hb=>h2 b (by simpa using hb))]
  rfl
end Go.Av
namespace Go.Av
open Go.Proofs
set_option maxHeartbeats 0 in
theorem qca (F:Nat) [FnI Tryz.prog F] (caps:List AV) (p:Nat→Bool) (l:List Job) (j:Job) (H:qj) (hso:∀ n∈j.needs,∀ L':qj,AC Tryz.prog F (.int .i64 (q11 l n:Int) :: caps) (H++L') (Ret (.bool (p (q11 l n))) (H++L'))) (hl:l.length≤1000000) (hs:l.Pairwise (fun a b=>a.id<b.id)) (hn:j.needs.length≤1000000) :
  AC Tryz.prog 195 [.pl (l.map q1d),.agg (q1d j),.fn (.func F) [] caps] H (Ret (.bool (j.needs.all fun n=>p (q11 l n))) H):=by
 refine AC.body (N:=29) [.tmp 6] Tryz.func195 rfl rfl rfl (Nat.le_of_ble_eq_true rfl) fun B hB=>?_
 refine Z50 ?_
 refine Z34 ?_
 refine Z53 ?_
 refine Z59 ?_
 refine qm (G:=Nat) (fun k=>k≤j.needs.length∧∀ n∈j.needs.take k,p (q11 l n)=true) (fun k=>[(0,.pl (l.map q1d)),(2,.fn (.func F) [] caps),(12,.pl (j.needs.map eI)),(13,.int .i64 (j.needs.length:Int)),(14,.int .i64 (k:Int))]) (fun _=>H++[⟨0,13,[q1d j]⟩]) (fun k=>j.needs.length-k) 0 ⟨Nat.zero_le _,by simp⟩ Y6 (.inl rfl) ?_
 rintro k ⟨hk,hno⟩
 refine Z5a ?_
 refine qa rfl (fun hc=>?_) (fun hc=>?_)
 ·have hlt:k<j.needs.length:=by simpa using hc
  obtain ⟨n,hn',hnl⟩:=qo hlt
  have hr:=qh eI hn'
  have hcall:=hso n hnl
  clear hc
  refine Zjs ?_
  refine Zbe ?_
  refine Zjt ?_
  refine Z8i ?_
  refine Z1v ?_
  refine Z8 ?_
  refine Zsd ?_
  refine Z1a ?_
  refine Z4r ?_
  refine qa rfl (fun hc=>?_) (fun hc=>?_)
  ·have hbad:(j.needs.all fun n=>p (q11 l n))=false:=by rw [List.all_eq_false];exact ⟨n,hnl,by simpa using hc⟩
   refine Zf ?_
   rw [hbad]
   exact Zb
  ·refine Z5l ?_
   refine ⟨k+1,by omega,⟨by omega,?_⟩,Y6,.inl rfl⟩
   rw [ql hn']
   intro y hy
   rcases List.mem_append.1 hy with h | h
   ·exact hno y h
   ·simp only [List.mem_singleton] at h
    subst h
    simpa using hc
 ·have:k=j.needs.length:=by simp at hc;omega
  subst this
  rw [List.take_length] at hno
  refine Zf ?_
  rw [List.all_eq_true.2 hno]
  exact Zb
set_option maxHeartbeats 0 in
theorem qhd (l:List Job) (i at_ a b li:Nat) (H:qj) (ha:H[a]?=some ⟨0,1,[[.sl li 0 0 l.length l.length]]⟩) (hb:H[b]?=some ⟨0,1,[[.pl (l.map q1d)]]⟩) (hli:H[li]?=some ⟨0,1,q3e l i⟩) (hat:at_<i) (hil:i≤l.length):AC Tryz.prog 194 [.int .i64 (at_:Int),.pt a 0 0 0,.pt b 0 0 0] H (Ret (.bool (qas l at_)) H):=by
 have hrow:(q3e l i)[at_]?=some [.bool (q3x l at_)]:=by rw [qbf (by omega),decide_eq_true hat,Bool.true_and]
 obtain ⟨x,hx,_⟩:=qo (l:=l) (k:=at_) (by omega)
 have hr:=qh q1d hx
 refine AC.body (N:=25) [.tmp 4] Tryz.func194 rfl rfl rfl (Nat.le_of_ble_eq_true rfl) fun B hB=>?_
 refine Z1r ?_
 rw [qas,q12 hx]
 clear hx
 refine Z1 ?_
 refine qn 4 (.bool (q3x l at_||(q3z x.state&&decide (x.state≠3)))) ?_ ?_
 ·refine ao1 (by decide) (qi (v:=.sl li 0 0 l.length l.length) rfl (lkF ha) rfl rfl rfl) ?_
  refine Z8 ?_
  refine ao1 (by decide) (q2a rfl (lkF hli) rfl rfl rfl (by omega)) ?_
  refine ao1 (by decide) (qi (v:=.bool _) rfl (lkF hli) rfl (qm1 hrow) rfl) ?_
  refine Zh ?_
  refine qb rfl rfl (fun hg4=>?_) (fun hg4=>?_)
  ·refine Z5f ?_
   refine Z3k ?_
   refine Z2g ?_
   refine Z2f ?_
   refine Z3i ?_
   refine Zn ?_
   exact Zse
  ·refine Zsf ?_
   refine Zh9 ?_
   refine Zrc ?_
   refine Zha ?_
   refine q5b rfl rfl (by decide) (V2.call (qlx _ _) rfl) ?_
   refine Z28 ?_
   refine qb rfl rfl (fun hg11=>?_) (fun hg11=>?_)
   ·refine Zsf ?_
    refine Zh9 ?_
    refine Zrc ?_
    refine Zha ?_
    refine Zgz ?_
    refine Z29 ?_
    refine Zs ?_
    exact qf (Out.mk (by (refine congrArg AV.bool ?_;(clear hB hrow hr;grind))) Yb)
   ·refine Z2c ?_
    refine Zck ?_
    refine Zs ?_
    exact Zse
 exact Z22
theorem qik (l:List Job) (i at_ a b li c:Nat) (H:qj) (ha:H[a]?=some ⟨0,1,[[.sl li 0 0 l.length l.length]]⟩) (hb:H[b]?=some ⟨0,1,[[.pl (l.map q1d)]]⟩) (hli:H[li]?=some ⟨0,1,q3e l i⟩) (hcc:H[c]?=some ⟨0,1,[[.fn (.func 194) [] [.pt a 0 0 0,.pt b 0 0 0]]]⟩) (hat:at_<i) (hil:i≤l.length):AC Tryz.prog 196 [.int .i64 (at_:Int),.pt c 0 0 0] H (Ret (.bool (!qas l at_)) H):=by
 refine AC.body (N:=8) [.tmp 3] Tryz.func196 rfl rfl rfl (Nat.le_of_ble_eq_true rfl) fun B hB=>?_
 refine Z1r ?_
 refine Z2 ?_
 refine ao1 (by decide) (qi (v:=.fn (.func 194) [] [.pt a 0 0 0,.pt b 0 0 0]) rfl (lkF hcc) rfl rfl rfl) ?_
 refine Z8 ?_
 refine ao2 Y11 (V2.callv (qhd l i at_ a b li _ (lkF ha) (lkF hb) (lkF hli) hat hil) rfl rfl) ?_
 refine Z1a ?_
 refine Z1q ?_
 try dsimp only [put]
 exact Z22
set_option maxHeartbeats 0 in
theorem qp4 (l:List Job) (H:qj) (hw:JW l):AC Tryz.prog 173 [.pl (l.map q1d)] H (Ret (.pl ((q3n l).map eI)) H):=by
 have hw1:=hw.1
 have hml:(l.map q1d).length=l.length:=by simp
 refine AC.body (N:=42) [.tmp 2] Tryz.func173 rfl rfl rfl (Nat.le_of_ble_eq_true rfl) fun B hB=>?_
 refine Z2 ?_
 refine Zsg ?_
 refine Zav ?_
 refine Z2 ?_
 refine Z51 ?_
 refine Zom ?_
 refine Z4d ?_
 refine qa rfl (fun hc=>?_) (fun hc=>?_)
 ·have hno:q24 l=false:=by simpa only [Bool.not_eq_true'] using hc
  rw [show q3n l=[] by rw [q3n,hno];rfl]
  refine Z4t ?_
  exact Zbb
 have hyes:q24 l=true:=by simpa only [Bool.not_eq_false'] using hc
 have hs:=q28 hyes
 clear hc
 rw [q8t l hyes]
 refine Z2 ?_
 refine Z51 ?_
 refine Z54 ?_
 refine Zsh ?_
 refine Zsi ?_
 refine ao2 Y1b (q25 (sz:=1) (v:=.sl _ _ _ _ _) (r':=[_]) rfl rfl rfl rfl rfl rfl rfl rfl (Nat.le_of_ble_eq_true rfl) rfl) ?_
 refine Zen ?_
 refine Z4s ?_
 refine q22 (k:=3) 4 1 rfl (by decide) rfl ?_
 refine q1k ?_
 refine Z51 ?_
 refine Zf5 ?_
 refine Zay ?_
 refine Z1d ?_
 refine qm (G:=Nat) (fun i=>i≤l.length) (fun i=>[(1,.pt (Lid H.length 0) 0 0 0),(3,.pt (Lid H.length 2) 0 0 0),(4,.sl (Lid H.length 3) (q3k l i).length 0 (q3k l i).length (q3k l i).length),(14,.pl (l.map q1d)),(15,.int .i64 (l.length:Int)),(16,.int .i64 (i:Int))]) (fun i=>H++[⟨0,1,[[.pl (l.map q1d)]]⟩,⟨0,1,q3e l i⟩,⟨0,1,[[.sl (Lid H.length 1) 0 0 l.length l.length]]⟩,⟨(q3k l i).length,1,(q3k l i).map eI⟩]) (fun i=>l.length-i) 0 (Nat.zero_le _) Y6 (.inl (by rw [qgx];rfl)) ?_
 intro i hi
 refine Z5a ?_
 refine qa rfl (fun hc=>?_) (fun hc=>?_)
 ·have hlt:i<l.length:=by simpa using hc
  obtain ⟨j,hj,hjl⟩:=qo hlt
  have hr:=qh q1d hj
  have hjn:=hw.2 j hjl
  have hla:=qhf hyes hj
  have hst:=qj4 hj
  have hle:=qfe l i
  have hrow:(q3e l i)[0+i]?=some [.bool (decide (i<i)&&q3x l i)]:=by rw [Nat.zero_add];exact qbf hlt
  have hbf:=fun n hn=>(q5s hyes hj (n:=n) hn).1
  clear hc
  refine Zcz ?_
  refine Z7t ?_
  refine Z3 ?_
  refine Z85 ?_
  refine Zen ?_
  refine Z2 ?_
  refine ao1 (by decide) (qa9 (vs:=[]) (us:=[_,_]) rfl rfl) ?_
  refine Zsi ?_
  refine ao2 Y1b (q25 (sz:=1) (v:=.fn _ _ _) (r':=[_]) rfl rfl rfl rfl rfl rfl rfl rfl (Nat.le_of_ble_eq_true rfl) rfl) ?_
  refine Zen ?_
  refine Z1 ?_
  refine qn 31 (.bool (q3x l i)) ?_ ?_
  ·refine Z37 ?_
   refine Zi ?_
   refine qb rfl rfl (fun hg3=>?_) (fun hg3=>?_)
   ·refine Z67 ?_
    refine Z5x ?_
    refine Zsj ?_
    refine q5b rfl rfl (by decide) (V2.call (qca 196 [.pt (Lid H.length 5) 0 0 0] (fun a=>!qas l a) l j _ (fun n hn L'=>qik l i (q11 l n) (Lid H.length 2) (Lid H.length 0) (Lid H.length 1) (Lid H.length 5) _ (lkF (lk rfl rfl)) (lkF (lk rfl rfl)) (lkF (lk rfl rfl)) (lkF (lk rfl rfl)) (hbf n hn) hi) hw1 hs hjn) rfl) ?_
    refine Z2a ?_
    exact qf (Out.mk (by (refine congrArg AV.bool ?_;(rw [hla];clear hB hbf hst hr hrow;(simp_all;done)))) Yb)
   ·refine Zq ?_
    refine Z49 ?_
    exact qf (Out.mk (by (refine congrArg AV.bool ?_;(rw [hla];clear hB hbf hst hr hrow;(simp_all;omega)))) Yb)
  refine Z1 ?_
  refine qa rfl (fun hc=>?_) (fun hc=>?_)
  ·rw [if_pos hc] at hst
   have q4s:=qih hc
   refine Z2 ?_
   refine ao1 (by decide) (qi (v:=.sl (Lid H.length 1) 0 0 l.length l.length) rfl (lk rfl rfl) rfl rfl rfl) ?_
   refine Z8 ?_
   refine Zei ?_
   refine Zql ?_
   refine qf ?_
   refine Zp8 ?_
   rw [Nat.zero_add,q4s]
   refine Zb1 ?_
   refine Z37 ?_
   refine Zb8 ?_
   rw [show ((q3k l i).map eI).take (q3k l i).length=(q3k l i).map eI from List.take_of_length_le (by simp)]
   refine Z5l ?_
   refine ⟨i+1,by omega,by omega,by rw [hst,List.length_append];exact Y6,?_⟩
   rw [hst,List.length_append]
   refine Fit.loc hB Yu Y1 ?_
   intro o ho r hr
   simp only [List.mem_cons,List.not_mem_nil,or_false] at ho
   rcases ho with rfl | rfl | rfl | rfl
   ·simp only [List.mem_singleton] at hr;subst hr;rfl
   ·exact qb4 _ _ _ r hr
   ·simp only [List.mem_singleton] at hr;subst hr;simp [AV.bels,AV.bel,Lid]
   ·exact q1y _ _ r hr
  ·rw [if_neg Y16] at hst
   refine Z5l ?_
   refine ⟨i+1,by omega,by omega,by rw [hst];exact Y6,?_⟩
   rw [hst,qfq hc]
   refine Fit.loc hB rfl Y1 ?_
   intro o ho r hr
   simp only [List.mem_cons,List.not_mem_nil,or_false] at ho
   rcases ho with rfl | rfl | rfl | rfl
   ·simp only [List.mem_singleton] at hr;subst hr;rfl
   ·exact qb4 _ _ _ r hr
   ·simp only [List.mem_singleton] at hr;subst hr;simp [AV.bels,AV.bel,Lid]
   ·exact q1y _ _ r hr
 ·have:i=l.length:=by simp at hc;omega
  subst this
  refine Zba ?_
  refine qu (ys:=(q3k l l.length).map eI) 2 rfl rfl rfl rfl Yg (by simp) (q1y 0 _) ?_
  exact Zbb
theorem qge (a b:Job) (H:qj):AC Tryz.prog 200 [.agg (q1d a),.agg (q1d b)] H (Ret (.int .i64 (qf5 b.spec.prio a.spec.prio)) H):=by
 refine AC.body (N:=12) [.tmp 4] Tryz.func200 rfl rfl rfl (Nat.le_of_ble_eq_true rfl) fun B hB=>?_
 refine Z50 ?_
 refine Z4z ?_
 refine Z4 ?_
 refine Z7u ?_
 refine Z2 ?_
 refine Z36 ?_
 refine Z37 ?_
 refine Z36 ?_
 refine Z37 ?_
 refine Zhn ?_
 refine Z4g ?_
 exact Z22
theorem qtu (a b:Int):decide (qf5 a b<0)=decide (a<b):=by
 unfold qf5
 rw [decide_eq_decide]
 split
 ·simp_all
 ·split
  ·simp;omega
  ·simp;omega
def qep (l:List Job) (i j:Nat) (x:Job):List Job:=((byPrio (l.take i)).take j++x :: (byPrio (l.take i)).drop j)++l.drop (i+1)
theorem qwk {l:List Job} {i j:Nat} {x:Job} (hi:i<l.length) (hj:j≤i):(qep l i j x).length=l.length:=by
 unfold qep
 simp [q3j]
 omega
theorem qv2 {l:List Job} {i j:Nat} {x:Job} (hi:i<l.length) (hj:j≤i):(qep l i j x)[j]?=some x:=by
 unfold qep
 have h1:((byPrio (l.take i)).take j).length=j:=by rw [List.length_take,q3j,List.length_take];omega
 rw [List.append_assoc,List.getElem?_append_right (by omega),h1,Nat.sub_self]
 rfl
theorem qvh {l:List Job} {i j:Nat} {x y:Job} (hi:i<l.length) (hj:j<i) (hy:(byPrio (l.take i))[j]?=some y):(qep l i (j+1) x)[j]?=some y:=by
 unfold qep
 rw [List.append_assoc,List.getElem?_append_left (by rw [List.length_take,q3j,List.length_take];omega),List.getElem?_take,if_pos (by omega)]
 exact hy
theorem qtm {l:List Job} {i j:Nat} {x y:Job} (hi:i<l.length) (hj:j<i) (hy:(byPrio (l.take i))[j]?=some y):((qep l i (j+1) x).set (j+1) y).set j x=qep l i j x:=by
 have hA:(byPrio (l.take i)).length=i:=by rw [q3j,List.length_take];omega
 unfold qep
 generalize byPrio (l.take i)=A at hy hA ⊢
 have h1:A.take (j+1)=A.take j++[y]:=ql hy
 have h2:A.drop j=y :: A.drop (j+1):=by
  obtain ⟨hl,he⟩:=List.getElem?_eq_some_iff.1 hy
  rw [List.drop_eq_getElem_cons hl,he]
 have l1:(A.take j).length=j:=by rw [List.length_take];omega
 rw [h1,h2]
 simp only [List.append_assoc,List.cons_append,List.nil_append]
 rw [List.set_append_right _ _ (by omega),l1,show j+1-j=1 by omega,List.set_append_right _ _ (by omega),l1,Nat.sub_self]
 rfl
theorem qrs {l:List Job} {i:Nat} {x:Job} (hx:l[i]?=some x):qep l i i x=byPrio (l.take i)++l.drop i:=by
 obtain ⟨hl,he⟩:=List.getElem?_eq_some_iff.1 hx
 have hA:(byPrio (l.take i)).length=i:=by rw [q3j,List.length_take];omega
 unfold qep
 rw [List.take_of_length_le (by omega),List.drop_of_length_le (by omega),List.drop_eq_getElem_cons hl,he,List.append_assoc]
 rfl
theorem qsf {l:List Job} {i j:Nat} {x:Job} (hx:l[i]?=some x) (hj:j≤i) (h1:∀ a∈(byPrio (l.take i)).drop j,a.spec.prio<x.spec.prio) (h2:j=0∨∃ y,(byPrio (l.take i))[j-1]?=some y∧¬ y.spec.prio<x.spec.prio):qep l i j x=byPrio (l.take (i+1))++l.drop (i+1):=by
 have hs:=q94 (l.take i)
 rw [ql hx,qdc]
 unfold qep
 rw [qpy (j:=j) ?_ h1]
 intro a ha
 rcases h2 with rfl | ⟨y,hy,hyx⟩
 ·simp at ha
 ·obtain ⟨k,hk⟩:=List.mem_iff_getElem?.1 ha
  rw [List.getElem?_take] at hk
  split at hk
  ·rename_i hkj
   obtain ⟨k1,k2⟩:=List.getElem?_eq_some_iff.1 hk
   obtain ⟨y1,y2⟩:=List.getElem?_eq_some_iff.1 hy
   rcases Nat.lt_or_eq_of_le (show k≤j-1 by omega) with h | h
   ·have:=List.pairwise_iff_getElem.1 hs k (j-1) k1 y1 h
    rw [k2,y2] at this
    omega
   ·subst h
    rw [hk] at hy
    cases hy
    omega
  ·cases hk
theorem qsc (l:List Job):byPrio (l.take 1)++l.drop 1=l:=by cases l<;>rfl
set_option maxHeartbeats 0 in
theorem qy6 (l:List Job) (id g:Nat) (H:qj) (hid:H[id]?=some ⟨g,13,l.map q1d⟩) (hl:l.length≤1000000):AC Tryz.prog 224 [.sl id g 0 l.length l.length,.int .i64 0,.int .i64 (l.length:Int),.fn (.func 200) [] []] H (Ret (.tup []) (H.set id ⟨g,13,(byPrio l).map q1d⟩)):=by
 have hidl:id<H.length:=(List.getElem?_eq_some_iff.1 hid).1
 refine AC.body (N:=53) [] Tryz.func224 rfl rfl rfl (Nat.le_of_ble_eq_true rfl) fun B hB=>?_
 refine Z12 ?_
 refine Z2j ?_
 refine Z4 ?_
 refine Z1d ?_
 refine qm (G:=Nat) (fun i=>1≤i∧(i≤l.length∨i=1)) (fun i=>[(0,.sl id g 0 l.length l.length),(1,.int .i64 0),(2,.int .i64 (l.length:Int)),(3,.fn (.func 200) [] []),(8,.int .i64 (i:Int))]) (fun i=>H.set id ⟨g,13,(byPrio (l.take i)++l.drop i).map q1d⟩++[]) (fun i=>l.length-i) 1 ⟨Nat.le_refl _,.inr rfl⟩ Y6 (.inl (by rw [qsc,q86 hid])) ?_
 rintro i ⟨hi1,hi⟩
 refine Z2y ?_
 refine qa rfl (fun hc=>?_) (fun hc=>?_)
 ·have hlt:i<l.length:=by simp at hc;omega
  obtain ⟨x,hx,hxl⟩:=qo hlt
  have hA:(byPrio (l.take i)).length=i:=by rw [q3j,List.length_take];omega
  clear hc
  refine Z1c ?_
  refine Z1d ?_
  refine qm (G:=Nat) (fun j=>j≤i∧∀ a∈(byPrio (l.take i)).drop j,a.spec.prio<x.spec.prio) (fun j=>[(0,.sl id g 0 l.length l.length),(1,.int .i64 0),(2,.int .i64 (l.length:Int)),(3,.fn (.func 200) [] []),(8,.int .i64 (i:Int)),(9,.int .i64 (j:Int))]) (fun j=>H.set id ⟨g,13,(qep l i j x).map q1d⟩++[]) (fun j=>j) i ⟨Nat.le_refl _,fun a ha=>by rw [List.drop_of_length_le (by omega)] at ha;cases ha⟩ Y6 (.inl (by rw [qrs hx])) ?_
  rintro j ⟨hj,hbig⟩
  have hM:(H.set id ⟨g,13,(qep l i j x).map q1d⟩)[id]?=some ⟨g,13,(qep l i j x).map q1d⟩:=List.getElem?_set_self hidl
  have hrx:=qh q1d (qv2 (x:=x) hlt hj)
  by_cases h0:j=0
  ·subst h0
   refine Z1 ?_
   refine q1l 34 (.bool false) ?_ ?_
   ·refine Z1g ?_
    refine Z9p ?_
    refine Z1j ?_
    refine Zsk ?_
    refine Z9z ?_
    refine qp (g:=21) rfl (fun hg3=>?_) (fun hg3=>?_)
    ·exfalso;simp at hg3
    ·refine Zrf ?_
     refine Zrg ?_
     refine Zrh ?_
     refine Zgj ?_
     refine Zgk ?_
     refine Zgl ?_
     refine Zgm ?_
     refine Zgn ?_
     refine Zgo ?_
     refine Zgp ?_
     refine Zgq ?_
     refine Zgr ?_
     refine Zsl ?_
     exact q1i Y17 Yv (Out.mk (by rfl) Yb)
   refine Z1 ?_
   refine qa rfl (fun hc=>?_) (fun hc=>?_)
   ·cases hc
   refine Z2l ?_
   exact ⟨i+1,by omega,⟨by omega,.inl (by omega)⟩,Y6,.inl (by rw [qsf hx hj hbig (.inl rfl)])⟩
  ·obtain ⟨j,rfl⟩:∃ k,j=k+1:=⟨j-1,by omega⟩
   obtain ⟨y,hy,hyl⟩:=qo (l:=byPrio (l.take i)) (k:=j) (by omega)
   have hry:=qh q1d (qvh (x:=x) hlt (by omega) hy)
   refine Z1 ?_
   refine q1l 34 (.bool (decide (y.spec.prio<x.spec.prio))) ?_ ?_
   ·refine Zsm ?_
    refine Zsn ?_
    refine Z9p ?_
    refine Z1j ?_
    refine Zsk ?_
    refine Z9z ?_
    refine qp (g:=21) rfl (fun hg3=>?_) (fun hg3=>?_)
    ·refine q1h (g:=21) 4 rfl Y17 (by decide) rfl rfl (fun _=>qd (v:=.fn _ _ _) rfl) ?_
     refine q1h (g:=21) 5 rfl Y17 (by decide) rfl rfl (fun _=>qd (v:=.sl _ _ _ _ _) rfl) ?_
     refine q1h (g:=21) 6 rfl Y17 (by decide) rfl rfl (fun _=>qd (v:=.int _ _) rfl) ?_
     refine q1j (g:=21) 7 rfl Y17 (by decide) rfl rfl (fun G=>q2a rfl (lkF hM) rfl rfl rfl (by omega)) ?_
     refine q1j (g:=21) 8 rfl Y17 (by decide) rfl rfl (fun G=>q2h rfl (lkF hM) rfl (qm1 hrx) rfl) ?_
     refine q1h (g:=21) 9 rfl Y17 (by decide) rfl rfl (fun _=>qd (v:=.sl _ _ _ _ _) rfl) ?_
     refine Zgb ?_
     refine q1h (g:=21) 11 rfl Y17 (by decide) rfl rfl (fun _=>q5p (r:=(j:Int)) rfl rfl Y5) ?_
     refine q1j (g:=21) 12 rfl Y17 (by decide) rfl rfl (fun G=>q2a rfl (lkF hM) rfl rfl rfl (by omega)) ?_
     refine q1j (g:=21) 13 rfl Y17 (by decide) rfl rfl (fun G=>q2h rfl (lkF hM) rfl (qm1 hry) rfl) ?_
     refine q7c (g:=21) 14 rfl Y17 (by decide) rfl rfl (fun _=>V2.callv (qge x y _) rfl rfl) ?_
     refine q1h (g:=21) 15 rfl Y17 (by decide) rfl rfl (fun _=>qsr rfl rfl) ?_
     refine aq0 16 rfl Y17 (by decide) (fun _=>q16 (v:=.bool _) rfl rfl) ?_
     exact q1i Y17 Yv (Out.mk (by (refine congrArg AV.bool ?_;((rw [qtu];try rfl)))) Yb)
    ·refine Zrf ?_
     refine Zrg ?_
     refine Zrh ?_
     refine Zgj ?_
     refine Zgk ?_
     refine Zgl ?_
     refine Zgm ?_
     refine Zgn ?_
     refine Zgo ?_
     refine Zgp ?_
     refine Zgq ?_
     refine Zgr ?_
     refine Zsl ?_
     exact q1i Y17 Yv (Out.mk (by (refine congrArg AV.bool ?_;((exfalso;simp at hg3;done)))) Yb)
   refine Z1 ?_
   refine qa rfl (fun hc=>?_) (fun hc=>?_)
   ·have hyx:y.spec.prio<x.spec.prio:=by simpa using hc
    clear hc
    have hM2:((H.set id ⟨g,13,(qep l i (j+1) x).map q1d⟩).set id ⟨g,13,((qep l i (j+1) x).map q1d).set (0+(j+1)) (q1d y)⟩)[id]?=some ⟨g,13,((qep l i (j+1) x).map q1d).set (0+(j+1)) (q1d y)⟩:=List.getElem?_set_self (by simpa using hidl)
    have hlm:=qwk (x:=x) hlt hj
    have hry2:(((qep l i (j+1) x).map q1d).set (0+(j+1)) (q1d y))[0+j]?=some (q1d y):=by rw [Nat.zero_add,Nat.zero_add,List.getElem?_set_ne (by omega)];exact hry
    refine Z1 ?_
    refine q2y mixed (some 15) 0 ?_
    refine Zsn ?_
    refine Zex ?_
    refine Zey ?_
    refine Zez ?_
    refine aq0 4 rfl Y17 (by decide) (fun _=>q5p (r:=(j:Int)) rfl rfl Y5) ?_
    refine Zso ?_
    refine Zsp ?_
    refine aq0 7 rfl Y17 (by decide) (fun _=>q5p (r:=(j:Int)) rfl rfl Y5) ?_
    refine aqp 8 rfl Y17 (by decide) (fun G=>q2a rfl (lkF hM) rfl rfl rfl (by omega)) ?_
    refine aqp 9 rfl Y17 (by decide) (fun G=>q2h rfl (lkF hM) rfl (qm1 hry) rfl) ?_
    refine aq0 10 rfl Y17 (by decide) (fun _=>qd (v:=.sl _ _ _ _ _) rfl) ?_
    refine Zsq ?_
    refine qv9 [13,12] 12 rfl Y17 (by decide) (fun G=>q2a rfl (lkF hM) rfl rfl rfl (by omega)) ?_
    refine aqp 13 rfl Y17 (by decide) (fun G=>q2h rfl (lkF hM) rfl (qm1 hrx) rfl) ?_
    refine aqp 14 rfl Y17 (by decide) (fun G=>q2a rfl (lkF hM) rfl rfl rfl (by omega)) ?_
    refine aqs 15 rfl Y17 Yv Y1b (q6e (sz:=13) (v:=.agg (q1d y)) (r':=q1d y) rfl hM rfl (qm1 hrx) rfl rfl rfl (Nat.le_of_ble_eq_true rfl) rfl) ?_
    refine aqs 16 rfl Y17 Yl Y11 (V1.toV2 (q2a rfl (lkF hM2) rfl rfl rfl (by omega))) ?_
    refine aqs 17 rfl Y17 Yl Y1b (q6e (sz:=13) (v:=.agg (q1d x)) (r':=q1d x) rfl hM2 rfl hry2 rfl rfl rfl (Nat.le_of_ble_eq_true rfl) rfl) ?_
    refine Z9q ?_
    try dsimp only [put]
    refine Z12 ?_
    refine ao1 (by decide) (q5p (r:=(j:Int)) rfl rfl Y5) ?_
    refine Za ?_
    refine ⟨j,by omega,⟨by omega,fun a ha=>?_⟩,Y6,.inl ?_⟩
    ·obtain ⟨h1,h2⟩:=List.getElem?_eq_some_iff.1 hy
     rw [List.drop_eq_getElem_cons h1,h2] at ha
     rcases List.mem_cons.1 ha with rfl | ha
     ·exact hyx
     ·exact hbig a ha
    ·rw [Nat.zero_add,Nat.zero_add,← List.map_set,← List.map_set,qtm hlt (by omega) hy,List.set_set,List.set_set]
   ·have hyx:¬ y.spec.prio<x.spec.prio:=by simpa using hc
    clear hc
    refine Z2l ?_
    exact ⟨i+1,by omega,⟨by omega,.inl (by omega)⟩,Y6,.inl (by rw [qsf hx hj hbig (.inr ⟨y,by rw [Nat.add_sub_cancel];exact hy,hyx⟩)])⟩
 ·have hge:l.length≤i:=by simp at hc;omega
  rw [show byPrio (l.take i)++l.drop i=byPrio l by rw [List.take_of_length_le hge,List.drop_of_length_le hge,List.append_nil]]
  refine Z1 ?_
  exact q5d hB .nil rfl rfl (by simp) (hB.heap.set _ ⟨g,13,(byPrio l).map q1d⟩ (q2t _ _))
theorem qwm {P:Program} {env:Env} {H:qj} {B:Base} {rs:List ResultVar} {vs:List AV} {v:AV} {args:List AV} {M:qj} (hB:Begun B H args) (h:ResVs P env M rs vs) (hv:qw7 vs=v) (hb:v.bel H.length=true) (hl:M.length=H.length) (hM:HBel H.length M):Ends P B rs (Ret v M) .ret env M:=by
 have:=q5d (L:=[]) (M:=M) (P:=P) (env:=env) (rs:=rs) (vs:=vs) hB (by rw [List.append_nil];exact h) hv hb hl hM
 rwa [List.append_nil] at this
structure U1 where
set_option maxHeartbeats 0 in
theorem qwj (l:List Job) (id g:Nat) (H:qj) (hid:H[id]?=some ⟨g,13,l.map q1d⟩) (hl:l.length<20):AC Tryz.prog 217 [.sl id g 0 l.length l.length,.int .i64 (l.length:Int),.fn (.func 200) [] []] H (Ret (.tup []) (H.set id ⟨g,13,(byPrio l).map q1d⟩)):=by
 refine AC.body (N:=63) [] Tryz.func217 rfl rfl rfl (Nat.le_of_ble_eq_true rfl) fun B hB=>?_
 refine Z2m ?_
 refine Z16 ?_
 refine Z1d ?_
 refine qm (G:=U1) (fun _=>True) (fun _=>[(0,.sl id g 0 l.length l.length),(1,.int .i64 (l.length:Int)),(2,.fn (.func 200) [] []),(6,.int .i64 20),(7,.int .i64 0),(8,.int .i64 20)]) (fun _=>H++[]) (fun _=>0) ⟨⟩ trivial Y6 (.inl rfl) ?_
 rintro ⟨⟩ _
 refine Z2t ?_
 refine Zg ?_
 refine Z9 ?_
 refine qa rfl (fun hc=>?_) (fun hc=>?_)
 ·exfalso;simp at hc;omega
 clear hc
 refine Zb1 ?_
 refine Z30 ?_
 refine Z1u ?_
 refine ao2 Y11 (V2.call (by rw [List.append_nil];exact qy6 l id g H hid (by omega)) rfl) ?_
 refine Z4q ?_
 refine Z1d ?_
 refine qm (G:=U1) (fun _=>True) (fun _=>[(1,.int .i64 (l.length:Int)),(6,.int .i64 20)]) (fun _=>H.set id ⟨g,13,(byPrio l).map q1d⟩++[]) (fun _=>0) ⟨⟩ trivial Y6 (.inl (by rw [List.append_nil])) ?_
 rintro ⟨⟩ _
 refine Z2y ?_
 refine qa rfl (fun hc=>?_) (fun hc=>?_)
 ·exfalso;simp at hc;omega
 refine Z1 ?_
 exact q5d hB .nil rfl rfl (by simp) (hB.heap.set _ ⟨g,13,(byPrio l).map q1d⟩ (q2t _ _))
theorem qkw (l:List Job) (id g:Nat) (H:qj) (hid:H[id]?=some ⟨g,13,l.map q1d⟩) (hl:l.length<20):AC Tryz.prog 199 [.sl id g 0 l.length l.length,.fn (.func 200) [] []] H (Ret (.tup []) (H.set id ⟨g,13,(byPrio l).map q1d⟩)):=by
 refine AC.body (N:=9) [] Tryz.func199 rfl rfl rfl (Nat.le_of_ble_eq_true rfl) fun B hB=>?_
 refine Zcq ?_
 refine Zb0 ?_
 refine ao1 (by decide) (qfk rfl (lkF hid) rfl) ?_
 refine Z1u ?_
 refine ao2 Y11 (V2.call (by rw [List.append_nil];exact qwj l id g H hid hl) rfl) ?_
 refine Z4q ?_
 exact qwm hB .nil rfl rfl (by simp) (hB.heap.set _ ⟨g,13,(byPrio l).map q1d⟩ (q2t _ _))
theorem V2.callS {P:Program} {N:Nat} {env:Env} {H0 L:qj} {ty:TypeId} {f k:Nat} {xs:Array Operand} {ts:Array TypeId} {vs:List AV} {v:AV} {o:AObj} [FnI P f] (hac:AC P f vs (H0++L) (Ret v ((H0++L).set (Lid H0.length k) o))) (hvs:xs.toList.map (aev env)=vs) :
  V2 P N (.call { callee:=.value (.func f),args:=xs,argTypes:=ts }) ty env (H0++L) v (H0++L.set k o):=by
 have:=V2.call (N:=N) (ty:=ty) (ts:=ts) hac hvs
 rwa [st rfl] at this
def q52 (l:List Job) (j:Job):Bool:=decide (j.state=0)&&j.needs.all fun n=>decide ((q1r l (q11 l n)).state=3)
theorem qom {l:List Job} {i:Nat} {j:Job} (hj:l[i]?=some j):(l.take (i+1)).filter (q52 l)=if q52 l j then (l.take i).filter (q52 l)++[j] else (l.take i).filter (q52 l):=by
 rw [ql hj,List.filter_append]
 cases h:q52 l j<;>simp [h]
theorem qfu (l:List Job) (at_ b:Nat) (H:qj) (hb:H[b]?=some ⟨0,1,[[.pl (l.map q1d)]]⟩) (hat:at_<l.length):AC Tryz.prog 198 [.int .i64 (at_:Int),.pt b 0 0 0] H (Ret (.bool (decide ((q1r l at_).state=3))) H):=by
 obtain ⟨x,hx,_⟩:=qo (l:=l) (k:=at_) hat
 have hr:=qh q1d hx
 rw [q12 hx]
 refine AC.body (N:=10) [.tmp 3] Tryz.func198 rfl rfl rfl (Nat.le_of_ble_eq_true rfl) fun B hB=>?_
 refine Z1r ?_
 refine Z2 ?_
 refine ao1 (by decide) (qi (v:=.pl _) rfl (lkF hb) rfl rfl rfl) ?_
 refine Z8 ?_
 refine Zhh ?_
 refine Z7g ?_
 exact Z22
set_option maxHeartbeats 0 in
theorem qjo (l:List Job) (H:qj) (hw:JW l) (hl:l.length<20):AC Tryz.prog 176 [.pl (l.map q1d)] H (Ret (.pl ((qy l).map eI)) H):=by
 have hw1:=hw.1
 refine AC.body (N:=33) [.tmp 2] Tryz.func176 rfl rfl rfl (Nat.le_of_ble_eq_true rfl) fun B hB=>?_
 refine Z2 ?_
 refine Zsg ?_
 refine Zav ?_
 refine Z2 ?_
 refine Z51 ?_
 refine Zom ?_
 refine Z4d ?_
 refine qa rfl (fun hc=>?_) (fun hc=>?_)
 ·have hno:q24 l=false:=by simpa only [Bool.not_eq_true'] using hc
  rw [show qy l=[] by rw [qy,hno];rfl]
  refine Z4t ?_
  exact Zbb
 have hyes:q24 l=true:=by simpa only [Bool.not_eq_false'] using hc
 have hs:=q28 hyes
 clear hc
 rw [show qy l=(byPrio (l.filter (q52 l))).map (·.id) by rw [qy,if_pos hyes];rfl]
 refine Z4s ?_
 refine q22 (k:=1) 3 13 rfl (by decide) rfl ?_
 refine q1k ?_
 refine Z51 ?_
 refine Zf5 ?_
 refine Zay ?_
 refine Z1d ?_
 refine qm (G:=Nat) (fun i=>i≤l.length) (fun i=>[(1,.pt (Lid H.length 0) 0 0 0),(3,.sl (Lid H.length 1) ((l.take i).filter (q52 l)).length 0 ((l.take i).filter (q52 l)).length ((l.take i).filter (q52 l)).length),(9,.pl (l.map q1d)),(10,.int .i64 (l.length:Int)),(11,.int .i64 (i:Int))]) (fun i=>H++[⟨0,1,[[.pl (l.map q1d)]]⟩,⟨((l.take i).filter (q52 l)).length,13,((l.take i).filter (q52 l)).map q1d⟩]) (fun i=>l.length-i) 0 (Nat.zero_le _) Y6 (.inl rfl) ?_
 intro i hi
 refine Z5a ?_
 refine qa rfl (fun hc=>?_) (fun hc=>?_)
 ·have hlt:i<l.length:=by simpa using hc
  obtain ⟨j,hj,hjl⟩:=qo hlt
  have hr:=qh q1d hj
  have hjn:=hw.2 j hjl
  have hst:=qom hj
  have hbf:=fun n hn=>(q5s hyes hj (n:=n) hn).1
  have hle:((l.take i).filter (q52 l)).length≤i:=Nat.le_trans (List.length_filter_le _ _) Ys
  generalize (l.take i).filter (q52 l)=acc at hst hle ⊢
  clear hc
  refine Zi7 ?_
  refine Zlv ?_
  refine Z1 ?_
  refine qn 23 (.bool (q52 l j)) ?_ ?_
  ·refine Z45 ?_
   refine qb rfl rfl (fun hg3=>?_) (fun hg3=>?_)
   ·refine Z67 ?_
    refine Z5x ?_
    refine Zsj ?_
    refine q5b rfl rfl (by decide) (V2.call (qca 198 [.pt (Lid H.length 0) 0 0 0] (fun a=>decide ((q1r l a).state=3)) l j _ (fun n hn L'=>qfu l (q11 l n) (Lid H.length 0) _ (lkF (lk rfl rfl)) (by have:=hbf n hn;omega)) hw1 hs hjn) rfl) ?_
    refine Zm ?_
    exact Zsr
   ·refine Z2i ?_
    exact Zsr
  refine Z1 ?_
  refine qa rfl (fun hc=>?_) (fun hc=>?_)
  ·rw [if_pos hc] at hst
   refine Zpn ?_
   refine ao2 Y11 (qbc (sz:=13) (v:=.agg (q1d j)) (cs:=q1d j) rfl (by decide) (by decide) rfl rfl rfl rfl rfl) ?_
   refine ao2 Y11 (q5e rfl rfl rfl rfl rfl (Src.pl (ys:=[q1d j]) rfl (q6v [j])) rfl (by simp) (by simp) Y1c Y1c) ?_
   refine Zb5 ?_
   refine Zss ?_
   rw [show (acc.map q1d).take acc.length=acc.map q1d from List.take_of_length_le (by simp)]
   refine Z5l ?_
   refine ⟨i+1,by omega,by omega,by rw [hst,List.length_append];exact Y6,?_⟩
   rw [hst,List.length_append]
   refine Fit.loc hB Yu Y1 ?_
   intro o ho r hr
   simp only [List.mem_cons,List.not_mem_nil,or_false] at ho
   rcases ho with rfl | rfl
   ·simp only [List.mem_singleton] at hr;subst hr;rfl
   ·exact q2t _ _ r hr
  ·rw [if_neg Y16] at hst
   refine Z5l ?_
   refine ⟨i+1,by omega,by omega,by rw [hst];exact Y6,?_⟩
   rw [hst]
   refine Fit.loc hB rfl Y1 ?_
   intro o ho r hr
   simp only [List.mem_cons,List.not_mem_nil,or_false] at ho
   rcases ho with rfl | rfl
   ·simp only [List.mem_singleton] at hr;subst hr;rfl
   ·exact q2t _ _ r hr
 ·have:i=l.length:=by simp at hc;omega
  subst this
  rw [List.take_length]
  have hfl:(l.filter (q52 l)).length≤l.length:=List.length_filter_le _ _
  generalize l.filter (q52 l)=acc at hfl ⊢
  clear hc
  have hbl:=q3j acc
  refine Zb1 ?_
  refine ao2 Y11 (V2.callS (k:=1) (qkw acc (Lid H.length 1) acc.length _ (lk rfl rfl) (by omega)) rfl) ?_
  refine qf ?_
  refine Zp8 ?_
  refine Z1d ?_
  refine qu (ys:=(byPrio acc).map q1d) 3 rfl rfl rfl rfl Ye Y1c (q2t 0 _) ?_
  refine Zf4 ?_
  refine q13 (qqy _ _ (by omega)) rfl (by decide) ?_
  refine Z4w ?_
  refine qf ?_
  try dsimp only [List.set_cons_succ,List.set_cons_zero]
  exact Z22
end Go.Av
