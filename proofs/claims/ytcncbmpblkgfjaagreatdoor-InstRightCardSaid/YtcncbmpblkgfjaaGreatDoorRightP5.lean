/- Parts of the proof: rules for an abstract memory, plain laws, and walks through the program. -/
import Derived.Test.YtcncbmpblkgfjaaGreatDoorRightP0
import Derived.Test.YtcncbmpblkgfjaaGreatDoorRightP4
import Derived.Test.YtcncbmpblkgfjaaGreatDoorRightP2
import Derived.Lib.LaidTab
import Derived.LaidMore
import Derived.Handed
import Derived.Test.YtcncbmpblkgfjaaGreatDoorRows
set_option maxRecDepth 10000
set_option linter.unusedVariables false
set_option linter.unusedSimpArgs false
namespace Go.Av
theorem qcq {g:List Thing} {free:List Int} {s:Spec} (h:q2m s=false):q4u g free s=([],false):=by
 rw [q4u,if_pos (by rw [qnp,h];simp)]
theorem qem {g:List Thing} {free:List Int} {s:Spec} (h:q1o g=false):q4u g free s=([],false):=by
 rw [q4u,if_pos (by rw [qnp,h];simp)]
theorem qv0 {s:Spec} {t:Int} (hs:q2m s=true) (ht:tm t=true) (hn:t≠4611686018427387904):t<q1p s t:=by
 have:=q5a hs
 have:=tm_iff.1 ht
 unfold q1p
 rw [hs,if_pos rfl]
 unfold qdu qdw
 omega
def q6a (l:List Held) (t e:Int) (x:Int):Bool:=l.any fun h=>decide (h.frm<e)&&decide (t<h.to)&&inl h.things x.toNat
theorem qww {use:List Int} {l:List Held} {t e:Int} (hu:sok use=true) (hr:q1s l=true) (hte:t<e):use.filter (fun x=>!q6a l t e x)=q8c use (q5f l t e):=by
 have hmay:=(held_iff.1 hr).2.1
 have h0:=qi6 (op:=fun x y=>x&&!y) hu (qdq l t e) (fun y=>by simp)
 show _=q4x (fun x y=>x&&!y) use (q5f l t e)
 rw [h0]
 refine List.filter_congr fun x _=>?_
 simp only [Bool.true_and]
 rw [qs6 l t e x.toNat (fun h hh=>q5r (hmay h hh))]
 congr 1
 unfold q6a
 rw [Bool.eq_iff_iff,List.any_eq_true,List.any_eq_true]
 refine exists_congr fun h=>and_congr_right fun hh=>?_
 have:=hmay h hh
 simp only [Go.Av.hmay,Bool.and_eq_true,decide_eq_true_eq] at this
 simp only [Bool.and_eq_true,decide_eq_true_eq,q79]
 constructor
 ·rintro ⟨⟨a,b⟩,c⟩;exact ⟨by omega,c⟩
 ·rintro ⟨a,c⟩;exact ⟨⟨by omega,by omega⟩,c⟩
def qfd (l:List Held) (t e:Int) (x:Int) (k:Nat):Bool:=q6a (l.take k) t e x
theorem qjq {l:List Held} {t e x:Int} {k:Nat} {h:Held} (hh:l[k]?=some h):qfd l t e x (k+1)=(qfd l t e x k||(decide (h.frm<e)&&decide (t<h.to)&&inl h.things x.toNat)):=by
 unfold qfd q6a
 rw [List.take_add_one,hh,Option.toList_some,List.any_append]
 simp
theorem q6y {g:List Thing} {use:List Int} {l:List Held} {s:Spec} {til:Int}:∀ ts:List Int,(q20 g use l s til ts).2.2=false→(q20 g use l s til ts)=(0,[],false)∧∀ t∈ts,(q2f g use l s t til).2=false
 | [],_=>⟨rfl,fun t h=>by cases h⟩
 | t :: ts,h=>by
  unfold q20 at h ⊢
  split at h
  ·cases h
  ·rename_i hf
   rw [if_neg hf]
   have:=q6y ts h
   refine ⟨this.1,fun x hx=>?_⟩
   rcases List.mem_cons.1 hx with rfl | hx
   ·simpa using hf
   ·exact this.2 x hx
theorem q8l {g:List Thing} {use:List Int} {l:List Held} {s:Spec} {til:Int}:∀ ts:List Int,ts.Pairwise (· < ·)→(q20 g use l s til ts).2.2=true→∀ t∈ts,(q2f g use l s t til).2=true→(q20 g use l s til ts).1≤t
 | [],_,h=>by cases h
 | t :: ts,hp,h=>by
  rw [List.pairwise_cons] at hp
  intro x hx hfx
  unfold q20 at h ⊢
  split at h
  ·rename_i hf
   rw [if_pos hf]
   rcases List.mem_cons.1 hx with rfl | hx
   ·exact Int.le_refl _
   ·exact Int.le_of_lt (hp.1 x hx)
  ·rename_i hf
   rw [if_neg hf]
   rcases List.mem_cons.1 hx with rfl | hx
   ·exact absurd hfx hf
   ·exact q8l ts hp.2 h x hx hfx
def TT (l:List Held) (frm:Int) (k:Nat) (t:Int):Prop:=t=frm∨∃ h∈l.take k,frm≤h.to∧t=h.to
structure Best (g : List Thing) (use : List Int) (l : List Held) (s : Spec) (frm til : Int) (k : Nat) (b : Int) : Prop where
 none:b<0→b = -1∧∀ t,TT l frm k t→(q2f g use l s t til).2=false
 some:0≤b→TT l frm k b∧(q2f g use l s b til).2=true∧∀ t,TT l frm k t→(q2f g use l s t til).2=true→b≤t
theorem qfn {g:List Thing} {use:List Int} {l:List Held} {s:Spec} {t til:Int} (h:(q2f g use l s t til).2=true):0≤t:=by
 unfold q2f at h
 split at h
 ·cases h
 ·rename_i hc
  simp only [Bool.or_eq_true,Bool.not_eq_true',decide_eq_true_eq,not_or,Bool.not_eq_false] at hc
  exact (tm_iff.1 hc.1.1).1
theorem qqf {g:List Thing} {use:List Int} {l:List Held} {s:Spec} {frm til b:Int} (hr:q1s l=true) (h:Best g use l s frm til l.length b):qt g use l s frm til=if b<0 then (0,[],false) else (b,(q2f g use l s b til).1,true):=by
 have hsl:qt g use l s frm til=q20 g use l s til (frm :: q2e l frm):=by
  rw [qt,if_neg (by rw [hr];decide)]
 have he:∀ t,t∈frm :: q2e l frm↔TT l frm l.length t:=fun t=>by
  unfold TT q2e
  rw [hr,if_pos rfl,List.mem_cons,q7f,List.mem_map,List.take_length]
  constructor
  ·rintro (e | ⟨x,hx,rfl⟩)
   ·exact .inl e
   ·rw [List.mem_filter,decide_eq_true_eq] at hx
    exact .inr ⟨x,hx.1,by omega,rfl⟩
  ·rintro (e | ⟨x,hx,h1,rfl⟩)
   ·exact .inl e
   ·by_cases e:x.to=frm
    ·exact .inl e
    ·exact .inr ⟨x,List.mem_filter.2 ⟨hx,by rw [decide_eq_true_eq];omega⟩,rfl⟩
 have hp:(frm :: q2e l frm).Pairwise (· < ·):=by
  rw [List.pairwise_cons]
  unfold q2e
  rw [hr,if_pos rfl]
  refine ⟨fun t ht=>?_,q7b _⟩
  rw [q7f,List.mem_map] at ht
  obtain ⟨x,hx,rfl⟩:=ht
  rw [List.mem_filter,decide_eq_true_eq] at hx
  exact hx.2
 rw [hsl]
 split
 ·rename_i hb
  obtain ⟨_,hn⟩:=h.none hb
  cases e:(q20 g use l s til (frm :: q2e l frm)).2.2 with
  | false=>exact (q6y _ e).1
  | true =>
   obtain ⟨h1,h2,_⟩:=q4o _ e
   rw [hn _ ((he _).1 h1)] at h2
   cases h2
 ·rename_i hb
  obtain ⟨h1,h2,h3⟩:=h.some (by omega)
  cases e:(q20 g use l s til (frm :: q2e l frm)).2.2 with
  | false =>
   rw [(q6y _ e).2 b ((he b).2 h1)] at h2
   cases h2
  | true =>
   obtain ⟨k1,k2,k3⟩:=q4o _ e
   have l1:=q8l _ hp e b ((he b).2 h1) h2
   have l2:=h3 _ ((he _).1 k1) k2
   have hbe:(q20 g use l s til (frm :: q2e l frm)).1=b:=by omega
   rw [hbe] at k3
   generalize q20 g use l s til (frm :: q2e l frm)=q at *
   obtain ⟨q1,q2,q3⟩:=q
   simp only at hbe k3 e
   rw [hbe,k3,e]
theorem qpz {g:List Thing} {use:List Int} {l:List Held} {s:Spec} {frm til:Int}:Best g use l s frm til 0 (if (q2f g use l s frm til).2=true then frm else -1):=by
 constructor
 ·intro h
  split at h
  ·rename_i hf
   have:=qfn hf
   omega
  ·rename_i hf
   rw [if_neg hf]
   refine ⟨rfl,fun t ht=>?_⟩
   rcases ht with rfl | ⟨x,hx,_⟩
   ·simpa using hf
   ·simp at hx
 ·intro h
  split at h
  ·rename_i hf
   rw [if_pos hf]
   refine ⟨.inl rfl,hf,fun t ht _=>?_⟩
   rcases ht with rfl | ⟨x,hx,_⟩
   ·exact Int.le_refl _
   ·simp at hx
  ·omega
theorem qdo {l:List Held} {frm:Int} {k:Nat} {h:Held} (hh:l[k]?=some h) (t:Int):TT l frm (k+1) t↔TT l frm k t∨(frm≤h.to∧t=h.to):=by
 unfold TT
 rw [List.take_add_one,hh,Option.toList_some]
 constructor
 ·rintro (e | ⟨x,hx,h1,h2⟩)
  ·exact .inl (.inl e)
  ·rcases List.mem_append.1 hx with hx | hx
   ·exact .inl (.inr ⟨x,hx,h1,h2⟩)
   ·rw [List.mem_singleton] at hx;subst hx;exact .inr ⟨h1,h2⟩
 ·rintro ((e | ⟨x,hx,h1,h2⟩) | ⟨h1,h2⟩)
  ·exact .inl e
  ·exact .inr ⟨x,List.mem_append_left _ hx,h1,h2⟩
  ·exact .inr ⟨h,List.mem_append_right _ (List.mem_singleton.2 rfl),h1,h2⟩
theorem qt0 {g:List Thing} {use:List Int} {l:List Held} {s:Spec} {frm til b:Int} {k:Nat} {h:Held} (hh:l[k]?=some h) (B:Best g use l s frm til k b) (hc:h.to<frm∨(0≤b∧b≤h.to)∨(q2f g use l s h.to til).2=false):Best g use l s frm til (k+1) b:=by
 constructor
 ·intro hb
  refine ⟨(B.none hb).1,fun t ht=>?_⟩
  rcases (qdo hh t).1 ht with ht | ⟨h1,rfl⟩
  ·exact (B.none hb).2 t ht
  ·rcases hc with hc | hc | hc
   ·omega
   ·omega
   ·exact hc
 ·intro hb
  obtain ⟨b1,b2,b3⟩:=B.some hb
  refine ⟨(qdo hh b).2 (.inl b1),b2,fun t ht hf=>?_⟩
  rcases (qdo hh t).1 ht with ht | ⟨h1,rfl⟩
  ·exact b3 t ht hf
  ·rcases hc with hc | hc | hc
   ·omega
   ·omega
   ·rw [hc] at hf;cases hf
theorem qsb {g:List Thing} {use:List Int} {l:List Held} {s:Spec} {frm til b:Int} {k:Nat} {h:Held} (hh:l[k]?=some h) (B:Best g use l s frm til k b) (h1:frm≤h.to) (h2:b<0∨h.to<b) (hf:(q2f g use l s h.to til).2=true):Best g use l s frm til (k+1) h.to:=by
 have h0:=qfn hf
 constructor
 ·intro hb;omega
 ·intro _
  refine ⟨(qdo hh h.to).2 (.inr ⟨h1,rfl⟩),hf,fun t ht hft=>?_⟩
  rcases (qdo hh t).1 ht with ht | ⟨_,rfl⟩
  ·rcases h2 with h2 | h2
   ·rw [(B.none h2).2 t ht] at hft;cases hft
   ·by_cases e:0≤b
    ·have:=(B.some e).2.2 t ht hft;omega
    ·rw [(B.none (by omega)).2 t ht] at hft;cases hft
  ·exact Int.le_refl _
theorem qwc {g:List Thing} {use:List Int} {l:List Held} {s:Spec} {frm til:Int} (h:(qt g use l s frm til).2.2=true):frm≤(qt g use l s frm til).1:=by
 unfold qt at h ⊢
 split at h
 ·cases h
 rename_i hr
 rw [if_neg hr]
 obtain ⟨h1,_⟩:=q4o _ h
 generalize (q20 g use l s til (frm :: q2e l frm)).1=q at *
 rcases List.mem_cons.1 h1 with e | e
 ·omega
 ·unfold q2e at e
  split at e
  ·rw [q7f,List.mem_map] at e
   obtain ⟨x,hx,e⟩:=e
   rw [List.mem_filter,decide_eq_true_eq] at hx
   omega
  ·cases e
end Go.Av
namespace Go.Av
open Go.Proofs
set_option maxHeartbeats 0 in
theorem qqh (g:List Thing) (free:List Int) (s:Spec) (H:qj) (hl:g.length≤1000000) (hw:TW g) (hf:free.length≤1000000) (hs:s.tag.size≤9223372036854775807):AC Tryz.prog 211 [.pl (g.map qq),.pl (free.map eI),.agg (q2i s)] H (Ret (.bool (qnp g free s)) H):=by
 unfold qnp
 refine AC.body (N:=17) [.tmp 6] Tryz.func211 rfl rfl rfl (Nat.le_of_ble_eq_true rfl) fun B hB=>?_
 refine Z32 ?_
 refine Z35 ?_
 refine qn 6 (.bool (q1o g&&sok free&&q2m s)) ?_ ?_
 ·refine Z4n ?_
  refine Zhc ?_
  refine Zh ?_
  refine qb rfl rfl (fun hg2=>?_) (fun hg2=>?_)
  ·refine Zc3 ?_
   refine Zju ?_
   refine Z3b ?_
   refine qb rfl rfl (fun hg6=>?_) (fun hg6=>?_)
   ·refine Z5x ?_
    refine Zvc ?_
    refine Zn ?_
    exact Zx2
   ·refine Zt ?_
    exact Zx2
  ·refine Z62 ?_
   refine Zt ?_
   exact Zx2
 exact Z22
set_option maxHeartbeats 0 in
theorem qo3 (g:List Thing) (free:List Int) (s:Spec) (H:qj) (hl:g.length≤1000000) (hw:TW g) (hf:free.length≤1000000) (hs:s.tag.size≤9223372036854775807):AC Tryz.prog 187 [.pl (g.map qq),.pl (free.map eI),.agg (q2i s)] H (Ret (.tup [.pl ((q4u g free s).1.map eI),.bool (q4u g free s).2]) H):=by
 refine AC.body (N:=49) [.tmp 6,.tmp 7] Tryz.func187 rfl rfl rfl (Nat.le_of_ble_eq_true rfl) fun B hB=>?_
 refine Zpz ?_
 refine Z34 ?_
 refine Za5 ?_
 refine Z4b ?_
 refine q13 (qqh _ _ _ _ Y1d Y1d Y1d Y1d) rfl (by decide) ?_
 refine Z4d ?_
 refine qa rfl (fun hc=>?_) (fun hc=>?_)
 ·have hno:q4u g free s=([],false):=by rw [q4u,if_pos hc]
  rw [hno]
  refine Zrd ?_
  try dsimp only
  refine Z1d ?_
  refine q1c 6 rfl ?_
  exact Zox
 have hmay:qnp g free s=true:=by simpa only [Bool.not_eq_false'] using hc
 have hmay':=hmay
 simp only [qnp,Bool.and_eq_true] at hmay'
 obtain ⟨⟨hg,hfs⟩,hss⟩:=hmay'
 have hlen:=q1w hg
 have hsf:=q5a hss
 have hfind:q4u g free s=if 0<(q1u g free s g.length).2 then ([],false) else ((q1u g free s g.length).1,true):=by rw [q4u,hmay];rfl
 rw [hfind]
 clear hc hfind
 refine Z4m ?_
 refine Zhd ?_
 refine q1c 8 rfl ?_
 refine qm (G:=Nat) (fun i=>i≤g.length) (fun i=>[(0,.pl (g.map qq)),(1,.pl (free.map eI)),(5,.pt (Lid H.length 0) 0 0 0),(8,.pl ((q1u g free s i).1.map eI)),(9,.int .i64 (s.nodes-(q1u g free s i).2)),(10,.int .i64 (i:Int))]) (fun _=>H++[⟨0,7,[q2i s]⟩]) (fun i=>g.length-i) 0 (Nat.zero_le _) (by rw [show s.nodes-(q1u g free s 0).2=0 from by show s.nodes-s.nodes=0;omega];exact Y6) (.inl rfl) ?_
 intro i hi
 have hle:=q9f (g:=g) free s i
 have hlf:=q8r (g:=g) free s i
 refine Z1 ?_
 refine qn 27 (.bool (decide (i<g.length)&&decide (0<(q1u g free s i).2))) ?_ ?_
 ·refine Z8 ?_
  refine Zcu ?_
  refine qb rfl rfl (fun hg4=>?_) (fun hg4=>?_)
  ·refine Z8t ?_
   refine Zm ?_
   exact Zgw
  ·refine Z2i ?_
   exact Zgw
 refine Z1 ?_
 refine qa rfl (fun hc=>?_) (fun hc=>?_)
 ·rw [Bool.and_eq_true,decide_eq_true_eq,decide_eq_true_eq] at hc
  obtain ⟨hlt,hpos⟩:=hc
  have hst:q1u g free s (i+1)=if 0<(q1u g free s i).2∧(q6n g free s i).2=true then (q7t (q1u g free s i).1 (q6n g free s i).1,(q1u g free s i).2-1) else q1u g free s i:=rfl
  have hml:=qlz hg free s i
  refine Za5 ?_
  refine Z4b ?_
  refine Z8 ?_
  refine ao2 Y11 (V2.call (qp5 g free s i _ hg hw hfs hss hlt) rfl) ?_
  refine Zsa ?_
  try dsimp only [put]
  generalize q6n g free s i=h at hst hml ⊢
  obtain ⟨hx,ok⟩:=h
  simp only at hst hml ⊢
  refine Z2x ?_
  refine qa rfl (fun hc=>?_) (fun hc=>?_)
  ·subst hc
   rw [if_pos ⟨hpos,rfl⟩] at hst
   refine Za5 ?_
   refine ao2 Y11 (V2.call (q4w (q1u g free s i).1 hx 0 (by omega) (by omega) _) rfl) ?_
   refine Z4x ?_
   refine Z12 ?_
   refine ao1 (by decide) (q5y (r:=s.nodes-((q1u g free s i).2-1)) rfl rfl (by rw [show s.nodes-(q1u g free s i).2+1=s.nodes-((q1u g free s i).2-1) by omega];exact q1b (by omega) (by omega))) ?_
   refine Z4 ?_
   refine Z2l ?_
   exact ⟨i+1,by omega,by omega,by rw [hst];exact Y6,.refl _ _⟩
  ·subst hc
   rw [if_neg (by simp)] at hst
   refine Z2l ?_
   exact ⟨i+1,by omega,by omega,by rw [hst];exact Y6,.refl _ _⟩
 ·have hend:q1u g free s g.length=q1u g free s i:=by
   rw [Bool.and_eq_false_iff,decide_eq_false_iff_not,decide_eq_false_iff_not] at hc
   by_cases e:i=g.length
   ·rw [e]
   ·have:=q91 (g:=g) (free:=free) (s:=s) (k:=i) (by omega) (g.length-i)
    rwa [show i+(g.length-i)=g.length by omega] at this
  rw [hend]
  clear hc hend
  generalize q1u g free s i=q at *
  obtain ⟨q1,q2⟩:=q
  simp only at hle hlf ⊢
  refine Z12 ?_
  refine Z37 ?_
  refine Z6f ?_
  refine qa rfl (fun hc=>?_) (fun hc=>?_)
  ·rw [if_pos (show 0<q2 by simp at hc;omega)]
   refine Zrd ?_
   try dsimp only
   refine Z1d ?_
   refine q1c 6 rfl ?_
   exact Zox
  rw [if_neg (show ¬ 0<q2 by simp at hc;omega)]
  refine Zic ?_
  refine Z1q ?_
  try dsimp only
  exact Zhu
set_option maxHeartbeats 0 in
theorem qjs (g:List Thing) (s:Spec) (H:qj) (hl:g.length≤1000000) (hw:TW g) (hs:s.tag.size≤9223372036854775807):AC Tryz.prog 156 [.pl (g.map qq),.agg (q2i s)] H (Ret (.bool (q8o g s)) H):=by
 have hfin:(q4u g (idx (fun _=>true) (min g.length 256)) s).2=q8o g s:=by
  unfold q8o
  cases hg:q1o g with
  | true =>
   have:=q1w hg
   rw [qjh hg,Nat.min_eq_left this.2]
  | false=>rw [qem hg,qem hg]
 rw [← hfin]
 clear hfin
 refine AC.body (N:=31) [.tmp 4] Tryz.func156 rfl rfl rfl (Nat.le_of_ble_eq_true rfl) fun B hB=>?_
 refine Z32 ?_
 refine Z34 ?_
 refine Z4m ?_
 refine Z1e ?_
 refine q22 (k:=1) 5 1 rfl (by decide) rfl ?_
 refine qm (G:=Nat) (fun k=>k≤min g.length 256) (fun k=>[(0,.pl (g.map qq)),(3,.pt (Lid H.length 0) 0 0 0),(5,.sl (Lid H.length 1) (idx (fun _=>true) k).length 0 (idx (fun _=>true) k).length (idx (fun _=>true) k).length),(6,.int .i64 (k:Int))]) (fun k=>H++[⟨0,7,[q2i s]⟩,⟨(idx (fun _=>true) k).length,1,(idx (fun _=>true) k).map eI⟩]) (fun k=>g.length-k) 0 (Nat.zero_le _) Y6 (.inl rfl) ?_
 intro k hk
 have hle:=q62 (fun _=>true) k
 refine Z1 ?_
 refine qn 16 (.bool (decide (k<min g.length 256))) ?_ ?_
 ·refine Z8 ?_
  refine Zcu ?_
  refine qb rfl rfl (fun hg4=>?_) (fun hg4=>?_)
  ·refine Zl ?_
   refine Zm ?_
   exact Zuu
  ·refine Z2h ?_
   exact Zuu
 refine Z1 ?_
 refine qa rfl (fun hc=>?_) (fun hc=>?_)
 ·have hlt:k<min g.length 256:=of_decide_eq_true hc
  have hst:=q5t (fun _=>true) k
  rw [if_pos rfl] at hst
  generalize idx (fun _=>true) k=acc at hst hle ⊢
  clear hc
  refine Zb2 ?_
  refine Zb8 ?_
  rw [show (acc.map eI).take acc.length=acc.map eI from List.take_of_length_le (by simp)]
  refine Z2l ?_
  exact ⟨k+1,by omega,by omega,by rw [hst,List.length_append];exact Y6,by rw [hst,List.length_append];exact Fit.loc hB Yu Y1 (qbw _ s _)⟩
 ·have:k=min g.length 256:=by have:=of_decide_eq_false hc;omega
  subst this
  clear hc
  generalize idx (fun _=>true) (min g.length 256)=acc at hle ⊢
  refine Z1d ?_
  refine qu (ys:=acc.map eI) 5 rfl rfl rfl rfl Yg (by simp) (q1y 0 _) ?_
  refine Zf4 ?_
  refine Z4n ?_
  refine Z4b ?_
  refine Zx3 ?_
  refine Zsa ?_
  refine Zp8 ?_
  refine Z2w ?_
  exact Z1t
set_option maxHeartbeats 0 in
theorem qms (g:List Thing) (use:List Int) (l:List Held) (s:Spec) (t til:Int) (H:qj) (hl:g.length≤1000000) (hw:TW g) (hu:sok use=true) (hh:HW l) (hr':q1s l=true) (hs:s.tag.size≤9223372036854775807):AC Tryz.prog 213 [.pl (g.map qq),.pl (use.map eI),.pl (l.map qg),.agg (q2i s),.int .i64 t,.int .i64 til] H (Ret (.tup [.pl ((q2f g use l s t til).1.map eI),.bool (q2f g use l s t til).2]) H):=by
 have hul:=q7z hu
 have hmay:=(held_iff.1 hr').2.1
 have hll:=hh.1
 refine AC.body (N:=96) [.tmp 12,.tmp 13] Tryz.func213 rfl rfl rfl (Nat.le_of_ble_eq_true rfl) fun B hB=>?_
 refine Zpz ?_
 refine Z35 ?_
 refine qn 34 (.bool (!tm t||decide (t=4611686018427387904))) ?_ ?_
 ·refine Zw ?_
  refine qb rfl rfl (fun hg2=>?_) (fun hg2=>?_)
  ·refine Z7z ?_
   refine Z40 ?_
   exact Zx4
  ·refine Z9k ?_
   refine Z3e ?_
   refine qb rfl rfl (fun hg6=>?_) (fun hg6=>?_)
   ·refine Z40 ?_
    exact Zx5
   ·refine Zc3 ?_
    refine Zmy ?_
    refine Z66 ?_
    refine qb rfl rfl (fun hg11=>?_) (fun hg11=>?_)
    ·refine Z3z ?_
     exact Zx4
    ·refine Zc3 ?_
     refine Zju ?_
     refine Z6c ?_
     exact Zx5
 unfold q2f
 refine Z1 ?_
 refine qa rfl (fun hc=>?_) (fun hc=>?_)
 ·rw [if_pos (show (!tm t||decide (t=4611686018427387904)||decide (til<q1p s t))=true by rw [hc];rfl)]
  refine Zrd ?_
  try dsimp only
  refine Z1d ?_
  refine q1c 12 rfl ?_
  exact Zox
 rw [hc,Bool.false_or]
 rw [Bool.or_eq_false_iff,Bool.not_eq_false',decide_eq_false_iff_not] at hc
 obtain ⟨htm,hne⟩:=hc
 refine Zt0 ?_
 refine ao2 Y11 (V2.call (qew s t _ hs) rfl) ?_
 refine Z4 ?_
 try dsimp only [put]
 refine Z2z ?_
 refine qa rfl (fun hc=>?_) (fun hc=>?_)
 ·rw [if_pos (show decide (til<q1p s t)=true by simpa using hc)]
  refine Zrd ?_
  try dsimp only
  refine Z1d ?_
  refine q1c 12 rfl ?_
  exact Zox
 rw [if_neg (show ¬ decide (til<q1p s t)=true by simpa using hc)]
 clear hc
 have hfin:q4u g (use.filter fun x=>!q6a l t (q1p s t) x) s=q4u g (q8c use (q5f l t (q1p s t))) s:=by
  cases hss:q2m s with
  | true=>rw [qww hu hr' (qv0 hss htm hne)]
  | false=>rw [qcq hss,qcq hss]
 rw [← hfin]
 clear hfin
 generalize q1p s t=e at *
 refine Z4m ?_
 refine Z1e ?_
 refine q22 (k:=1) 15 1 rfl (by decide) rfl ?_
 refine qm (G:=Nat) (fun k=>k≤use.length) (fun k=>[(0,.pl (g.map qq)),(1,.pl (use.map eI)),(2,.pl (l.map qg)),(4,.int .i64 t),(9,.pt (Lid H.length 0) 0 0 0),(14,.int .i64 e),(15,.sl (Lid H.length 1) ((use.take k).filter fun x=>!q6a l t e x).length 0 ((use.take k).filter fun x=>!q6a l t e x).length ((use.take k).filter fun x=>!q6a l t e x).length),(16,.int .i64 (k:Int))]) (fun k=>H++[⟨0,7,[q2i s]⟩,⟨((use.take k).filter fun x=>!q6a l t e x).length,1,((use.take k).filter fun x=>!q6a l t e x).map eI⟩]) (fun k=>use.length-k) 0 (Nat.zero_le _) Y6 (.inl rfl) ?_
 intro k hk
 have hacc:((use.take k).filter fun x=>!q6a l t e x).length≤256:=Nat.le_trans (List.length_filter_le _ _) Ys
 refine Z8z ?_
 refine qa rfl (fun hc=>?_) (fun hc=>?_)
 ·have hlt:k<use.length:=by simpa using hc
  obtain ⟨x,hx,hxl⟩:=qo hlt
  have hru:=qh eI hx
  have hx0:=q4h hu hxl
  obtain ⟨m,rfl⟩:∃ m:Nat,x=(m:Int):=⟨x.toNat,by omega⟩
  have hst:(use.take (k+1)).filter (fun x=>!q6a l t e x)=(use.take k).filter (fun x=>!q6a l t e x)++if q6a l t e (m:Int) then [] else [(m:Int)]:=by
   rw [ql hx,List.filter_append]
   congr 1
   cases h:q6a l t e (m:Int)<;>simp [h]
  generalize (use.take k).filter (fun x=>!q6a l t e x)=acc at *
  clear hc
  refine Z23 ?_
  refine qm (G:=Nat) (fun j=>j≤l.length) (fun j=>[(0,.pl (g.map qq)),(1,.pl (use.map eI)),(2,.pl (l.map qg)),(4,.int .i64 t),(9,.pt (Lid H.length 0) 0 0 0),(14,.int .i64 e),(15,.sl (Lid H.length 1) acc.length 0 acc.length acc.length),(16,.int .i64 (k:Int)),(17,.bool (qfd l t e (m:Int) j)),(18,.int .i64 (j:Int))]) (fun _=>H++[⟨0,7,[q2i s]⟩,⟨acc.length,1,acc.map eI⟩]) (fun j=>l.length-j) 0 (Nat.zero_le _) Y6 (.inl rfl) ?_
  intro j hj
  refine Z8z ?_
  refine qa rfl (fun hc=>?_) (fun hc=>?_)
  ·have hjt:j<l.length:=by simpa using hc
   obtain ⟨h,hx2,hxl2⟩:=qo hjt
   have hr:=qh qg hx2
   have hhw:=hh.2 h hxl2
   have hsk:=q5r (hmay h hxl2)
   have hbs:=qjq (t:=t) (e:=e) (x:=(m:Int)) hx2
   rw [Int.toNat_natCast] at hbs
   clear hc
   refine Z1 ?_
   refine q1l 80 (.bool (decide (h.frm<e)&&decide (t<h.to)&&inl h.things m)) ?_ ?_
   ·refine Zaa ?_
    refine Zv1 ?_
    refine Z1n ?_
    refine aq0 6 rfl Y17 (by decide) (fun _=>qsr rfl rfl) ?_
    refine aq0 7 rfl Y17 (by decide) (fun _=>qd (v:=.bool _) rfl) ?_
    refine qp (g:=60) rfl (fun hg7=>?_) (fun hg7=>?_)
    ·refine q1h (g:=60) 8 rfl Y17 (by decide) rfl rfl (fun _=>qd (v:=.int _ _) rfl) ?_
     refine q1h (g:=60) 9 rfl Y17 (by decide) rfl rfl (fun _=>qd (v:=.pl _) rfl) ?_
     refine q1h (g:=60) 10 rfl Y17 (by decide) rfl rfl (fun _=>qd (v:=.int _ _) rfl) ?_
     refine q1j (g:=60) 11 rfl Y17 (by decide) rfl rfl (fun G=>qe rfl rfl hr rfl) ?_
     refine q1j (g:=60) 12 rfl Y17 (by decide) rfl rfl (fun G=>qx rfl (by decide)) ?_
     refine q1j (g:=60) 13 rfl Y17 (by decide) rfl rfl (fun G=>qz (v:=.int _ _) rfl hr rfl) ?_
     refine q1h (g:=60) 14 rfl Y17 (by decide) rfl rfl (fun _=>qsr rfl rfl) ?_
     refine Z6s ?_
     refine Z6t ?_
     refine qp (g:=69) rfl (fun hg16=>?_) (fun hg16=>?_)
     ·refine q1h (g:=69) 17 rfl Y17 (by decide) rfl rfl (fun _=>qd (v:=.pl _) rfl) ?_
      refine q1h (g:=69) 18 rfl Y17 (by decide) rfl rfl (fun _=>qd (v:=.int _ _) rfl) ?_
      refine q1j (g:=69) 19 rfl Y17 (by decide) rfl rfl (fun G=>qe rfl rfl hr rfl) ?_
      refine q1j (g:=69) 20 rfl Y17 (by decide) rfl rfl (fun G=>qx rfl (by decide)) ?_
      refine q1j (g:=69) 21 rfl Y17 (by decide) rfl rfl (fun G=>qz (v:=.pl _) rfl hr rfl) ?_
      refine q1h (g:=69) 22 rfl Y17 (by decide) rfl rfl (fun _=>qd (v:=.pl _) rfl) ?_
      refine q1h (g:=69) 23 rfl Y17 (by decide) rfl rfl (fun _=>qd (v:=.int _ _) rfl) ?_
      refine q1j (g:=69) 24 rfl Y17 (by decide) rfl rfl (fun G=>qe rfl rfl hru rfl) ?_
      refine q1j (g:=69) 25 rfl Y17 (by decide) rfl rfl (fun G=>qz (v:=.int _ _) rfl hru rfl) ?_
      refine q7c (g:=69) 26 rfl Y17 (by decide) rfl rfl (fun _=>V2.call (qco h.things m _ hhw) rfl) ?_
      refine Zbx ?_
      exact q1i Y17 Yv (Out.mk (by (refine congrArg AV.bool ?_;(clear hB hr hru hst hmay hbs;(simp_all;done)))) Yb)
     ·refine Zvf ?_
      refine Zvg ?_
      refine Zx6 ?_
      refine Zx7 ?_
      refine Zx8 ?_
      refine Zx9 ?_
      refine Zxa ?_
      refine Zxb ?_
      refine Zxc ?_
      refine Zxd ?_
      refine Zc0 ?_
      exact Zxe
    ·refine qr (g:=60) 8 rfl Y17 (by decide) rfl rfl rfl ?_
     refine qr (g:=60) 9 rfl Y17 (by decide) rfl rfl rfl ?_
     refine qr (g:=60) 10 rfl Y17 (by decide) rfl rfl rfl ?_
     refine qr (g:=60) 11 rfl Y17 (by decide) rfl rfl rfl ?_
     refine qr (g:=60) 12 rfl Y17 (by decide) rfl rfl rfl ?_
     refine qr (g:=60) 13 rfl Y17 (by decide) rfl rfl rfl ?_
     refine qr (g:=60) 14 rfl Y17 (by decide) rfl rfl rfl ?_
     refine Z7c ?_
     refine Z6t ?_
     refine Zvf ?_
     refine Zvg ?_
     refine Zx6 ?_
     refine Zx7 ?_
     refine Zx8 ?_
     refine Zx9 ?_
     refine Zxa ?_
     refine Zxb ?_
     refine Zxc ?_
     refine Zxd ?_
     refine Zc0 ?_
     exact Zxe
   refine Z1 ?_
   refine qa rfl (fun hc=>?_) (fun hc=>?_)
   ·rw [hc,Bool.or_true] at hbs
    refine q1k ?_
    refine Z1q ?_
    refine Z2l ?_
    exact ⟨j+1,by omega,by omega,by rw [hbs];exact Y6,.refl _ _⟩
   ·rw [hc,Bool.or_false] at hbs
    refine Z2l ?_
    exact ⟨j+1,by omega,by omega,by rw [hbs];exact Y6,.refl _ _⟩
  ·have:j=l.length:=by simp at hc;omega
   subst this
   clear hc
   rw [show qfd l t e (m:Int) l.length=q6a l t e (m:Int) by unfold qfd;rw [List.take_length]]
   refine Z8k ?_
   refine qa rfl (fun hc=>?_) (fun hc=>?_)
   ·rw [if_neg (show ¬ q6a l t e (m:Int)=true by simpa using hc)] at hst
    refine Zcq ?_
    refine Zc7 ?_
    refine Zwz ?_
    refine Zx0 ?_
    refine Zb8 ?_
    rw [show (acc.map eI).take acc.length=acc.map eI from List.take_of_length_le (by simp)]
    refine Z2l ?_
    exact ⟨k+1,by omega,by omega,by rw [hst,List.length_append];exact Y6,by rw [hst,List.length_append];exact Fit.loc hB Yu Y1 (qbw _ s _)⟩
   ·rw [if_pos (show q6a l t e (m:Int)=true by simpa using hc),List.append_nil] at hst
    refine Z2l ?_
    exact ⟨k+1,by omega,by omega,by rw [hst];exact Y6,by rw [hst];exact .refl _ _⟩
 ·have:k=use.length:=by simp at hc;omega
  subst this
  rw [List.take_length] at hacc ⊢
  clear hc
  generalize use.filter (fun x=>!q6a l t e x)=acc at *
  refine Z1d ?_
  refine qu (ys:=acc.map eI) 15 rfl rfl rfl rfl Yg (by simp) (q1y 0 _) ?_
  refine Zf4 ?_
  refine Z4n ?_
  refine Z4b ?_
  refine Zx3 ?_
  refine Zpg ?_
  refine Zs9 ?_
  refine Zp8 ?_
  exact Zhu
structure FS where
 k:Nat
 b:Int
set_option maxHeartbeats 0 in
theorem qla (g:List Thing) (use:List Int) (l:List Held) (s:Spec) (frm til:Int) (H:qj) (hl:g.length≤1000000) (hw:TW g) (hu:sok use=true) (hh:HW l) (hr':q1s l=true) (hs:s.tag.size≤9223372036854775807):AC Tryz.prog 189 [.pl (g.map qq),.pl (use.map eI),.pl (l.map qg),.agg (q2i s),.int .i64 frm,.int .i64 til] H (Ret (.tup [.int .i64 (qt g use l s frm til).1,.pl ((qt g use l s frm til).2.1.map eI),.bool (qt g use l s frm til).2.2]) H):=by
 have hll:=hh.1
 refine AC.body (N:=64) [.tmp 12,.tmp 13,.tmp 14] Tryz.func189 rfl rfl rfl (Nat.le_of_ble_eq_true rfl) fun B hB=>?_
 refine Z32 ?_
 refine Z3 ?_
 refine Z4k ?_
 refine Z34 ?_
 refine Z5 ?_
 refine Z4m ?_
 refine Z1e ?_
 refine q1c 16 rfl ?_
 refine qm (G:=FS) (fun q=>q.k≤l.length+1∧(q.k=0→q.b = -1)∧(∀ j,q.k=j+1→Best g use l s frm til j q.b)) (fun q=>[(0,.pl (g.map qq)),(1,.pl (use.map eI)),(2,.pl (l.map qg)),(4,.int .i64 frm),(5,.int .i64 til),(9,.pt (Lid H.length 0) 0 0 0),(15,.int .i64 q.b),(16,.pl ((if q.b<0 then [] else (q2f g use l s q.b til).1).map eI)),(17,.int .i64 ((q.k:Int)-1))]) (fun _=>H++[⟨0,7,[q2i s]⟩]) (fun q=>l.length+1-q.k) ⟨0,-1⟩ ⟨Nat.zero_le _,fun _=>rfl,fun j h=>by cases h⟩ Y6 (.inl rfl) ?_
 rintro ⟨k,b⟩ ⟨hk,hz,hB2⟩
 simp only at hk hz hB2 ⊢
 refine Z8z ?_
 refine qa rfl (fun hc=>?_) (fun hc=>?_)
 ·have hlt:k<l.length+1:=by simp at hc;omega
  clear hc
  rcases k with _ | j
  ·obtain rfl:=hz rfl
   have hbz:=qpz (g:=g) (use:=use) (l:=l) (s:=s) (frm:=frm) (til:=til)
   refine Z1c ?_
   refine Z12 ?_
   refine Z1s ?_
   refine Z9 ?_
   refine qa rfl (fun hc=>?_) (fun hc=>?_)
   ·simp at hc
   clear hc
   refine Z1 ?_
   refine qn 46 (.bool false) ?_ ?_
   ·refine Z30 ?_
    refine Zv ?_
    refine qb rfl rfl (fun hg3=>?_) (fun hg3=>?_)
    ·refine Z3k ?_
     refine Z7k ?_
     refine Zca ?_
     exact Z98
    ·refine Z9k ?_
     refine Z28 ?_
     refine qb rfl rfl (fun hg6=>?_) (fun hg6=>?_)
     ·refine Zj ?_
      refine Z9k ?_
      refine Zch ?_
      exact Z98
     ·refine Z7j ?_
      refine Zr ?_
      exact Z11
   refine Z1 ?_
   refine qa rfl (fun hc=>?_) (fun hc=>?_)
   ·cases hc
   clear hc
   refine Za5 ?_
   refine Z4n ?_
   refine Z4b ?_
   refine Z30 ?_
   refine ao2 Y11 (V2.call (qms g use l s frm til _ hl hw hu hh hr' hs) rfl) ?_
   refine Zsa ?_
   try dsimp only [put]
   generalize hfa:q2f g use l s frm til=fa at *
   obtain ⟨fl,fb⟩:=fa
   simp only at hbz ⊢
   refine Z2x ?_
   refine qa rfl (fun hc=>?_) (fun hc=>?_)
   ·subst hc
    have h0:=qfn (show (q2f g use l s frm til).2=true by rw [hfa])
    rw [if_pos rfl] at hbz
    refine Z1c ?_
    refine Zic ?_
    refine qf ?_
    refine Z12 ?_
    refine Zxf ?_
    refine Z4h ?_
    refine ⟨⟨1,frm⟩,by simp only;omega,⟨by simp only;omega,fun h=>(by cases h),fun j h=>(by have h':1=j+1:=h;obtain rfl:j=0:=(by omega);exact hbz)⟩,?_,.refl _ _⟩
    simp only [if_neg (show ¬ frm<0 by omega),hfa]
    exact Y6
   ·subst hc
    rw [if_neg (by decide)] at hbz
    refine Z12 ?_
    refine Zxf ?_
    refine Z4h ?_
    refine ⟨⟨1,-1⟩,by simp only;omega,⟨by simp only;omega,fun h=>(by cases h),fun j h=>(by have h':1=j+1:=h;obtain rfl:j=0:=(by omega);exact hbz)⟩,Y6,.refl _ _⟩
  ·have hBj:=hB2 j rfl
   have hjl:j<l.length:=by omega
   obtain ⟨h,hx,hxl⟩:=qo hjl
   have hr:=qh qg hx
   have hskip:=fun c=>qt0 hx hBj c
   have htake:=fun a c d=>qsb hx hBj a c d
   rw [show ((j+1:Nat):Int)-1=(j:Int) by omega]
   have hadd:IntKind.i64.wrap ((j:Int)+1)=((j+1+1:Nat):Int)-1:=by rw [show (j:Int)+1=((j+1:Nat):Int) by omega,show ((j+1+1:Nat):Int)-1=((j+1:Nat):Int) by omega];exact q1b (by omega) (by omega)
   clear hB2 hz
   refine Z1c ?_
   refine Z12 ?_
   refine Z1s ?_
   refine Z9 ?_
   refine qa rfl (fun hc=>?_) (fun hc=>?_)
   ·clear hc
    refine q1k ?_
    refine Zc7 ?_
    refine Zhh ?_
    refine Z4h ?_
    refine qn 46 (.bool (decide (h.to<frm)||(decide (0≤b)&&decide (b≤h.to)))) ?_ ?_
    ·refine Z30 ?_
     refine Zv ?_
     refine qb rfl rfl (fun hg3=>?_) (fun hg3=>?_)
     ·refine Z3k ?_
      refine Z7k ?_
      refine Zca ?_
      exact qf (Out.mk (by (refine congrArg AV.bool ?_;(clear hB hr hBj hskip htake hw hh;(simp_all;done)))) Yb)
     ·refine Z9k ?_
      refine Z28 ?_
      refine qb rfl rfl (fun hg6=>?_) (fun hg6=>?_)
      ·refine Zj ?_
       refine Z9k ?_
       refine Zch ?_
       exact Zxg
      ·refine Z7j ?_
       refine Zr ?_
       exact Zxg
    refine Z1 ?_
    refine qa rfl (fun hc=>?_) (fun hc=>?_)
    ·have hb2:=hskip (by simp only [Bool.or_eq_true,Bool.and_eq_true,decide_eq_true_eq] at hc;rcases hc with c | c;exact .inl c;exact .inr (.inl c))
     refine Z12 ?_
     refine Zxh ?_
     refine Za ?_
     exact ⟨⟨j+1+1,b⟩,by simp only;omega,⟨by simp only;omega,fun h=>(by cases h),fun i hi=>Ya⟩,Y6,.refl _ _⟩
    simp only [Bool.or_eq_false_iff,Bool.and_eq_false_iff,decide_eq_false_iff_not] at hc
    refine Za5 ?_
    refine Z4n ?_
    refine Z4b ?_
    refine Z30 ?_
    refine ao2 Y11 (V2.call (qms g use l s h.to til _ hl hw hu hh hr' hs) rfl) ?_
    refine Zsa ?_
    try dsimp only [put]
    generalize hfa:q2f g use l s h.to til=fa at *
    obtain ⟨fl,fb⟩:=fa
    simp only at hskip htake ⊢
    refine Z2x ?_
    refine qa rfl (fun hc=>?_) (fun hc=>?_)
    ·subst hc
     have h0:=qfn (show (q2f g use l s h.to til).2=true by rw [hfa])
     have hb2:=htake (by omega) (by omega) rfl
     refine Z1c ?_
     refine Zic ?_
     refine qf ?_
     refine Z12 ?_
     refine Zxh ?_
     refine Za ?_
     refine ⟨⟨j+1+1,h.to⟩,by simp only;omega,⟨by simp only;omega,fun h=>(by cases h),fun i hi=>Ya⟩,?_,.refl _ _⟩
     simp only [if_neg (show ¬ h.to<0 by omega),hfa]
     exact Y6
    ·subst hc
     have hb2:=hskip (.inr (.inr rfl))
     refine Z12 ?_
     refine Zxh ?_
     refine Za ?_
     exact ⟨⟨j+1+1,b⟩,by simp only;omega,⟨by simp only;omega,fun h=>(by cases h),fun i hi=>Ya⟩,Y6,.refl _ _⟩
   ·simp at hc<;>omega
 ·have hkl:k=l.length+1:=by simp at hc;omega
  subst hkl
  have hB3:=hB2 l.length rfl
  rw [qqf hr' hB3]
  clear hc
  refine Z1p ?_
  refine qa rfl (fun hc=>?_) (fun hc=>?_)
  ·rw [if_pos (show b<0 by simpa using hc)]
   refine Z7l ?_
   refine Z4k ?_
   refine Z1q ?_
   try dsimp only
   refine Z1d ?_
   refine q1c 13 rfl ?_
   exact Zq5
  have hnb:¬ b<0:=by simpa using hc
  rw [if_neg hnb]
  simp only [if_neg hnb]
  refine Z12 ?_
  refine Z4n ?_
  refine Z3 ?_
  refine Z4w ?_
  refine Ze ?_
  exact Zq4
theorem qrr {l:List Held} {h:Held} (e:(q1f l h).2=0):q1s (q1f l h).1=true:=by
 obtain ⟨h1,h2,h3,h4,h5,h6⟩:=q7m e
 rw [h6]
 exact (q87 h1 h2 h3 h4 h5).2
theorem qbz (n:Nat) (a b:List Held) {x y:Nat}:∀ o∈([⟨x,4,a.map qg⟩,⟨y,4,b.map qg⟩]:qj),∀ r∈o.rows,AV.bels n r=true:=by
 intro o ho r hr
 simp only [List.mem_cons,List.not_mem_nil,or_false] at ho
 rcases ho with rfl | rfl
 ·exact q1e _ _ r hr
 ·exact q1e _ _ r hr
set_option maxHeartbeats 0 in
theorem qor (g:List Thing) (use:List Int) (l:List Held) (ws:List Want) (now til policy depth:Int) (H:qj) (hw:HW l) (hg:g.length≤1000000) (htw:TW g) (hu:sok use=true) (hn:ws.length≤1000000) (hq:∀ w∈ws,w.spec.tag.size≤9223372036854775807) :
  AC Tryz.prog 158 [.pl (g.map qq),.pl (use.map eI),.pl (l.map qg),.pl (ws.map q5z),.int .i64 now,.int .i64 til,.int .i64 policy,.int .i64 depth] H
   (Ret (.tup [.pl ((q35 g use l ws now til policy depth).1.map qg),.pl ((q35 g use l ws now til policy depth).2.1.map qg),.int .i64 (q35 g use l ws now til policy depth).2.2]) H):=by
 refine AC.body (N:=136) [.tmp 16,.tmp 17,.tmp 18] Tryz.func158 rfl rfl rfl (Nat.le_of_ble_eq_true rfl) fun B hB=>?_
 refine Z4l ?_
 refine Z4k ?_
 refine Za ?_
 refine qn 50 (.bool (decide (policy<1)||decide (3<policy)||decide (depth<0)||decide (64<depth)||!q1s l)) ?_ ?_
 ·refine Z8 ?_
  refine Zgx ?_
  refine qb rfl rfl (fun hg2=>?_) (fun hg2=>?_)
  ·refine Zxi ?_
   refine Z3b ?_
   refine qb rfl rfl (fun hg6=>?_) (fun hg6=>?_)
   ·refine Zxi ?_
    refine Z3b ?_
    refine qb rfl rfl (fun hg10=>?_) (fun hg10=>?_)
    ·refine Z80 ?_
     refine Z3z ?_
     exact Zgw
    ·refine Z82 ?_
     refine qb rfl rfl (fun hg14=>?_) (fun hg14=>?_)
     ·refine Z7z ?_
      exact Zgv
     ·refine Z83 ?_
      refine qb rfl rfl (fun hg18=>?_) (fun hg18=>?_)
      ·exact Zgv
      ·refine Zc3 ?_
       refine Zmy ?_
       refine Z6c ?_
       exact Zgw
   ·refine Z62 ?_
    refine Z82 ?_
    refine qb rfl rfl (fun hg14=>?_) (fun hg14=>?_)
    ·refine Z7z ?_
     exact Zgv
    ·refine Z83 ?_
     refine qb rfl rfl (fun hg18=>?_) (fun hg18=>?_)
     ·exact Zgv
     ·refine Zc3 ?_
      refine Zmy ?_
      refine Z6c ?_
      exact Zgw
  ·refine Z62 ?_
   refine Z62 ?_
   refine Z82 ?_
   refine qb rfl rfl (fun hg14=>?_) (fun hg14=>?_)
   ·refine Z7z ?_
    exact Zgv
   ·refine Z83 ?_
    refine qb rfl rfl (fun hg18=>?_) (fun hg18=>?_)
    ·exact Zgv
    ·refine Zc3 ?_
     refine Zmy ?_
     refine Z6c ?_
     exact Zgw
 refine Z1 ?_
 refine qa rfl (fun hc=>?_) (fun hc=>?_)
 ·have he:q35 g use l ws now til policy depth=([],[],1):=by rw [q35,if_pos hc]
  rw [he]
  refine Z4l ?_
  refine Zsx ?_
  try dsimp only
  refine Z1d ?_
  refine q1c 16 rfl ?_
  refine q1c 17 rfl ?_
  exact Zq5
 have he:q35 g use l ws now til policy depth=q5q g use now til policy depth ⟨l,[],[]⟩ ws:=by rw [q35,if_neg Y16]
 rw [he]
 simp only [Bool.or_eq_false_iff,decide_eq_false_iff_not,Bool.not_eq_false'] at hc
 obtain ⟨⟨⟨⟨hp1,hp3⟩,hd0⟩,hd64⟩,hr'⟩:=hc
 have hdp:0≤qfc policy depth:=by unfold qfc;split;omega;split<;>omega
 clear he
 refine Z4l ?_
 refine Zau ?_
 refine Z1d ?_
 refine Zt6 ?_
 refine Zt7 ?_
 refine q1k ?_
 refine Z4 ?_
 refine Zt8 ?_
 refine Z1d ?_
 refine qm (G:=Nat×PickS) (fun q=>q.1≤ws.length∧HW q.2.l∧q1s q.2.l=true∧q.2.begun.length≤q.1∧q.2.kept.length≤q.1∧(q.2.kept.length:Int)≤qfc policy depth∧q5q g use now til policy depth ⟨l,[],[]⟩ ws=q5q g use now til policy depth q.2 (ws.drop q.1))
  (fun q=>[(0,.pl (g.map qq)),(1,.pl (use.map eI)),(2,.pl (q.2.l.map qg)),(3,.pl (ws.map q5z)),(4,.int .i64 now),(5,.int .i64 til),(6,.int .i64 policy),(7,.int .i64 depth),(19,.sl (Lid H.length 0) q.2.begun.length 0 q.2.begun.length q.2.begun.length),(20,.sl (Lid H.length 1) q.2.kept.length 0 q.2.kept.length q.2.kept.length),(21,.int .i64 (q.1:Int))])
  (fun q=>H++[⟨q.2.begun.length,4,q.2.begun.map qg⟩,⟨q.2.kept.length,4,q.2.kept.map qg⟩]) (fun q=>ws.length-q.1) (0,⟨l,[],[]⟩) ⟨Nat.zero_le _,hw,hr',Nat.le_refl _,Nat.le_refl _,by simpa using hdp,rfl⟩ Y6 (.inl rfl) ?_
 rintro ⟨k,⟨sl,sb,sk⟩⟩ ⟨hk,hsw,hsr,hsb,hsk,hskd,hI⟩
 simp only at hk hsw hsr hsb hsk hskd hI ⊢
 rw [hI]
 clear hI
 refine Z8z ?_
 refine qa rfl (fun hc=>?_) (fun hc=>?_)
 ·have hlt:k<ws.length:=by simpa using hc
  obtain ⟨w,hwk,hwl⟩:=qo hlt
  have hr:=qh q5z hwk
  have hwq:=hq w hwl
  have hd:ws.drop k=w :: ws.drop (k+1):=by rw [List.drop_eq_getElem_cons hlt,show ws[k]=w from (List.getElem?_eq_some_iff.1 hwk).2]
  rw [hd]
  have hfl:=q6u g use sl w.spec now til
  have hge:=@qwc g use sl w.spec now til
  clear hc
  refine Za5 ?_
  refine Z4n ?_
  refine Zc7 ?_
  refine Zhg ?_
  refine ao1 (by decide) (q9c (cs:=[_,_,_,_,_,_,_]) rfl hr rfl rfl) ?_
  refine Z30 ?_
  refine ao2 Y11 (V2.call (qla g use sl w.spec now til _ hg htw hu hsw hsr hwq) rfl) ?_
  refine Z8e ?_
  refine Zpg ?_
  refine Z8f ?_
  refine Z3 ?_
  refine Zs6 ?_
  refine Z8j ?_
  generalize hf:qt g use sl w.spec now til=f at *
  obtain ⟨t,th,ok⟩:=f
  simp only at hfl hge ⊢
  have hst:=q7w (policy:=policy) (depth:=depth) (s:=⟨sl,sb,sk⟩) (w:=w) (ws:=ws.drop (k+1)) (til:=til) (now:=now) hf
  rw [hst]
  clear hst hf hd hwk
  refine Z2w ?_
  refine Zta ?_
  try dsimp only
  refine Z1 ?_
  refine qa rfl (fun hc=>?_) (fun hc=>?_)
  ·rw [if_pos hc]
   refine Z2l ?_
   exact ⟨(k+1,⟨sl,sb,sk⟩),by simp only;omega,⟨by simp only;omega,hsw,hsr,by simp only;omega,by simp only;omega,hskd,rfl⟩,Y6,Fit.loc hB rfl Y1 (qbz _ _ _)⟩
  rw [if_neg Y16]
  have hge:=hge Y19
  clear hc
  have hth:th.length≤1000000:=by omega
  have hadd:(⟨w.id,th,t,q1p w.spec t⟩:Held).things.length≤1000000:=hth
  have hsw2:=hsw.add hadd
  have hsr2:=fun e=>qrr (l:=sl) (h:=⟨w.id,th,t,q1p w.spec t⟩) e
  by_cases hnow:t=now
  ·rw [if_neg (show ¬ (t≠now∧policy=1) from fun h=>h.1 hnow),if_neg (show ¬ (t≠now∧qfc policy depth≤(sk.length:Int)) from fun h=>h.1 hnow)]
   refine Z2z ?_
   refine qa rfl (fun hc=>?_) (fun hc=>?_)
   ·simp at hc;omega
   clear hc
   refine Zo7 ?_
   refine Zv1 ?_
   refine Zv2 ?_
   refine Zsp ?_
   refine Zxj ?_
   refine Zvh ?_
   refine Zxk ?_
   refine Zxl ?_
   refine Zxm ?_
   refine Zvi ?_
   refine Zxn ?_
   refine Zxo ?_
   refine Zxp ?_
   refine Zxq ?_
   refine Z1l ?_
   refine Zq0 ?_
   refine Z4o ?_
   refine Z4b ?_
   refine Zxr ?_
   refine Zpk ?_
   try dsimp only [put]
   generalize q1f sl ⟨w.id,th,t,q1p w.spec t⟩=r at *
   obtain ⟨rl,rc⟩:=r
   simp only at hsw2 hsr2 ⊢
   refine Zaz ?_
   refine qa rfl (fun hc=>?_) (fun hc=>?_)
   ·have hne:rc≠0:=by simpa using hc
    rw [if_pos hne]
    refine Z12 ?_
    refine Z4k ?_
    refine Zsx ?_
    try dsimp only
    refine Z1d ?_
    refine q1c 16 rfl ?_
    refine q1c 17 rfl ?_
    exact Zq5
   have hne:¬ rc≠0:=by simpa using hc
   have hsr2:=hsr2 (Classical.not_not.1 hne)
   rw [if_neg hne,if_pos hnow]
   clear hc
   refine Zic ?_
   refine qf ?_
   refine Z2z ?_
   refine qa rfl (fun hc=>?_) (fun hc=>?_)
   ·simp at hc;omega
   clear hc
   refine Zpn ?_
   refine Zte ?_
   refine Ztf ?_
   refine Zb5 ?_
   refine Zsz ?_
   rw [List.take_of_length_le (by simp)]
   refine Z2l ?_
   refine ⟨(k+1,⟨rl,sb++[⟨w.id,th,t,q1p w.spec t⟩],sk⟩),by simp only;omega,⟨by simp only;omega,hsw2,hsr2,by simp;omega,by simp only;omega,hskd,rfl⟩,by simp only [List.length_append];exact Y6,?_⟩
   simp only [List.length_append]
   exact Fit.loc hB Yu Y1 (qbz _ _ _)
  ·refine Z2z ?_
   refine qa rfl (fun hc=>?_) (fun hc=>?_)
   ·clear hc
    refine Z18 ?_
    refine qa rfl (fun hc=>?_) (fun hc=>?_)
    ·have hpol:policy=1:=by simpa using hc
     rw [if_pos (show t≠now∧policy=1 from ⟨hnow,hpol⟩)]
     refine Zp3 ?_
     refine Zb4 ?_
     refine Zb4 ?_
     refine Z4 ?_
     try dsimp only
     refine Z1d ?_
     refine Ztb ?_
     refine Ztc ?_
     exact Zq5
    have hpol:policy≠1:=by simpa using hc
    rw [if_neg (show ¬ (t≠now∧policy=1) from fun h=>hpol h.2)]
    clear hc
    have hdeep:qfc policy depth=if policy=2 then 1 else depth:=by
     unfold qfc
     split
     ·rfl
     ·rw [if_pos (by omega)]
    refine Z1 ?_
    refine qn 97 (.bool (decide (qfc policy depth≤(sk.length:Int)))) ?_ ?_
    ·refine Z7n ?_
     refine qb rfl rfl (fun hg2=>?_) (fun hg2=>?_)
     ·refine Zer ?_
      refine Ztd ?_
      refine Z46 ?_
      refine Z3b ?_
      refine qb rfl rfl (fun hg7=>?_) (fun hg7=>?_)
      ·refine Z3k ?_
       refine Z2g ?_
       refine Zca ?_
       exact Zxs
      ·refine Zcd ?_
       refine qb rfl rfl (fun hg10=>?_) (fun hg10=>?_)
       ·refine Zer ?_
        refine Ztd ?_
        refine Zh5 ?_
        exact Zxs
       ·refine Z2c ?_
        refine Z2d ?_
        refine Zr ?_
        exact qf (Out.mk (by (refine congrArg AV.bool ?_;(rw [hdeep];rw [hdeep] at hskd;clear hB hr hsw hsw2 hsr2 hq htw hdp hdeep;simp only [List.length_map] at *;by_cases e2:policy=2;(rw [if_pos e2] at *;(simp_all;omega));(rw [if_neg e2] at *;have e3:policy=3:=(by omega);(simp_all;done))))) Yb)
     ·refine Z3f ?_
      refine Zcd ?_
      refine qb rfl rfl (fun hg10=>?_) (fun hg10=>?_)
      ·refine Zer ?_
       refine Ztd ?_
       refine Zh5 ?_
       exact qf (Out.mk (by (refine congrArg AV.bool ?_;(rw [hdeep];rw [hdeep] at hskd;clear hB hr hsw hsw2 hsr2 hq htw hdp hdeep;simp only [List.length_map] at *;by_cases e2:policy=2;(rw [if_pos e2] at *;grind);(rw [if_neg e2] at *;have e3:policy=3:=(by omega);grind)))) Yb)
      ·refine Z2c ?_
       refine Z2d ?_
       refine Zr ?_
       exact Zxs
    refine Z1 ?_
    refine qa rfl (fun hc=>?_) (fun hc=>?_)
    ·rw [if_pos (show t≠now∧qfc policy depth≤(sk.length:Int) from ⟨hnow,of_decide_eq_true hc⟩)]
     refine Z2l ?_
     exact ⟨(k+1,⟨sl,sb,sk⟩),by simp only;omega,⟨by simp only;omega,hsw,hsr,by simp only;omega,by simp only;omega,hskd,rfl⟩,Y6,Fit.loc hB rfl Y1 (qbz _ _ _)⟩
    have hdl:¬ qfc policy depth≤(sk.length:Int):=of_decide_eq_false hc
    rw [if_neg (show ¬ (t≠now∧qfc policy depth≤(sk.length:Int)) from fun h=>hdl h.2)]
    clear hc
    refine Zo7 ?_
    refine Zv1 ?_
    refine Zv2 ?_
    refine Zsp ?_
    refine Zxj ?_
    refine Zvh ?_
    refine Zxk ?_
    refine Zxl ?_
    refine Zxm ?_
    refine Zvi ?_
    refine Zxn ?_
    refine Zxo ?_
    refine Zxp ?_
    refine Zxq ?_
    refine Z1l ?_
    refine Zq0 ?_
    refine Z4o ?_
    refine Z4b ?_
    refine Zxr ?_
    refine Zpk ?_
    try dsimp only [put]
    generalize q1f sl ⟨w.id,th,t,q1p w.spec t⟩=r at *
    obtain ⟨rl,rc⟩:=r
    simp only at hsw2 hsr2 ⊢
    refine Zaz ?_
    refine qa rfl (fun hc=>?_) (fun hc=>?_)
    ·have hne:rc≠0:=by simpa using hc
     rw [if_pos hne]
     refine Z12 ?_
     refine Z4k ?_
     refine Zsx ?_
     try dsimp only
     refine Z1d ?_
     refine q1c 16 rfl ?_
     refine q1c 17 rfl ?_
     exact Zq5
    have hne:¬ rc≠0:=by simpa using hc
    have hsr2:=hsr2 (Classical.not_not.1 hne)
    rw [if_neg hne,if_neg hnow]
    clear hc
    refine Zic ?_
    refine qf ?_
    refine Z2z ?_
    refine qa rfl (fun hc=>?_) (fun hc=>?_)
    ·clear hc
     refine Zpn ?_
     refine Zte ?_
     refine Ztf ?_
     refine Zb5 ?_
     refine Zss ?_
     rw [List.take_of_length_le (by simp)]
     refine Z2l ?_
     refine ⟨(k+1,⟨rl,sb,sk++[⟨w.id,th,t,q1p w.spec t⟩]⟩),by simp only;omega,⟨by simp only;omega,hsw2,hsr2,by simp only;omega,by simp;omega,by simp only [List.length_append,List.length_singleton];omega,rfl⟩,by simp only [List.length_append];exact Y6,?_⟩
     simp only [List.length_append]
     exact Fit.loc hB Yu Y1 (qbz _ _ _)
    ·simp at hc;omega
   ·simp at hc;omega
 ·have:k=ws.length:=by simp at hc;omega
  subst this
  rw [List.drop_length]
  clear hc
  refine Zp3 ?_
  refine Zb4 ?_
  refine Zb4 ?_
  refine Z4 ?_
  refine Z1d ?_
  refine Ztb ?_
  refine Ztc ?_
  exact Zq5
end Go.Av
namespace Go.Av
theorem qnl {l:List Job} {id what at_:Int} (e:(q1n l id what at_).2≠0):(q1n l id what at_).1=l:=by
 unfold q1n at e ⊢
 split at e
 ·rename_i h;rw [if_pos h]
 rename_i h
 rw [if_neg h]
 split at e
 ·rename_i h2;rw [if_pos h2]
 rename_i h2
 rw [if_neg h2]
 simp only [Bool.not_eq_true',Bool.not_eq_false] at h2
 have hk:q11 l id<l.length:=by simp only [q29,Bool.and_eq_true,decide_eq_true_eq] at h2;exact h2.1
 have hg:l[q11 l id]?=some l[q11 l id]:=List.getElem?_eq_getElem hk
 have:(jdo (q1r l (q11 l id)) what at_).1=q1r l (q11 l id):=by
  rcases qdl (q1r l (q11 l id)) what at_ with ⟨_,e2⟩ | ⟨s,_,_,e2⟩
  ·exact e2
  ·rw [e2] at e;exact absurd rfl e
 show l.set (q11 l id) (jdo (q1r l (q11 l id)) what at_).1=l
 rw [this,q12 hg]
 apply List.ext_getElem?
 intro i
 by_cases e3:q11 l id=i
 ·subst e3;rw [List.getElem?_set_self hk,hg]
 ·rw [List.getElem?_set_ne e3]
theorem qm4 {w:Inst} (hr:q24 w.jobs=true) (id what at_:Int):(wdo w id what at_).1.jobs=(q1n w.jobs id what at_).1:=by
 rcases q3h hr id what at_ with ⟨e,e2⟩ | ⟨j,hj,hid,s,hb,hs,e1,e⟩
 ·rw [e]
  have:(q1n w.jobs id what at_).2≠0:=by
   intro h0
   unfold wdo at e2
   rw [if_neg (by rw [h0];simp)] at e2
   split at e2<;>exact e2 rfl
  rw [qnl this]
 ·rw [e,e1]
def qu2 (i:Inst) (id what at_:Int):Inst:={ i with jobs:=(q1n i.jobs id what at_).1,table:=(q1a i.table id).1 }
theorem qli {w:Inst} (h:IR w) {id at_:Int} (hb:∀ j∈w.jobs,j.id=id→j.state=2→qdv j 5 at_=false):qu2 w id 5 at_=(wdo w id 5 at_).1:=by
 have hjobs:=qm4 h.jobs id 5 at_
 unfold qu2
 rw [← hjobs]
 rcases q3h h.jobs id 5 at_ with ⟨e,e2⟩ | ⟨j,hj,hid,s,hb',hs,e1,e⟩
 ·rw [e]
  have hno:∀ x∈w.table,x.id≠id:=fun x hx he=>by
   obtain ⟨j,hj,e3,s3,_⟩:=h.of hx
   have hd:jdo j 5 at_=(q3f j 4 at_,0):=by
    unfold jdo
    rw [hb j hj (by rw [e3,he]) s3,s3];rfl
   have h1:=(q6h h.jobs hj 5 at_).1
   rw [e3,he,hd] at h1
   unfold wdo at e2
   rw [if_neg (by rw [h1];simp)] at e2
   split at e2<;>exact e2 rfl
  rw [q6s h.table hno]
 ·rw [e]
  have:s=4:=by
   have h5:=q82 hs
   unfold q3w at hs
   repeat' split at hs
   all_goals first | omega | (injection hs with hs;omega) | cases hs
  subst this
  rfl
theorem qn1 {w:Inst} (h:IR w) (id at_:Int) {what:Int} (hw:what=7∨what=3):(wdo w id what at_).1 = { w with jobs:=(q1n w.jobs id what at_).1 }:=by
 have hjobs:=qm4 h.jobs id what at_
 rw [← hjobs]
 rcases q3h h.jobs id what at_ with ⟨e,e2⟩ | ⟨j,hj,hid,s,hb',hs,e1,e⟩
 ·rw [e]
 ·rw [e]
  have hst:j.state<2:=by
   unfold q3w at hs
   repeat' split at hs
   all_goals first | omega | cases hs
  have hno:∀ x∈w.table,x.id≠id:=fun x hx he=>by
   obtain ⟨j',hj',e3,s3⟩:=h.held x hx
   have:=q64 h hj hj' (by rw [e3,he,hid])
   subst this
   omega
  rw [q6s h.table hno]
  simp
theorem qtb {l:List Job} (hr:q24 l=true) {k:Nat} {j:Job} (hj:l[k]?=some j):(q3n l).contains j.id=q3x l k:=by
 rw [q8t l hr,Bool.eq_iff_iff,List.contains_iff_mem]
 unfold q3k
 rw [List.take_length,List.mem_map]
 constructor
 ·rintro ⟨⟨x,i⟩,hx,e⟩
  rw [List.mem_filter] at hx
  obtain ⟨hx1,hx2⟩:=hx
  have hxi:=List.mem_zipIdx_iff_getElem?.1 hx1
  simp only at hxi hx2 e
  have hp:=q28 hr
  have h1:=q3y (f:=Job.id) hp hxi
  have h2:=q3y (f:=Job.id) hp hj
  rw [e,h2] at h1
  subst h1
  exact hx2
 ·intro hl
  exact ⟨(j,k),List.mem_filter.2 ⟨List.mem_zipIdx_iff_getElem?.2 hj,hl⟩,rfl⟩
theorem qov {a b:List Int} (ha:sok a=true) (hb:sok b=true):q2u a b=decide ((q8c a b).length=0):=by
 rw [Bool.eq_iff_iff,decide_eq_true_eq,List.length_eq_zero_iff,spart_iff]
 have:q8c a b=[]↔∀ n,(inl a n&&!inl b n)=false:=qph (op:=fun x y=>x&&!y) ha hb rfl
 rw [this]
 constructor
 ·rintro ⟨_,_,h⟩ n
  cases e:inl a n with
  | false=>rfl
  | true=>rw [h n e];rfl
 ·intro h
  refine ⟨ha,hb,fun n hn=>?_⟩
  have:=h n
  rw [hn,Bool.true_and] at this
  simpa using this
theorem qw3 {w:Inst} (h:IR w) (k:Nat):IE w (brk w k):=by
 unfold brk
 refine q96 (P:=IE w) _ _ ⟨h,Ev.refl w⟩ fun v x _ hv=>?_
 split
 ·exact hv
 ·exact hv.wdo (by decide)
theorem qtn {w:Inst} (h:IR w) (hl:sok w.lease=true) {k:Nat} {x:Held} (hx:w.table[k]?=some x):brk w (k+1)=if 0<(q8c x.things (q4t w.lease (q21 w.graph w.health 1))).length then qu2 (brk w k) x.id 5 w.now else brk w k:=by
 have hb:=qw3 h k
 have hm:=(held_iff.1 h.table).2.1 x (List.mem_of_getElem? hx)
 rw [qn0 hx,qov (q5r hm) (q5l _ _)]
 have hnow:(brk w k).now=w.now:=hb.ev.now
 by_cases e:(q8c x.things (q4t w.lease (q21 w.graph w.health 1))).length=0
 ·rw [if_pos (by rw [e];rfl),if_neg (by omega)]
 ·rw [if_neg (by simpa using e),if_pos (by omega),hnow]
  rw [qli hb.ir fun j hj _ _=>by rw [← hnow];exact ql7 hb.ir hj (by decide) (by decide)]
theorem qw8 {w:Inst} (h:IR w) (k:Nat):IE w (rfs w k):=by
 unfold rfs
 refine q96 (P:=IE w) _ _ ⟨h,Ev.refl w⟩ fun v x _ hv=>?_
 split
 ·exact hv.wdo (by decide)
 ·exact hv
theorem quv {w:Inst} (h:IR w) {k:Nat} {j:Job} (hj:w.jobs[k]?=some j):rfs w (k+1)=if (decide (j.state<2)&&(q3x w.jobs k||!q8o w.graph j.spec))=true then { rfs w k with jobs:=(q1n (rfs w k).jobs j.id 7 w.now).1 } else rfs w k:=by
 have hb:=qw8 h k
 rw [qm7 hj,qtb h.jobs hj,hb.ev.graph,show decide (j.state≤1)=decide (j.state<2) from decide_eq_decide.2 (by omega),qn1 hb.ir _ _ (.inl rfl)]
 have hnow:(rfs w k).now=w.now:=hb.ev.now
 simp only [hnow]
def bgm (w:Inst) (k:Nat):Inst:=((q2v w).take k).foldl qnz w
theorem qxd (w:Inst):bgm w (q2v w).length=q41 w:=by unfold bgm;rw [List.take_length];rfl
theorem qln {w:Inst} {k:Nat} {x:Held} (hx:(q2v w)[k]?=some x):bgm w (k+1)=qnz (bgm w k) x:=by
 unfold bgm
 rw [List.take_add_one,hx,Option.toList_some,List.foldl_append];rfl
theorem qwl {w:Inst} (h:IR w) (x:Held):qnz w x = { w with jobs:=(q1n w.jobs x.id 3 w.now).1,table:=(q1f w.table x).1 }:=by
 unfold qnz
 rw [qn1 h _ _ (.inr rfl)]
theorem qvj {w:Inst} (h:GJ w) (hl:∀ x∈w.table,w.now<x.to) (hs:istatic w=true):∃ l,q1s l=true∧∀ k,k≤(q2v w).length→Todo w l (q31 w) ((q2v w).drop k) (bgm w k):=by
 have hu:=q7d hs
 obtain ⟨l,pk⟩:=qf2 (g:=w.graph) (use:=q31 w) (l0:=w.table) (ws:=q2q w) (now:=w.now) (til:=w.til) (policy:=w.policy) (depth:=w.depth) (q5l _ _) h.ir.table
 have t0:Todo w l (q31 w) (q2v w) w:=⟨h,Ev.refl w,hl,fun x hx=>.inl hx,pk.old,pk.isin,pk.frm,pk.part,pk.dif,pk.new,fun x hx=>by
  obtain ⟨wt,hw,e,hto⟩:=pk.of x hx
  obtain ⟨j,hj,j1,j2,j3,j4⟩:=qd0 h.ir hw
  exact ⟨j,hj,j1.trans e,j2,by rw [hto,j3],j4⟩⟩
 refine ⟨l,pk.r,fun k=>?_⟩
 induction k with
 | zero=>intro _;exact t0
 | succ k ih =>
  intro hk
  have h1:=ih (by omega)
  have hx:(q2v w)[k]?=some ((q2v w)[k]'(by omega)):=List.getElem?_eq_getElem (by omega)
  rw [List.drop_eq_getElem_cons (by omega)] at h1
  rw [qln hx]
  exact h1.step pk.r (q7k (q4k hs) hu)
theorem qwq {w:Inst} (hr:q24 w.jobs=true) {id:Int} (hid:id∈qy w.jobs):∃ j∈w.jobs,j.id=id∧w.jobs[q11 w.jobs id]?=some j∧jAt w.jobs id=((q11 w.jobs id:Nat):Int)∧(⟨id,(q36 w.jobs id).1.spec⟩:Want)=⟨id,j.spec⟩:=by
 unfold qy at hid
 rw [hr,if_pos rfl] at hid
 obtain ⟨j,hj,rfl⟩:=List.mem_map.1 hid
 have hj:=byPrio_mem.1 hj
 rw [q5k,List.mem_filter] at hj
 have hs:=q28 hr
 refine ⟨j,hj.1,rfl,q6o hs hj.1,?_,by rw [qad hr hj.1]⟩
 rw [q6d hs,(q2r hs).2 ⟨j,hj.1,rfl⟩,if_pos rfl]
end Go.Av
namespace Go.Av
open Go.Proofs
theorem QT.ev {w v:Inst} (h:QT w.jobs) (e:Ev w v):QT v.jobs:=fun b hb=>by
 obtain ⟨k,hk⟩:=List.mem_iff_getElem?.1 hb
 have hv:=(List.getElem?_eq_some_iff.1 hk).1
 have hw:k<w.jobs.length:=by rw [← e.len];exact hv
 rw [(e.jobs k _ b (List.getElem?_eq_getElem hw) hk).spec]
 exact h _ (List.getElem_mem hw)
theorem TagsW.ev {w v:Inst} (h:TagsW w) (e:Ev w v):TagsW v:=⟨by rw [e.graph];exact h.graph,h.jobs.ev e⟩
theorem qi4 (n:Nat) (a:Inst) {r:List AV} (hr:AV.bels n r=true):∀ o∈([⟨0,9,[q19 a]⟩,⟨0,9,[r]⟩]:qj),∀ r∈o.rows,AV.bels n r=true:=by
 intro o ho r' hr'
 rcases List.mem_cons.1 ho with rfl | ho
 ·exact q4l _ _ r' hr'
 ·simp only [List.mem_singleton] at ho;subst ho;simp only [List.mem_singleton] at hr';subst hr';exact hr
theorem qhz (n:Nat) (l:List Want):∀ r∈l.map q5z,AV.bels n r=true:=q83 (e:=q5z) (fun _=>rfl) l
theorem GI.istatic {w v:Inst} (h:GI w v) (hs:istatic w=true):istatic v=true:=by
 have e:=h.ev
 unfold Go.Av.istatic at hs ⊢
 rw [e.graph,e.health,e.lease,e.til,e.now,e.policy,e.depth];exact hs
abbrev qrb:List AV:=[.nsl,.nsl,.nsl,.int .i64 0,.nsl,.nsl,.int .i64 0,.int .i64 0,.int .i64 0]
set_option maxHeartbeats 0 in
theorem qay (w:Inst) (H:qj) (hg:GS w) (hri:RI w) (htg:TagsW w):AC Tryz.prog 114 [.agg (q19 w)] H (Ret (.agg (q19 (q3q w))) H):=by
 have n1:=hri.iw.graph
 have n2:=hri.iw.health
 have n3:=hri.iw.lease
 have n5:=q9g w.graph w.health 1
 have hsl:sok w.lease=true:=(ithings_iff.1 (q4k hg.st)).1
 have hgood:(q4t w.lease (q21 w.graph w.health 1)).length≤256:=q5n _ _ _
 have hnx:=@qtn w hg.gj.ir hsl
 have hbie:=qw3 hg.gj.ir
 have hbri:=fun k=>hri.brk k
 have hgi:=GI.broken hg.gj hg.lt
 refine AC.body (N:=177) [.cell 2 27] Tryz.func114 rfl rfl rfl (Nat.le_of_ble_eq_true rfl) fun B hB=>?_
 refine Zpp ?_
 refine qf ?_
 refine Zhv ?_
 refine Zo7 ?_
 refine Z6i ?_
 refine Zmz ?_
 refine Zux ?_
 refine Zo9 ?_
 refine Zuy ?_
 refine q48 6 rfl Y17 (by decide) (fun _=>V2.call (qcr w.graph w.health 1 _ n1 n2 htg.graph) rfl) ?_
 refine q48 7 rfl Y17 (by decide) (fun _=>V2.call (q4w w.lease (q21 w.graph w.health 1) 1 (by omega) (by omega) _) rfl) ?_
 refine Zsc ?_
 refine Zo0 ?_
 refine Z53 ?_
 refine Z4w ?_
 refine Z55 ?_
 refine Z1e ?_
 refine qm (G:=Nat) (fun k=>k≤w.table.length) (fun k=>[(1,.pt (Lid H.length 0) 0 0 0),(2,.pt (Lid H.length 1) 0 0 0),(3,.pl ((q4t w.lease (q21 w.graph w.health 1)).map eI)),(4,.pl (w.table.map qg)),(5,.int .i64 (k:Int))]) (fun k=>H++[⟨0,9,[q19 (brk w k)]⟩,⟨0,9,[qrb]⟩]) (fun k=>w.table.length-k) 0 (Nat.zero_le _) Y6 (.inl rfl) ?_
 intro k hk
 refine Z8z ?_
 refine qa rfl (fun hc=>?_) (fun hc=>?_)
 ·have hlt:k<w.table.length:=by simpa using hc
  obtain ⟨x,hx,hxl⟩:=qo hlt
  have hr:=qh qg hx
  have hxw:=hri.iw.table.2 x hxl
  have hst:=hnx hx
  have hiw:=(hbri k).iw
  have hqt:=htg.jobs.ev (hbie k).ev
  have hnow:(brk w k).now=w.now:=(hbie k).ev.now
  rw [← hnow] at hst
  have hlw:=hri.iw.table.1
  clear hc hnx hbie hbri
  refine Zbe ?_
  refine Zhg ?_
  refine Zlm ?_
  refine Z4n ?_
  refine ao2 Y11 (V2.call (q4w x.things (q4t w.lease (q21 w.graph w.health 1)) 2 (by omega) (by omega) _) rfl) ?_
  refine Z54 ?_
  refine Z2p ?_
  refine Zib ?_
  refine Z1 ?_
  refine qa rfl (fun hc=>?_) (fun hc=>?_)
  ·rw [if_pos (show 0<(q8c x.things (q4t w.lease (q21 w.graph w.health 1))).length by simp only [List.length_map,decide_eq_true_eq] at hc;exact Int.ofNat_lt.1 hc)] at hst
   clear hc
   refine Zxt ?_
   refine Z6g ?_
   refine Zfj ?_
   refine Zv6 ?_
   refine Zxu ?_
   refine Zxv ?_
   refine Zxw ?_
   refine Zps ?_
   refine Zv4 ?_
   refine q48 8 rfl Y17 (by decide) (fun _=>V2.call (qiq (brk w k) x.id 5 (brk w k).now _ hiw hqt) rfl) ?_
   refine Zul ?_
   refine Zf2 ?_
   refine Z2l ?_
   exact ⟨k+1,by omega,by omega,Y6,by rw [hst];exact .refl _ _⟩
  ·rw [if_neg (show ¬ 0<(q8c x.things (q4t w.lease (q21 w.graph w.health 1))).length by simp only [List.length_map,decide_eq_false_iff_not] at hc;intro h;exact hc (Int.ofNat_lt.2 h))] at hst
   clear hc
   refine Z2l ?_
   exact ⟨k+1,by omega,by omega,Y6,by rw [hst];exact .refl _ _⟩
 have:k=w.table.length:=by simp at hc;omega
 subst this
 rw [qji]
 clear hc hnx hbie hbri hgood n1 n2 n3 n5 hk
 have hst1:=hgi.istatic hg.st
 have hri1:=hri.broken
 have htg1:=htg.ev hgi.ev
 have hgj1:=hgi.gj
 have hlt1:=hgi.lt
 unfold q3q
 generalize q2w w=w1 at *
 have hnx:=@quv w1 hgj1.ir
 have hfie:=qw8 hgj1.ir
 have hfri:=fun k=>hri1.rfs k
 have hgi2:=GI.refuse hgj1 hlt1
 refine Z53 ?_
 refine Z4w ?_
 refine Z55 ?_
 refine Z1e ?_
 refine qm (G:=Nat) (fun k=>k≤w1.jobs.length) (fun k=>[(1,.pt (Lid H.length 0) 0 0 0),(2,.pt (Lid H.length 1) 0 0 0),(6,.pl (w1.jobs.map q1d)),(7,.int .i64 (k:Int))]) (fun k=>H++[⟨0,9,[q19 (rfs w1 k)]⟩,⟨0,9,[qrb]⟩]) (fun k=>w1.jobs.length-k) 0 (Nat.zero_le _) Y6 (.inl rfl) ?_
 intro k hk
 refine Z8z ?_
 refine qa rfl (fun hc=>?_) (fun hc=>?_)
 ·have hlt:k<w1.jobs.length:=by simpa using hc
  obtain ⟨x,hx,hxl⟩:=qo hlt
  have hr:=qh q1d hx
  have hst:=hnx hx
  have hiw:=(hfri k).iw
  have hqt:=htg1.jobs.ev (hfie k).ev
  have hnow:(rfs w1 k).now=w1.now:=(hfie k).ev.now
  have hgr:(rfs w1 k).graph=w1.graph:=(hfie k).ev.graph
  have hlw:=hri1.iw.jobs
  have hil:=qj5 w1.jobs hgj1.ir.jobs k x hx
  have hco:=qjs (rfs w1 k).graph x.spec
  have hxq:=htg1.jobs x hxl
  have tg3:=htg1.graph
  have lg3:=hri1.iw.graph
  rw [← hnow,← hgr] at hst
  rw [← hgr] at tg3 lg3
  clear hc hnx hfie hfri
  refine Z1 ?_
  refine q1l 81 (.bool (decide (x.state<2)&&(q3x w1.jobs k||!q8o (rfs w1 k).graph x.spec))) ?_ ?_
  ·refine Zaa ?_
   refine Zv1 ?_
   refine Z6m ?_
   refine Z6n ?_
   refine qp (g:=63) rfl (fun hg6=>?_) (fun hg6=>?_)
   ·refine q1h (g:=63) 7 rfl Y17 (by decide) rfl rfl (fun _=>qd (v:=.pl _) rfl) ?_
    refine q1h (g:=63) 8 rfl Y17 (by decide) rfl rfl (fun _=>qd (v:=.pl _) rfl) ?_
    refine q1h (g:=63) 9 rfl Y17 (by decide) rfl rfl (fun _=>qd (v:=.int _ _) rfl) ?_
    refine q1j (g:=63) 10 rfl Y17 (by decide) rfl rfl (fun G=>qe rfl rfl hr rfl) ?_
    refine q1j (g:=63) 11 rfl Y17 (by decide) rfl rfl (fun G=>q3d rfl hr rfl) ?_
    refine q7c (g:=63) 12 rfl Y17 (by decide) rfl rfl (fun _=>V2.call (hil _) rfl) ?_
    refine q1h (g:=63) 13 rfl Y17 (by decide) rfl rfl (fun _=>qd (v:=.bool _) rfl) ?_
    refine qp (g:=70) rfl (fun hg13=>?_) (fun hg13=>?_)
    ·refine qr (g:=70) 14 rfl Y17 (by decide) rfl rfl rfl ?_
     refine qr (g:=70) 15 rfl Y17 (by decide) rfl rfl rfl ?_
     refine qr (g:=70) 16 rfl Y17 (by decide) rfl rfl rfl ?_
     refine qr (g:=70) 17 rfl Y17 (by decide) rfl rfl rfl ?_
     refine qr (g:=70) 18 rfl Y17 (by decide) rfl rfl rfl ?_
     refine qr (g:=70) 19 rfl Y17 (by decide) rfl rfl rfl ?_
     refine qr (g:=70) 20 rfl Y17 (by decide) rfl rfl rfl ?_
     refine qr (g:=70) 21 rfl Y17 (by decide) rfl rfl rfl ?_
     refine qr (g:=70) 22 rfl Y17 (by decide) rfl rfl rfl ?_
     refine q1h (g:=63) 23 rfl Y17 (by decide) rfl rfl (fun _=>q16 (v:=.bool _) rfl rfl) ?_
     refine Zg6 ?_
     exact Zxx
    ·refine q1j (g:=70) 14 rfl Y17 (by decide) rfl rfl (fun G=>qc rfl (lk rfl rfl) rfl (by decide)) ?_
     refine q1j (g:=70) 15 rfl Y17 (by decide) rfl rfl (fun G=>qi (v:=.pl _) rfl (lk rfl rfl) rfl rfl rfl) ?_
     refine q1h (g:=70) 16 rfl Y17 (by decide) rfl rfl (fun _=>qd (v:=.pl _) rfl) ?_
     refine q1h (g:=70) 17 rfl Y17 (by decide) rfl rfl (fun _=>qd (v:=.int _ _) rfl) ?_
     refine q1j (g:=70) 18 rfl Y17 (by decide) rfl rfl (fun G=>qe rfl rfl hr rfl) ?_
     refine q1j (g:=70) 19 rfl Y17 (by decide) rfl rfl (fun G=>qx rfl (by decide)) ?_
     refine q1j (g:=70) 20 rfl Y17 (by decide) rfl rfl (fun G=>q9c (cs:=[_,_,_,_,_,_,_]) rfl hr rfl rfl) ?_
     refine q7c (g:=70) 21 rfl Y17 (by decide) rfl rfl (fun _=>V2.call (hco _ lg3 tg3 hxq) rfl) ?_
     refine q1h (g:=70) 22 rfl Y17 (by decide) rfl rfl (fun _=>q8e rfl) ?_
     refine q1h (g:=63) 23 rfl Y17 (by decide) rfl rfl (fun _=>q17 (v:=.bool _) rfl rfl) ?_
     refine Zg6 ?_
     exact Zxx
   ·refine qr (g:=63) 7 rfl Y17 (by decide) rfl rfl rfl ?_
    refine qr (g:=63) 8 rfl Y17 (by decide) rfl rfl rfl ?_
    refine qr (g:=63) 9 rfl Y17 (by decide) rfl rfl rfl ?_
    refine qr (g:=63) 10 rfl Y17 (by decide) rfl rfl rfl ?_
    refine qr (g:=63) 11 rfl Y17 (by decide) rfl rfl rfl ?_
    refine qr (g:=63) 12 rfl Y17 (by decide) rfl rfl rfl ?_
    refine qr (g:=63) 13 rfl Y17 (by decide) rfl rfl rfl ?_
    refine q2b (g:=70) 14 rfl Y17 (by decide) rfl rfl ?_
    refine q2b (g:=70) 15 rfl Y17 (by decide) rfl rfl ?_
    refine q2b (g:=70) 16 rfl Y17 (by decide) rfl rfl ?_
    refine q2b (g:=70) 17 rfl Y17 (by decide) rfl rfl ?_
    refine q2b (g:=70) 18 rfl Y17 (by decide) rfl rfl ?_
    refine q2b (g:=70) 19 rfl Y17 (by decide) rfl rfl ?_
    refine q2b (g:=70) 20 rfl Y17 (by decide) rfl rfl ?_
    refine q2b (g:=70) 21 rfl Y17 (by decide) rfl rfl ?_
    refine q2b (g:=70) 22 rfl Y17 (by decide) rfl rfl ?_
    refine qr (g:=63) 23 rfl Y17 (by decide) rfl rfl rfl ?_
    refine Zgi ?_
    exact q1i Y17 Yv (Out.mk (by (refine congrArg AV.bool ?_;(clear hB hr hst hil hco;(simp_all;omega)))) Yb)
  refine Z1 ?_
  refine qa rfl (fun hc=>?_) (fun hc=>?_)
  ·rw [if_pos hc] at hst
   clear hc
   refine Ztq ?_
   refine Z6g ?_
   refine Z6i ?_
   refine Zt3 ?_
   refine Zez ?_
   refine Zxy ?_
   refine Zxz ?_
   refine Zy0 ?_
   refine Zf0 ?_
   refine Zf1 ?_
   refine q48 9 rfl Y17 (by decide) (fun _=>V2.call (qbr (rfs w1 k).jobs x.id 7 (rfs w1 k).now _ hiw.jobs hqt) rfl) ?_
   refine Zy1 ?_
   refine Zy2 ?_
   refine Zy3 ?_
   refine Zpu ?_
   refine Zy4 ?_
   refine Zf2 ?_
   refine Z2l ?_
   exact ⟨k+1,by omega,by omega,Y6,by rw [hst];exact .refl _ _⟩
  ·rw [if_neg Y16] at hst
   clear hc
   refine Z2l ?_
   exact ⟨k+1,by omega,by omega,Y6,by rw [hst];exact .refl _ _⟩
 have:k=w1.jobs.length:=by simp at hc;omega
 subst this
 rw [ql0]
 clear hc hnx hfie hfri hk
 have hst2:=hgi2.istatic hst1
 have hri2:=hri1.refuse
 have htg2:=htg1.ev hgi2.ev
 have hgj2:=hgi2.gj
 have hlt2:=hgi2.lt
 generalize q3r w1=w2 at *
 clear hgi hgi2 hri1 htg1 hgj1 hlt1 hst1
 have hjl:=hri2.iw.jobs
 have hwl:=qb8 w2.jobs
 have hww:q2q w2=(qy w2.jobs).map fun id=>(⟨id,(q36 w2.jobs id).1.spec⟩:Want):=rfl
 have hwn:(q2q w2).length≤1000000:=by rw [hww,List.length_map];omega
 have hwat:=fun id=>@qwq w2 hgj2.ir.jobs id
 have hwq:∀ v∈q2q w2,v.spec.tag.size≤9223372036854775807:=fun v hv=>by
  obtain ⟨j,hj,_,_,e,_⟩:=qd0 hgj2.ir hv
  rw [e];exact htg2.jobs j hj
 refine Z4m ?_
 refine Z53 ?_
 refine ao2 Y11 (V2.call (qku w2.jobs _ hjl htg2.jobs) rfl) ?_
 refine Z4w ?_
 refine Zib ?_
 refine Z1e ?_
 refine q22 (k:=2) 8 8 rfl (by decide) rfl ?_
 refine qm (G:=Nat) (fun k=>k≤(qy w2.jobs).length) (fun k=>[(1,.pt (Lid H.length 0) 0 0 0),(2,.pt (Lid H.length 1) 0 0 0),(8,.sl (Lid H.length 2) ((q2q w2).take k).length 0 ((q2q w2).take k).length ((q2q w2).take k).length),(9,.pl ((qy w2.jobs).map eI)),(10,.int .i64 (k:Int))]) (fun k=>H++[⟨0,9,[q19 w2]⟩,⟨0,9,[qrb]⟩,⟨((q2q w2).take k).length,8,((q2q w2).take k).map q5z⟩]) (fun k=>(qy w2.jobs).length-k) 0 (Nat.zero_le _) Y6 (.inl rfl) ?_
 intro k hk
 refine Z8z ?_
 refine qa rfl (fun hc=>?_) (fun hc=>?_)
 ·have hlt:k<(qy w2.jobs).length:=by simpa using hc
  obtain ⟨x,hx,hxl⟩:=qo hlt
  have hr:=qh eI hx
  obtain ⟨j,hj,hjid,hpos,hat,hwv⟩:=hwat x hxl
  have hrj:=qh q1d hpos
  have hcat:∀ H,AC Tryz.prog 112 [.pl (w2.jobs.map q1d),.int .i64 x] H (Ret (.int .i64 ((q11 w2.jobs x:Nat):Int)) H):=fun H=>by
   have:=q7x w2.jobs x H hjl
   rwa [hat] at this
  have hst:(q2q w2).take (k+1)=(q2q w2).take k++[⟨x,j.spec⟩]:=by
   rw [List.take_add_one,hww,List.getElem?_map,hx,Option.map_some,Option.toList_some,hwv]
  have hle:((q2q w2).take k).length≤1000000:=by rw [List.length_take];omega
  generalize (q2q w2).take k=acc at *
  clear hc hwat hat
  refine Zo7 ?_
  refine Zew ?_
  refine Zv6 ?_
  refine Z6k ?_
  refine Z6l ?_
  refine Zoa ?_
  refine Zob ?_
  refine Zf0 ?_
  refine aqp 8 rfl Y17 (by decide) (fun G=>qi (v:=.pl _) rfl (lk rfl rfl) rfl rfl rfl) ?_
  refine aq0 9 rfl Y17 (by decide) (fun _=>qd (v:=.pl _) rfl) ?_
  refine Zu5 ?_
  refine aqp 11 rfl Y17 (by decide) (fun G=>qe rfl rfl hr rfl) ?_
  refine aqp 12 rfl Y17 (by decide) (fun G=>qz (v:=.int _ _) rfl hr rfl) ?_
  refine q48 13 rfl Y17 (by decide) (fun _=>V2.call (hcat _) rfl) ?_
  refine aqp 14 rfl Y17 (by decide) (fun G=>qe rfl rfl hrj rfl) ?_
  refine aqp 15 rfl Y17 (by decide) (fun G=>qx rfl (by decide)) ?_
  refine aqp 16 rfl Y17 (by decide) (fun G=>q9c (cs:=q2i j.spec) rfl hrj rfl rfl) ?_
  refine aq0 17 rfl Y17 (by decide) (fun _=>V1.up (q4i (cs:=q5z ⟨x,j.spec⟩) rfl)) ?_
  refine q48 18 rfl Y17 (by decide) (fun _=>qbc (sz:=8) (v:=.agg (q5z ⟨x,j.spec⟩)) (cs:=q5z ⟨x,j.spec⟩) rfl (by decide) (by decide) rfl rfl rfl rfl rfl) ?_
  refine aqs 19 rfl Y17 Yv Y11 (q5e rfl rfl rfl rfl rfl (Src.pl (ys:=[q5z ⟨x,j.spec⟩]) rfl (by simp)) rfl (by simp) (by simp) Y1c Y1c) ?_
  refine aq0 20 rfl Y17 (by decide) (fun _=>q14 (v:=.sl _ _ _ _ _) rfl) ?_
  refine Z1l ?_
  refine Zq8 ?_
  rw [List.take_of_length_le (by simp)]
  refine Z2l ?_
  refine ⟨k+1,by omega,by omega,by rw [hst,List.length_append];exact Y6,?_⟩
  rw [hst,List.length_append]
  refine Fit.loc hB Yu Y1 ?_
  intro o ho r hr
  rcases List.mem_cons.1 ho with rfl | ho
  ·exact q4l _ _ r hr
  ·rcases List.mem_cons.1 ho with rfl | ho
   ·simp only [List.mem_singleton] at hr;subst hr;rfl
   ·simp only [List.mem_singleton] at ho;subst ho;exact qhz _ _ r hr
 have:k=(qy w2.jobs).length:=by simp at hc;omega
 subst this
 rw [show (q2q w2).take (qy w2.jobs).length=q2q w2 from List.take_of_length_le (by rw [hww,List.length_map];exact Nat.le_refl _)]
 clear hc hk hwat
 obtain ⟨l0,hl0,htodo⟩:=qvj hgj2 hlt2 hst2
 have hwsl:=qeb w2
 have hwst:=q72 w2
 have hws:q2v w2=(q35 w2.graph (q31 w2) w2.table (q2q w2) w2.now w2.til w2.policy w2.depth).1:=rfl
 have hall:bgm w2 (q2v w2).length=q41 w2:=qxd w2
 have hstep:=@qln w2
 have hbri:∀ k,RI (bgm w2 k):=fun k=>hri2.bgn k
 have hpick:=fun H=>qor w2.graph (q31 w2) w2.table (q2q w2) w2.now w2.til w2.policy w2.depth H hri2.iw.table hri2.iw.graph htg2.graph (q5l _ _) hwn hwq
 rw [← hws] at hpick
 refine Z1d ?_
 refine qu (ys:=(q2q w2).map q5z) 8 rfl rfl rfl rfl Yg (by simp) (qhz 0 _) ?_
 rw [← hall]
 refine Za8 ?_
 try dsimp only [List.set_cons_succ,List.set_cons_zero,List.take_succ_cons,List.take_zero]
 refine Z6i ?_
 refine Zug ?_
 refine q48 3 rfl Y17 (by decide) (fun _=>V2.call (qbg w2 _ hri2.iw htg2.graph) rfl) ?_
 refine Zo9 ?_
 refine Zuy ?_
 refine Zu1 ?_
 refine Zf0 ?_
 refine Zf1 ?_
 refine Zoe ?_
 refine aqp 10 rfl Y17 (by decide) (fun G=>qi (v:=.int _ _) rfl (lk rfl rfl) rfl rfl rfl) ?_
 refine Zpt ?_
 refine aqp 12 rfl Y17 (by decide) (fun G=>qi (v:=.int _ _) rfl (lk rfl rfl) rfl rfl rfl) ?_
 refine Zpu ?_
 refine aqp 14 rfl Y17 (by decide) (fun G=>qi (v:=.int _ _) rfl (lk rfl rfl) rfl rfl rfl) ?_
 refine q48 15 rfl Y17 (by decide) (fun _=>V2.call (hpick _) rfl) ?_
 refine aq0 16 rfl Y17 (by decide) (fun _=>qd (v:=.tup _) rfl) ?_
 refine aq0 17 rfl Y17 (by decide) (fun _=>q1m (v:=.pl _) rfl rfl) ?_
 refine aq0 18 rfl Y17 (by decide) (fun _=>q1m (v:=.pl _) rfl rfl) ?_
 refine aq0 19 rfl Y17 (by decide) (fun _=>q1m (v:=.int _ _) rfl rfl) ?_
 refine Zoh ?_
 refine aq0 21 rfl Y17 (by decide) (fun _=>q14 (v:=.pl _) rfl) ?_
 refine aq0 22 rfl Y17 (by decide) (fun _=>q14 (v:=.int _ _) rfl) ?_
 refine Zo0 ?_
 generalize q2v w2=B at *
 refine Z1e ?_
 refine qm (G:=Nat) (fun k=>k≤B.length) (fun k=>[(1,.pt (Lid H.length 0) 0 0 0),(2,.pt (Lid H.length 1) 0 0 0),(11,.pl (B.map qg)),(14,.int .i64 (k:Int))]) (fun k=>H++[⟨0,9,[q19 (bgm w2 k)]⟩,⟨0,9,[qrb]⟩]) (fun k=>B.length-k) 0 (Nat.zero_le _) Y6 (Fit.loc hB rfl Y1 (qi4 _ _ rfl)) ?_
 intro k hk
 refine Z8z ?_
 refine qa rfl (fun hc=>?_) (fun hc=>?_)
 ·have hlt:k<B.length:=by simpa using hc
  obtain ⟨x,hx,hxl⟩:=qo hlt
  have hr:=qh qg hx
  have hst:=hstep hx
  have htd:=htodo k (by omega)
  have hxw:=hwst x hxl
  rw [qwl htd.gj.ir] at hst
  have hiw:=(hbri k).iw
  have hqt:=htg2.jobs.ev htd.ev
  clear hc hstep htodo hbri hpick
  refine Z1 ?_
  refine Ztq ?_
  refine Z6g ?_
  refine Z6i ?_
  refine Zt3 ?_
  refine Zez ?_
  refine Zxy ?_
  refine Zxz ?_
  refine Zy0 ?_
  refine Zf0 ?_
  refine Zf1 ?_
  refine q48 9 rfl Y17 (by decide) (fun _=>V2.call (qbr (bgm w2 k).jobs x.id 3 (bgm w2 k).now _ hiw.jobs hqt) rfl) ?_
  refine Zy1 ?_
  refine Zy2 ?_
  refine Zy3 ?_
  refine Zpu ?_
  refine Zy4 ?_
  refine Zf2 ?_
  refine Z1 ?_
  refine q2y mixed (some 11) 999 ?_
  refine Z6g ?_
  refine Z6i ?_
  refine Zt3 ?_
  refine Zez ?_
  refine Zxy ?_
  refine aq0 5 rfl Y17 (by decide) (fun _=>q3d rfl hr rfl) ?_
  refine q48 6 rfl Y17 (by decide) (fun _=>V2.call (qij (bgm w2 k).table x _ hiw.table hxw) rfl) ?_
  refine aq0 7 rfl Y17 (by decide) (fun _=>qd (v:=.tup _) rfl) ?_
  refine aq0 8 rfl Y17 (by decide) (fun _=>q1m (v:=.pl _) rfl rfl) ?_
  refine Zy5 ?_
  refine Zof ?_
  refine aqs 11 rfl Y17 Yv Y1b (q25 (sz:=1) (v:=.pl _) (r':=[_,_,_,_,_,_,_,_,_]) rfl rfl rfl rfl rfl rfl rfl rfl (Nat.le_of_ble_eq_true rfl) rfl) ?_
  refine Zf2 ?_
  refine Z2l ?_
  exact ⟨k+1,by omega,by omega,Y6,by rw [hst];exact .refl _ _⟩
 have:k=B.length:=by simp at hc;omega
 subst this
 refine Z4c ?_
 refine Zok ?_
 refine qf ?_
 refine Z89 ?_
 exact Zhx
end Go.Av
namespace Go.Av
theorem qmv (w:Inst) (id what at_:Int):(wdo w id what at_).2=(q1n w.jobs id what at_).2:=by
 unfold wdo
 split
 ·rfl
 ·rename_i h
  have h0:=Classical.not_not.1 h
  split<;>exact h0.symm
theorem GS.act {i:Inst} (h:GS i) (id:Int) {what:Int} (h3:what≠3):GS (wdo i id what i.now).1:=by
 have g:=(GI.refl h.gj h.lt).wdo (id:=id) h3
 refine ⟨g.gj,g.lt,?_⟩
 have e:=g.ev
 have k:=h.st
 unfold istatic at k ⊢
 rw [e.graph,e.health,e.lease,e.til,e.now,e.policy,e.depth];exact k
theorem GS.lend {i:Inst} (h:GS i) {l:List Int} {til:Int} (h1:q27 i.graph l=true) (h2:tm til=true):GS { i with lease:=l,til:=til }:=by
 have k:=h.st
 refine ⟨⟨⟨h.gj.ir.jobs,h.gj.ir.table,h.gj.ir.came,h.gj.ir.run,h.gj.ir.held,h.gj.ir.now⟩,h.gj.long,h.gj.past,h.gj.needs⟩,h.lt,?_⟩
 simp only [istatic,Bool.and_eq_true] at k ⊢
 exact ⟨⟨⟨⟨k.1.1.1.1,h1⟩,h2⟩,k.1.2⟩,k.2⟩
theorem GS.mark {i:Inst} (h:GS i) {n how:Int} (e:(q4s i.graph i.health n how).2=0):GS { i with health:=(q4s i.graph i.health n how).1 }:=by
 have k:=h.st
 refine ⟨⟨⟨h.gj.ir.jobs,h.gj.ir.table,h.gj.ir.came,h.gj.ir.run,h.gj.ir.held,h.gj.ir.now⟩,h.gj.long,h.gj.past,h.gj.needs⟩,h.lt,?_⟩
 simp only [istatic,Bool.and_eq_true] at k ⊢
 exact ⟨⟨⟨⟨qee e,k.1.1.1.2⟩,k.1.1.2⟩,k.1.2⟩,k.2⟩
theorem qxf {i:Inst} (h:IR i) {id what:Int} (hw:what=1∨what=2∨what=4∨what=6) (e:(q1n i.jobs id what i.now).2=0):∃ x,i.jobs[q11 i.jobs id]?=some x∧jAt i.jobs id=((q11 i.jobs id:Nat):Int)∧(wdo i id what i.now).1 = { i with jobs:=(q1n i.jobs id what i.now).1,table:=if x.state=2 then (q1a i.table id).1 else i.table }:=by
 have hp:=q28 h.jobs
 rcases q3h h.jobs id what i.now with ⟨_,e2⟩ | ⟨j,hj,hid,s,hb,hs,e1,e3⟩
 ·rw [qmv,e] at e2;exact absurd rfl e2
 ·subst hid
  refine ⟨j,q6o hp hj,?_,?_⟩
  ·rw [q6d hp,(q2r hp).2 ⟨j,hj,rfl⟩,if_pos rfl]
  ·rw [e3,e1]
   simp only
   congr 1
   by_cases h2:j.state=2
   ·rw [if_pos h2]
    have:q3z s=true:=by
     rw [h2] at hs
     unfold q3w at hs
     repeat' split at hs
     all_goals first | omega | (injection hs with hs;subst hs;rfl) | cases hs
    rw [if_pos this]
   ·rw [if_neg h2]
    split
    ·refine q6s h.table fun x hx he=>?_
     obtain ⟨j',hj',e5,s5⟩:=h.held x hx
     have:=q64 h hj hj' (by rw [e5,he])
     subst this
     exact h2 s5
    ·rfl
def tkr (i:Inst) (now:Int) (k:Nat):Inst:=((i.table.take k).filter fun h=>decide (h.to≤now)).foldl (fun a h=>(wdo a h.id 5 h.to).1) { i with now:=now }
theorem qs4 {i:Inst} (hr:q1s i.table=true) (now:Int):tkr i now i.table.length=(q1x i.table now).2.foldl (fun a h=>(wdo a h.id 5 h.to).1) { i with now:=now }:=by
 unfold tkr q1x
 rw [hr,if_pos rfl,List.take_length]
theorem qmj {i:Inst} {now:Int} {k:Nat} {x:Held} (hx:i.table[k]?=some x):tkr i now (k+1)=if x.to≤now then (wdo (tkr i now k) x.id 5 x.to).1 else tkr i now k:=by
 unfold tkr
 rw [List.take_add_one,hx,Option.toList_some,List.filter_append,List.foldl_append]
 by_cases e:x.to≤now
 ·rw [if_pos e];simp [e]
 ·rw [if_neg e];simp [e]
theorem GS.later {i:Inst} (h:GS i) {now:Int} (h2:tm now=true) (h3:i.now≤now):GJ { i with now:=now }:=⟨⟨h.gj.ir.jobs,h.gj.ir.table,fun j hj=>⟨Int.le_trans (h.gj.ir.came j hj).1 h3,Int.le_trans (h.gj.ir.came j hj).2 h3⟩,h.gj.ir.run,h.gj.ir.held,h2⟩,h.gj.long,fun j hj hs=>Int.le_trans (h.gj.past j hj hs) h3,h.gj.needs⟩
structure Tk (i : Inst) (now : Int) (k : Nat) (v : Inst) : Prop where
 gj:GJ v
 ev:Ev { i with now:=now } v
 stay:∀ x∈i.table.drop k,x∈v.table
theorem qy7 {v:Inst} (h:GJ v) {x:Held} (hx:x∈v.table):∀ j∈v.jobs,j.id=x.id→j.state=2→qdv j 5 x.to=false:=by
 intro j hj e _
 obtain ⟨j',hj',e',s',hf,hto,_⟩:=h.ir.of hx
 have:=q64 h.ir hj hj' (by rw [e,e'])
 subst this
 have hjr:=(jobs_iff.1 h.ir.jobs).2.1 j hj
 have hfr:=qal hjr (by omega)
 have hh:=(held_iff.1 h.ir.table).2.1 x hx
 simp only [hmay,Bool.and_eq_true,decide_eq_true_eq] at hh
 obtain ⟨⟨⟨⟨_,_⟩,h3⟩,h4⟩,h5⟩:=hh
 simp only [qdv,hjr,h4,Bool.not_true,Bool.false_or,Bool.or_eq_false_iff,decide_eq_false_iff_not]
 refine ⟨⟨⟨?_,?_⟩,?_⟩,?_⟩<;>first | trivial | omega
theorem qw6 {i:Inst} (h:GS i) {now:Int} (h2:tm now=true) (h3:i.now≤now):∀ k,k≤i.table.length→Tk i now k (tkr i now k):=by
 intro k
 induction k with
 | zero=>intro _;exact ⟨h.later h2 h3,Ev.refl _,fun x hx=>hx⟩
 | succ k ih =>
  intro hk
  have t:=ih (by omega)
  have hx:i.table[k]?=some (i.table[k]'(by omega)):=List.getElem?_eq_getElem (by omega)
  have hd:i.table.drop k=i.table[k]'(by omega) :: i.table.drop (k+1):=List.drop_eq_getElem_cons (by omega)
  rw [qmj hx]
  split
  ·rename_i hle
   have hxv:i.table[k]'(by omega)∈(tkr i now k).table:=t.stay _ (by rw [hd];exact List.mem_cons_self)
   have hnow:(tkr i now k).now=now:=t.ev.now
   refine ⟨(qm9 t.gj hxv (by rw [hnow];exact hle)).1,t.ev.trans (qeh t.gj.ir.jobs _ _ _),fun y hy=>?_⟩
   have hyv:=t.stay y (by rw [hd];exact List.mem_cons_of_mem _ hy)
   have hne:y.id≠(i.table[k]'(by omega)).id:=by
    have hp:=h.gj.ir.pt
    have hp2:=hp.sublist (List.drop_sublist k i.table)
    rw [hd,List.pairwise_cons] at hp2
    have:=hp2.1 y hy
    omega
   rcases q3h t.gj.ir.jobs (i.table[k]'(by omega)).id 5 (i.table[k]'(by omega)).to with ⟨e,_⟩ | ⟨j,hj,_,s,hb',hs,e1,e⟩
   ·rw [e];exact hyv
   ·rw [e]
    show y∈(if q3z s then (q1a (tkr i now k).table (i.table[k]'(by omega)).id).1 else (tkr i now k).table)
    split
    ·exact ((q9o t.gj.ir.table _).2 y).2 ⟨hyv,hne⟩
    ·exact hyv
  ·exact ⟨t.gj,t.ev,fun y hy=>t.stay y (by rw [hd];exact List.mem_cons_of_mem _ hy)⟩
theorem qu8 {i:Inst} (h:GS i) {now:Int} (h2:tm now=true) (h3:i.now≤now) {k:Nat} {x:Held} (hx:i.table[k]?=some x):tkr i now (k+1)=if x.to≤now then qu2 (tkr i now k) x.id 5 x.to else tkr i now k:=by
 have hk:=(List.getElem?_eq_some_iff.1 hx).1
 have t:=qw6 h h2 h3 k (by omega)
 have hd:i.table.drop k=i.table[k]'(by omega) :: i.table.drop (k+1):=List.drop_eq_getElem_cons (by omega)
 have hxe:i.table[k]'(by omega)=x:=(List.getElem?_eq_some_iff.1 hx).2
 rw [qmj hx]
 split
 ·rw [qli t.gj.ir (qy7 t.gj (t.stay x (by rw [hd,hxe];exact List.mem_cons_self)))]
 ·rfl
theorem GS.tick {i:Inst} (h:GS i) {now:Int} (h2:tm now=true) (h3:i.now≤now):GS (tkr i now i.table.length):=by
 have hov:(q1x i.table now).2=i.table.filter fun h=>decide (h.to≤now):=by unfold q1x;rw [h.gj.ir.table,if_pos rfl]
 obtain ⟨k1,k2,k3⟩:=qcj (i:=i) (now:=now) (q1x i.table now).2 { i with now:=now } (h.later h2 h3) (Ev.refl _) (fun x hx=>by
   rw [hov,List.mem_filter,decide_eq_true_eq] at hx;exact hx)
  (by rw [hov];exact (h.gj.ir.pt.filter _).imp fun h e=>by omega)
  (fun x hx=>by rw [hov,List.mem_filter] at hx;exact hx.1)
  (fun x hx=>⟨hx,by
   by_cases e:x.to≤now
   ·exact .inl (by rw [hov,List.mem_filter,decide_eq_true_eq];exact ⟨hx,e⟩)
   ·exact .inr (by omega)⟩)
 have k:=h.st
 rw [qs4 h.gj.ir.table]
 refine ⟨k1,fun x hx=>by rw [k2.now];exact (k3 x hx).2,?_⟩
 simp only [istatic,Bool.and_eq_true] at k ⊢
 rw [k2.graph,k2.health,k2.lease,k2.til,k2.now,k2.policy,k2.depth]
 exact ⟨⟨k.1.1,h2⟩,k.2⟩
end Go.Av
namespace Go.Av
open Go.Proofs
structure OKI (i : Inst) : Prop where
 gs:q2c i=true→GS i
 ri:RI i
 tg:TagsW i
theorem QT.add {l:List Job} (h:QT l) {s:Spec} (hs:s.tag.size≤9223372036854775807) (needs:List Int) (now:Int):QT (q18 l s needs now).1:=by
 rcases q9s l s needs now with ⟨_,_,e⟩ | e
 ·rw [e];exact h
 ·rw [e]
  intro j hj
  rcases List.mem_append.1 hj with hj | hj
  ·exact h j hj
  ·rw [List.mem_singleton] at hj;subst hj;exact hs
set_option maxHeartbeats 0 in
theorem qj2 (i:Inst) (s:Spec) (needs:List Int) (H:qj) (h:OKI i) (hs:s.tag.size≤9223372036854775807) (hn:needs.length≤1000000) (hj:i.jobs.length<1000000):AC Tryz.prog 66 [.agg (q19 i),.agg (q2i s),.pl (needs.map eI)] H (Ret (.tup [.agg (q19 (q26 i s needs).1),.int .i64 (q26 i s needs).2.1,.int .i64 (q26 i s needs).2.2]) H):=by
 have n1:=h.ri.iw
 have n2:=h.tg
 refine AC.body (N:=36) [.cell 6 27,.tmp 7,.tmp 8] Tryz.func66 rfl rfl rfl (Nat.le_of_ble_eq_true rfl) fun B hB=>?_
 refine Zlt ?_
 refine Z31 ?_
 refine Zoi ?_
 refine Z16 ?_
 refine Z7u ?_
 refine Z4c ?_
 refine Zv3 ?_
 refine Zta ?_
 unfold q26
 refine Z1 ?_
 refine qa rfl (fun hc=>?_) (fun hc=>?_)
 ·rw [if_pos hc]
  refine Z4c ?_
  exact Zty
 rw [if_neg Y16]
 have hg:=h.gs Y19
 clear hc
 have hadd:=@GS.add i hg s needs
 have hqt:=n2.jobs.add hs needs i.now
 have hjw:=h.ri.jw.add s i.now hn hj
 refine Z53 ?_
 refine Z4b ?_
 refine Z4n ?_
 refine Z37 ?_
 refine ao2 Y11 (V2.call (qq0 i.jobs s needs i.now _ n1.jobs n2.jobs hs hn) rfl) ?_
 refine Zpi ?_
 refine Z15 ?_
 refine Z4w ?_
 refine Z16 ?_
 refine Z8j ?_
 generalize q18 i.jobs s needs i.now=q at *
 obtain ⟨q1,q2,q3⟩:=q
 simp only at hadd hqt hjw ⊢
 refine Zaz ?_
 refine qa rfl (fun hc=>?_) (fun hc=>?_)
 ·rw [if_pos (show q3≠0 by simpa using hc)]
  exact Zud
 have h0:q3=0:=by simpa using hc
 rw [if_neg (show ¬ q3≠0 from fun e=>e h0)]
 have hgs:=hadd h0
 have hri:=h.ri.jobs hjw
 have htg:TagsW { i with jobs:=q1 }:=⟨n2.graph,hqt⟩
 clear hc
 refine Z4o ?_
 refine Zv7 ?_
 refine Z4c ?_
 refine Zy6 ?_
 refine Z8 ?_
 exact Zty
set_option maxHeartbeats 0 in
theorem quh (i:Inst) (id what:Int) (H:qj) (h:OKI i):AC Tryz.prog 62 [.agg (q19 i),.int .i64 id,.int .i64 what] H (Ret (.tup [.agg (q19 (ido i id what).1),.int .i64 (ido i id what).2]) H):=by
 have n1:=h.ri.iw
 have n2:=h.tg
 have n5:=n1.table
 refine AC.body (N:=69) [.cell 6 27,.tmp 7] Tryz.func62 rfl rfl rfl (Nat.le_of_ble_eq_true rfl) fun B hB=>?_
 refine Ztr ?_
 refine qn 29 (.bool (!q2c i||!([1,2,4,6]:List Int).contains what)) ?_ ?_
 ·refine Z4b ?_
  refine Zv3 ?_
  refine Z26 ?_
  refine qb rfl rfl (fun hg3=>?_) (fun hg3=>?_)
  ·refine Z3k ?_
   refine Z2f ?_
   refine Zc9 ?_
   refine Zcb ?_
   exact Zy7
  ·refine Zxi ?_
   refine Z28 ?_
   refine qb rfl rfl (fun hg6=>?_) (fun hg6=>?_)
   ·refine Zxi ?_
    refine Zce ?_
    refine qb rfl rfl (fun hg10=>?_) (fun hg10=>?_)
    ·refine Zxi ?_
     refine Zce ?_
     refine qb rfl rfl (fun hg14=>?_) (fun hg14=>?_)
     ·refine Zxi ?_
      refine Zch ?_
      exact qf (Out.mk (by (refine congrArg AV.bool ?_;(clear hB h n1 n2 n5;grind))) Yb)
     ·refine Zcl ?_
      exact Zy7
    ·refine Zck ?_
     refine Z28 ?_
     refine Zcl ?_
     exact Zy7
   ·refine Zck ?_
    refine Z28 ?_
    refine Zck ?_
    refine Z28 ?_
    refine Zcl ?_
    exact Zy7
 unfold ido
 refine Z1 ?_
 refine qa rfl (fun hc=>?_) (fun hc=>?_)
 ·rw [if_pos hc]
  refine Z4c ?_
  exact Ztt
 rw [if_neg Y16]
 have hc2:q2c i=true∧(what=1∨what=2∨what=4∨what=6):=by
  simp at hc
  refine ⟨hc.1,?_⟩
  have:=hc.2
  omega
 obtain ⟨hr',hwh⟩:=hc2
 have hg:=h.gs hr'
 clear hc
 rw [qmv]
 have hact:=hg.act id (what:=what) (by omega)
 have hri:=h.ri.wdo id what i.now
 have htg:=n2.ev (qa3 i id what i.now)
 have href:=@qxf i hg.gj.ir id what hwh
 refine Z53 ?_
 refine Z30 ?_
 refine Z37 ?_
 refine ao2 Y11 (V2.call (qbr i.jobs id what i.now _ n1.jobs n2.jobs) rfl) ?_
 refine Zpk ?_
 refine Z8j ?_
 refine Zaz ?_
 refine qa rfl (fun hc=>?_) (fun hc=>?_)
 ·rw [if_pos (show (q1n i.jobs id what i.now).2≠0 by simpa using hc)]
  refine Zt0 ?_
  exact Ztt
 have h0:(q1n i.jobs id what i.now).2=0:=by simpa using hc
 rw [if_neg (show ¬ (q1n i.jobs id what i.now).2≠0 from fun e=>e h0)]
 obtain ⟨x,hx,hat,hwd⟩:=href h0
 have hrx:=qh q1d hx
 have hcat:∀ H,AC Tryz.prog 112 [.pl (i.jobs.map q1d),.int .i64 id] H (Ret (.int .i64 ((q11 i.jobs id:Nat):Int)) H):=fun H=>by
  have:=q7x i.jobs id H n1.jobs
  rwa [hat] at this
 rw [hwd] at hact hri htg ⊢
 clear hc hwd h0 hat
 refine Zo7 ?_
 refine Z6i ?_
 refine Zmz ?_
 refine Zux ?_
 refine Z1k ?_
 refine q48 5 rfl Y17 (by decide) (fun _=>V2.call (hcat _) rfl) ?_
 refine aqp 6 rfl Y17 (by decide) (fun G=>qe rfl rfl hrx rfl) ?_
 refine aqp 7 rfl Y17 (by decide) (fun G=>qx rfl (by decide)) ?_
 refine aqp 8 rfl Y17 (by decide) (fun G=>qz (v:=.int _ _) rfl hrx rfl) ?_
 refine aq0 9 rfl Y17 (by decide) (fun _=>qya rfl rfl) ?_
 refine aq0 10 rfl Y17 (by decide) (fun _=>q14 (v:=.bool _) rfl) ?_
 refine Zo0 ?_
 refine Z4o ?_
 refine Zv7 ?_
 refine Z2x ?_
 refine qa rfl (fun hc=>?_) (fun hc=>?_)
 ·have h2:x.state=2:=by simpa using hc
  rw [if_pos h2] at hact hri htg ⊢
  refine q1k ?_
  refine Z52 ?_
  refine Z8 ?_
  refine Zv8 ?_
  refine Zph ?_
  refine Z9s ?_
  refine Z15 ?_
  refine Zv7 ?_
  refine Z4c ?_
  refine Zy8 ?_
  exact Ztt
 ·have h2:¬ x.state=2:=by simpa using hc
  rw [if_neg h2] at hact hri htg ⊢
  refine Z4c ?_
  refine Zy8 ?_
  exact Ztt
set_option maxHeartbeats 0 in
theorem qnb (i:Inst) (now:Int) (H:qj) (h:OKI i):AC Tryz.prog 63 [.agg (q19 i),.int .i64 now] H (Ret (.tup [.agg (q19 (q40 i now).1),.int .i64 (q40 i now).2]) H):=by
 have n1:=h.ri.iw
 have n2:=h.tg
 have hnn:q2c i=true→0≤i.now:=fun e=>(tm_iff.1 (h.gs e).gj.ir.now).1
 refine AC.body (N:=53) [.cell 4 27,.tmp 5] Tryz.func63 rfl rfl rfl (Nat.le_of_ble_eq_true rfl) fun B hB=>?_
 refine Ztr ?_
 refine qn 20 (.bool (!q2c i||!tm now||decide (now<i.now))) ?_ ?_
 ·refine Z4b ?_
  refine Zv3 ?_
  refine Z26 ?_
  refine qb rfl rfl (fun hg3=>?_) (fun hg3=>?_)
  ·refine Z64 ?_
   refine Z9j ?_
   exact Zy9
  ·refine Zj ?_
   refine Z42 ?_
   refine qb rfl rfl (fun hg9=>?_) (fun hg9=>?_)
   ·refine Z9j ?_
    exact Zy9
   ·refine Zt2 ?_
    exact Zya
 unfold q40
 refine Z1 ?_
 refine qa rfl (fun hc=>?_) (fun hc=>?_)
 ·rw [if_pos hc]
  refine Z4c ?_
  exact Ztt
 rw [if_neg Y16]
 simp only [Bool.or_eq_false_iff,Bool.not_eq_false',decide_eq_false_iff_not,Int.not_lt] at hc
 obtain ⟨⟨hr',h2⟩,h3⟩:=hc
 have hg:=h.gs hr'
 have hnx:=@qu8 i hg now h2 h3
 have htk:=qw6 hg h2 h3
 have hgt:=hg.tick h2 h3
 have hrk:∀ k,RI (tkr i now k):=fun k=>RI.foldl (fun a x ha=>ha.wdo _ _ _) _ (h.ri.now now)
 have htn:TagsW { i with now:=now }:=⟨n2.graph,n2.jobs⟩
 rw [← qs4 hg.gj.ir.table]
 refine Z53 ?_
 refine Z4w ?_
 refine Z55 ?_
 refine Z12 ?_
 refine Z36 ?_
 refine Zyb ?_
 refine Z7y ?_
 refine Z1e ?_
 refine qm (G:=Nat) (fun k=>k≤i.table.length) (fun k=>[(1,.int .i64 now),(2,.pt (Lid H.length 0) 0 0 0),(4,.pt (Lid H.length 1) 0 0 0),(6,.pl (i.table.map qg)),(7,.int .i64 (k:Int))]) (fun k=>H++[⟨0,9,[q19 (tkr i now k)]⟩,⟨0,9,[qrb]⟩]) (fun k=>i.table.length-k) 0 (Nat.zero_le _) Y6 (.inl rfl) ?_
 intro k hk
 refine Z8z ?_
 refine qa rfl (fun hc=>?_) (fun hc=>?_)
 ·have hlt:k<i.table.length:=by simpa using hc
  obtain ⟨x,hx,hxl⟩:=qo hlt
  have hr:=qh qg hx
  have hst:=hnx hx
  have hiw:=(hrk k).iw
  have hqt:=(htn.ev (htk k (by omega)).ev).jobs
  have hlw:=n1.table.1
  clear hc hnx htk hrk
  refine Zhi ?_
  refine Z8 ?_
  refine Zg ?_
  refine Z56 ?_
  refine qa rfl (fun hc=>?_) (fun hc=>?_)
  ·rw [if_pos (show x.to≤now by simpa using hc)] at hst
   clear hc
   refine q2y mixed (some 12) 999 ?_
   refine Z6g ?_
   refine Zfj ?_
   refine Zv6 ?_
   refine Zxu ?_
   refine Zxv ?_
   refine Zxw ?_
   refine Zu1 ?_
   refine Zyc ?_
   refine aq0 8 rfl Y17 (by decide) (fun _=>qe rfl rfl hr rfl) ?_
   refine aqp 9 rfl Y17 (by decide) (fun G=>qx rfl (by decide)) ?_
   refine aq0 10 rfl Y17 (by decide) (fun _=>qz (v:=.int _ _) rfl hr rfl) ?_
   refine q48 11 rfl Y17 (by decide) (fun _=>V2.call (qiq (tkr i now k) x.id 5 x.to _ hiw hqt) rfl) ?_
   refine aqs 12 rfl Y17 Yv Y1b (q2p (sz:=9) rfl rfl rfl rfl rfl rfl rfl rfl (Nat.le_of_ble_eq_true rfl)) ?_
   refine Zf2 ?_
   refine Z2l ?_
   exact ⟨k+1,by omega,by omega,Y6,by rw [hst];exact .refl _ _⟩
  ·rw [if_neg (show ¬ x.to≤now by simpa using hc)] at hst
   clear hc
   refine Z2l ?_
   exact ⟨k+1,by omega,by omega,Y6,by rw [hst];exact .refl _ _⟩
 have:k=i.table.length:=by simp at hc;omega
 subst this
 have hri:=hrk i.table.length
 have htg:=htn.ev (htk i.table.length (Nat.le_refl _)).ev
 clear hc hnx htk hrk
 generalize tkr i now i.table.length=v at *
 refine Z4c ?_
 refine ao2 Y11 (V2.call (qay v _ hgt hri htg) rfl) ?_
 exact Ztt
set_option maxHeartbeats 0 in
theorem qop (i:Inst) (l:List Int) (til:Int) (H:qj) (h:OKI i) (hl:l.length≤1000000):AC Tryz.prog 64 [.agg (q19 i),.pl (l.map eI),.int .i64 til] H (Ret (.tup [.agg (q19 (q4p i l til).1),.int .i64 (q4p i l til).2]) H):=by
 have n1:=h.ri.iw
 have n2:=h.tg
 have n3:=n1.graph
 refine AC.body (N:=33) [.cell 6 27,.tmp 7] Tryz.func64 rfl rfl rfl (Nat.le_of_ble_eq_true rfl) fun B hB=>?_
 refine Ztr ?_
 refine qn 25 (.bool (!q2c i||!q27 i.graph l||!tm til)) ?_ ?_
 ·refine Z4b ?_
  refine Zv3 ?_
  refine Z26 ?_
  refine qb rfl rfl (fun hg3=>?_) (fun hg3=>?_)
  ·refine Z3j ?_
   refine Z3l ?_
   refine Z7z ?_
   refine Z9j ?_
   exact Zy9
  ·refine Z68 ?_
   refine Zc3 ?_
   refine q5b rfl rfl (by decide) (V2.call (qip _ _ _ Y1d Y1d) rfl) ?_
   refine Z66 ?_
   refine qb rfl rfl (fun hg10=>?_) (fun hg10=>?_)
   ·refine Z7z ?_
    refine Z9j ?_
    exact Zy9
   ·refine Z82 ?_
    refine qb rfl rfl (fun hg14=>?_) (fun hg14=>?_)
    ·refine Z9j ?_
     exact Zy9
    ·refine Zt2 ?_
     exact Zya
 unfold q4p
 refine Z1 ?_
 refine qa rfl (fun hc=>?_) (fun hc=>?_)
 ·rw [if_pos hc]
  refine Z4c ?_
  exact Ztt
 rw [if_neg Y16]
 simp only [Bool.or_eq_false_iff,Bool.not_eq_false'] at hc
 obtain ⟨⟨hr',h2⟩,h3⟩:=hc
 have hgs:=(h.gs hr').lend h2 h3
 have hri:=h.ri.lend til hl
 have htg:TagsW { i with lease:=l,til:=til }:=⟨n2.graph,n2.jobs⟩
 refine Z4o ?_
 refine Zv7 ?_
 refine Z12 ?_
 refine Z36 ?_
 refine Zyb ?_
 refine Z7y ?_
 refine Z4c ?_
 refine Zy6 ?_
 exact Ztt
set_option maxHeartbeats 0 in
theorem qo6 (i:Inst) (n how:Int) (H:qj) (h:OKI i):AC Tryz.prog 65 [.agg (q19 i),.int .i64 n,.int .i64 how] H (Ret (.tup [.agg (q19 (q4c i n how).1),.int .i64 (q4c i n how).2]) H):=by
 have n1:=h.ri.iw
 have n2:=h.tg
 refine AC.body (N:=32) [.cell 6 27,.tmp 7] Tryz.func65 rfl rfl rfl (Nat.le_of_ble_eq_true rfl) fun B hB=>?_
 refine Zpp ?_
 refine Z4 ?_
 refine Z7u ?_
 refine Z4c ?_
 refine Zv3 ?_
 refine Zta ?_
 unfold q4c
 refine Z1 ?_
 refine qa rfl (fun hc=>?_) (fun hc=>?_)
 ·rw [if_pos hc]
  refine Z4c ?_
  exact Ztt
 rw [if_neg Y16]
 have hg:=h.gs Y19
 have hmk:=@GS.mark i hg n how
 have hri:=h.ri.mark n how
 have htg:TagsW { i with health:=(q4s i.graph i.health n how).1 }:=⟨n2.graph,n2.jobs⟩
 clear hc
 refine Z53 ?_
 refine Z52 ?_
 refine Z30 ?_
 refine ao2 Y11 (V2.call (qsd i.graph i.health n how _ n1.graph n1.health n2.graph) rfl) ?_
 refine Zpk ?_
 refine Z8j ?_
 refine Zaz ?_
 refine qa rfl (fun hc=>?_) (fun hc=>?_)
 ·rw [if_pos (show (q4s i.graph i.health n how).2≠0 by simpa using hc)]
  refine Zt0 ?_
  exact Ztt
 have h0:(q4s i.graph i.health n how).2=0:=by simpa using hc
 rw [if_neg (show ¬ (q4s i.graph i.health n how).2≠0 from fun e=>e h0)]
 have hgs:=hmk h0
 clear hc
 refine Z4o ?_
 refine Zv7 ?_
 refine Z4c ?_
 refine Zy6 ?_
 exact Ztt
set_option maxHeartbeats 0 in
theorem qoz (i:Inst) (a:LAct) (H:qj) (h:OKI i) (h0:0≤i.now) (hj:i.jobs.length<1000000) (hn:a.needs.length≤1000000) (hs:a.set.length≤1000000) (ht:a.spec.tag.size≤9223372036854775807):AC Tryz.prog 22 [.agg (q19 i),.agg (qo0 a)] H (Ret (.tup [.agg (q19 (ado i a).1),.int .i64 (ado i a).2.1,.int .i64 (ado i a).2.2]) H):=by
 refine AC.body (N:=77) [.cell 4 27,.tmp 5,.tmp 6] Tryz.func22 rfl rfl rfl (Nat.le_of_ble_eq_true rfl) fun B hB=>?_
 refine Zlt ?_
 refine Z4z ?_
 refine Zoi ?_
 refine Z16 ?_
 refine Z7u ?_
 refine Z4i ?_
 refine Z55 ?_
 refine Z5q ?_
 refine qa rfl (fun hc=>?_) (fun hc=>?_)
 ·have hk:a.kind=1:=by simpa using hc
  have he:ado i a=((ido i a.id a.what).1,0,(ido i a.id a.what).2):=by rw [ado,if_pos hk]
  rw [he]
  refine Z4c ?_
  refine Z7h ?_
  refine ao2 Y11 (V2.call (quh i a.id a.what _ h) rfl) ?_
  exact Zue
 have hk1:¬ a.kind=1:=by simpa using hc
 clear hc
 refine Z5q ?_
 refine qa rfl (fun hc=>?_) (fun hc=>?_)
 ·have hk:a.kind=2:=by simpa using hc
  have he:ado i a=((q40 i (qjn i a)).1,0,(q40 i (qjn i a)).2):=by rw [ado,if_neg hk1,if_pos hk]
  rw [he]
  refine Z1 ?_
  refine Zly ?_
  refine Zfj ?_
  refine Zuf ?_
  refine Zug ?_
  refine Zuh ?_
  refine q48 4 rfl Y17 (by decide) (fun _=>V2.call (qnb i (qjn i a) _ h) rfl) ?_
  refine Zsb ?_
  refine Zui ?_
  refine Zuj ?_
  refine Zuk ?_
  refine Zul ?_
  refine Zum ?_
  refine Z1l ?_
  refine Z9w ?_
  exact Zud
 have hk2:¬ a.kind=2:=by simpa using hc
 clear hc
 refine Z5q ?_
 refine qa rfl (fun hc=>?_) (fun hc=>?_)
 ·have hk:a.kind=3:=by simpa using hc
  have he:ado i a=((q4p i a.set a.at_).1,0,(q4p i a.set a.at_).2):=by rw [ado,if_neg hk1,if_neg hk2,if_pos hk]
  rw [he]
  refine Z4c ?_
  refine Z52 ?_
  refine Z37 ?_
  refine ao2 Y11 (V2.call (qop i a.set a.at_ _ h hs) rfl) ?_
  exact Zue
 have hk3:¬ a.kind=3:=by simpa using hc
 clear hc
 refine Z5q ?_
 refine qa rfl (fun hc=>?_) (fun hc=>?_)
 ·have hk:a.kind=4:=by simpa using hc
  have he:ado i a=((q4c i a.id a.what).1,0,(q4c i a.id a.what).2):=by rw [ado,if_neg hk1,if_neg hk2,if_neg hk3,if_pos hk]
  rw [he]
  refine Z4c ?_
  refine Z7h ?_
  refine ao2 Y11 (V2.call (qo6 i a.id a.what _ h) rfl) ?_
  exact Zue
 have hk4:¬ a.kind=4:=by simpa using hc
 clear hc
 have he:ado i a=q26 i a.spec a.needs:=by rw [ado,if_neg hk1,if_neg hk2,if_neg hk3,if_neg hk4]
 rw [he]
 refine Z4c ?_
 refine Z36 ?_
 refine Zt9 ?_
 refine Z52 ?_
 refine ao2 Y11 (V2.call (qj2 i a.spec a.needs _ h ht hn hj) rfl) ?_
 refine Z9s ?_
 refine Z15 ?_
 refine Z15 ?_
 refine Ztv ?_
 refine Zun ?_
 refine Z1 ?_
 exact Ztx
theorem TagsW.look {w:Inst} (h:TagsW w):TagsW (q3q w):=h.ev (qtj w)
theorem qvp {i:Inst} (h:TagsW i) (a:LAct) (ht:a.spec.tag.size≤9223372036854775807):TagsW (ado i a).1:=by
 unfold ado
 split
 ·show TagsW (ido i a.id a.what).1
  unfold ido
  split
  ·exact h
  ·split
   ·exact h
   ·exact (h.ev (qa3 _ _ _ _)).look
 ·split
  ·show TagsW (q40 i (qjn i a)).1
   unfold q40
   split
   ·exact h
   ·exact (TagsW.ev (w:={ i with now:=qjn i a }) ⟨h.graph,h.jobs⟩ (qcm (fun a x=>qa3 _ _ _ _) _ _)).look
  ·split
   ·show TagsW (q4p i a.set a.at_).1
    unfold q4p
    split
    ·exact h
    ·exact (TagsW.look (w:={ i with lease:=a.set,til:=a.at_ }) ⟨h.graph,h.jobs⟩)
   ·split
    ·show TagsW (q4c i a.id a.what).1
     unfold q4c
     split
     ·exact h
     ·split
      ·exact h
      ·exact (TagsW.look (w:={ i with health:=(q4s i.graph i.health a.id a.what).1 }) ⟨h.graph,h.jobs⟩)
    ·unfold q26
     split
     ·exact h
     ·split
      ·exact h
      ·exact (TagsW.look (w:={ i with jobs:=(q18 i.jobs a.spec a.needs i.now).1 }) ⟨h.graph,h.jobs.add ht _ _⟩)
theorem qx5 {i:Inst} (h:q2c i=false) (a:LAct):(ado i a).1=i:=by
 unfold ado ido q40 q4p q4c q26
 rw [h]
 simp only [Bool.not_false,Bool.true_or,if_true]
 repeat' split
 all_goals rfl
theorem OKI.ado {i:Inst} (h:OKI i) (a:LAct) (hn:a.needs.length≤1000000) (hs:a.set.length≤1000000) (ht:a.spec.tag.size≤9223372036854775807) (hj:i.jobs.length<1000000) (h0:0≤i.now):OKI (ado i a).1∧0≤(ado i a).1.now:=by
 have hri:=h.ri.ado a hn hs hj
 have htg:=qvp h.tg a ht
 cases e:q2c i with
 | true =>
  have hg:=(qyg (h.gs e) a).1
  exact ⟨⟨fun _=>hg,hri,htg⟩,(tm_iff.1 hg.gj.ir.now).1⟩
 | false =>
  rw [qx5 e a]
  exact ⟨h,h0⟩
set_option maxHeartbeats 0 in
theorem qrf (g:List Thing) (p d:Int) (H:qj) (hl:g.length≤1000000) (hw:TW g):AC Tryz.prog 19 [.pl (g.map qq),.int .i64 p,.int .i64 d] H (Ret (.tup [.agg (q19 (q92 g p d).1),.int .i64 (q92 g p d).2]) H):=by
 have hml:(g.map qq).length=g.length:=by simp
 refine AC.body (N:=37) [.cell 6 27,.tmp 7] Tryz.func19 rfl rfl rfl (Nat.le_of_ble_eq_true rfl) fun B hB=>?_
 refine Z2 ?_
 refine Zoi ?_
 refine Z4 ?_
 refine Z9e ?_
 refine Z1 ?_
 refine qn 26 (.bool (!q1o g||!q4g p d)) ?_ ?_
 ·refine Z4n ?_
  refine Zhc ?_
  refine Z26 ?_
  refine qb rfl rfl (fun hg3=>?_) (fun hg3=>?_)
  ·refine Z80 ?_
   refine Z7z ?_
   refine Z9j ?_
   exact Zyd
  ·refine Z82 ?_
   refine qb rfl rfl (fun hg7=>?_) (fun hg7=>?_)
   ·refine Z80 ?_
    refine Z9j ?_
    exact Zyd
   ·refine Z83 ?_
    refine qb rfl rfl (fun hg11=>?_) (fun hg11=>?_)
    ·refine Z7z ?_
     refine Z9j ?_
     exact Zyd
    ·refine Z82 ?_
     refine qb rfl rfl (fun hg15=>?_) (fun hg15=>?_)
     ·refine Z9j ?_
      exact Zyd
     ·refine Zt2 ?_
      exact qf (Out.mk (by (refine congrArg AV.bool ?_;(clear hB hw;unfold q4g;grind))) Yb)
 refine Z1 ?_
 refine qa rfl (fun hc=>?_) (fun hc=>?_)
 ·have hno:q92 g p d=(qqn,1):=by rw [q92,if_pos hc]
  rw [hno]
  refine Z2 ?_
  refine Zo2 ?_
  refine Zol ?_
  exact Zi3
 have hyes:q92 g p d=(⟨g,List.replicate g.length 0,q45 g 0,4611686018427387904,[],[],0,p,d⟩,0):=by rw [q92,if_neg (by simp [hc])]
 rw [hyes]
 clear hc hyes
 refine Z1 ?_
 refine Zxt ?_
 refine Z6g ?_
 refine Z90 ?_
 refine Zqb ?_
 refine Zqc ?_
 refine Z94 ?_
 refine q48 5 rfl Y17 (by decide) (fun _=>V2.call (qdp g 0 _ hl hw) rfl) ?_
 refine Zsp ?_
 refine Zyc ?_
 refine aqs 3 rfl Y17 Yv Y11 (q38 (n:=g.length) (c:=g.length) (bytes:=8) rfl (by decide) (congrArg (fun k:Nat=>AV.int .i64 (k:Int)) hml) (congrArg (fun k:Nat=>AV.int .i64 (k:Int)) hml) (Nat.le_refl _) (by omega) (by omega) rfl) ?_
 refine aq0 8 rfl Y17 (by decide) (fun _=>V1.up (q4i (cs:=[_,_,_,.int _ _,_,_,.int _ _,.int _ _,.int _ _]) rfl)) ?_
 refine Zul ?_
 refine Zum ?_
 refine Z9q ?_
 try dsimp only [List.length_cons,List.length_nil,Nat.reduceAdd,put,AV.up,List.cons_append,List.nil_append,List.set_cons_zero]
 refine Z1d ?_
 refine q5g (k:=0) (i:=0) (j:=1) (kid:=1) (ys:=(List.replicate g.length 0).map eI) 0 rfl rfl rfl rfl rfl (by decide) rfl rfl (by rw [List.map_replicate,List.drop_zero];exact List.take_of_length_le (by simp)) (by simp) (q1y 0 _) ?_
 refine q33 ?_
 exact Z8a
set_option maxHeartbeats 0 in
theorem qc3 (g:List Thing) (p d:Int) (l:List LAct) (H:qj) (hgt:TW g) (hlt':∀ a∈l,a.spec.tag.size≤9223372036854775807):ACT Tryz.prog KD 4 [.pl (g.map qq),.int .i64 p,.int .i64 d,.pl (l.map qo0)] H (Ret (.bool true) H):=by
 refine ACT.body (N:=103) [.tmp 8] Tryz.func4 rfl rfl rfl (Nat.le_of_ble_eq_true rfl) fun B hB=>?_
 refine Z1r ?_
 refine Z2 ?_
 refine ao2 Y11 (V2.callT (qjp _) rfl rfl) ?_
 refine Z1a ?_
 refine Z4r ?_
 refine qa rfl (fun hc=>?_) (fun hc=>?_)
 ·simp at hc
 clear hc
 refine Z1 ?_
 refine qn 29 (.bool (decide (40<g.length)||!q9r l)) ?_ ?_
 ·refine Z8w ?_
  refine Zf9 ?_
  refine qb rfl rfl (fun hg3=>?_) (fun hg3=>?_)
  ·refine Z3z ?_
   exact Zye
  ·refine Zc3 ?_
   refine q5b rfl rfl (by decide) (V2.call (ql3 _ _) rfl) ?_
   refine Z6c ?_
   exact Zye
 refine Z1 ?_
 refine qa rfl (fun hc=>?_) (fun hc=>?_)
 ·exact Z5m
 rw [Bool.or_eq_false_iff,decide_eq_false_iff_not,Bool.not_eq_false'] at hc
 obtain ⟨hg,hli⟩:=hc
 simp only [q9r,Bool.and_eq_true,decide_eq_true_eq,List.all_eq_true] at hli
 obtain ⟨hl14,hll⟩:=hli
 have hq:=qwp g p d (by omega)
 have hq2:=qwg (g:=g) (p:=p) (d:=d)
 have hq3:=qvo (g:=g) (p:=p) (d:=d)
 have htg0:TagsW (q92 g p d).1:=by
  unfold q92
  split
  ·exact ⟨(fun _ h=>nomatch h),(fun _ h=>nomatch h)⟩
  ·exact ⟨hgt,(fun _ h=>nomatch h)⟩
 refine Z4o ?_
 refine Z30 ?_
 refine q13 (qlk _ _ _ _ (by omega)) rfl (by decide) ?_
 refine Zua ?_
 refine Z9v ?_
 refine Z4o ?_
 refine Z30 ?_
 refine q13 (qrf _ _ _ _ (by omega) Y1d) rfl (by decide) ?_
 refine Zua ?_
 refine Z9w ?_
 generalize q92 g p d=q at *
 obtain ⟨i0,E⟩:=q
 simp only at hq hq2 hq3 htg0 ⊢
 obtain ⟨q1,q2,q3,_⟩:=hq
 have hok:OKI i0:=⟨fun e=>by
  by_cases h0:E=0
  ·exact hq2 h0
  ·rw [hq3 h0] at e;exact absurd e (by decide),q1,htg0⟩
 clear hq2 hq3 htg0
 have c0:=fun H=>qf6 i0 i0 H q1
 refine Z1 ?_
 refine qn 52 (.bool false) ?_ ?_
 ·refine Z30 ?_
  refine Zgx ?_
  refine qb rfl rfl (fun hg3=>?_) (fun hg3=>?_)
  ·refine Z5g ?_
   exact Zyf
  ·refine Z5x ?_
   refine Z5x ?_
   refine q5b rfl rfl (by decide) (V2.call (c0 _) rfl) ?_
   refine Z6c ?_
   exact Zyf
 refine Z1 ?_
 refine qa rfl (fun hc=>?_) (fun hc=>?_)
 ·cases hc
 clear hc
 refine Z1e ?_
 refine qm (G:=Nat×Inst) (fun q=>q.1≤l.length∧OKI q.2∧q.2.jobs.length≤q.1∧0≤q.2.now) (fun q=>[(KT,KD.av),(3,.pl (l.map qo0)),(9,.pt (Lid H.length 0) 0 0 0),(11,.pt (Lid H.length 1) 0 0 0),(13,.int .i64 (q.1:Int))]) (fun q=>H++[⟨0,9,[q19 q.2]⟩,⟨0,9,[q19 q.2]⟩]) (fun q=>l.length-q.1) (0,i0) ⟨Nat.zero_le _,hok,by rw [q2];simp,by rw [q3];exact Int.le_refl _⟩ Y6 (.inl rfl) ?_
 clear q1 q2 q3 hok
 rintro ⟨k,i⟩ ⟨hk,hok,hjl,hpos⟩
 simp only at hk hok hjl hpos ⊢
 refine Z8z ?_
 refine qa rfl (fun hc=>?_) (fun hc=>?_)
 ·have hlt:k<l.length:=by simpa using hc
  obtain ⟨a,ha,hal⟩:=qo hlt
  have hr:=qh qo0 ha
  have haw:=hll a hal
  have hat:=hlt' a hal
  have hw:=hok.ri
  have hon:=hok.ado a (by omega) (by omega) hat (by omega) hpos
  have hjn:=qti i a
  clear hc
  refine Zo7 ?_
  refine Zfj ?_
  refine Zv6 ?_
  refine Z6k ?_
  refine Zyg ?_
  refine q48 5 rfl Y17 (by decide) (fun _=>V2.callT (qtf i a _ hpos hw (by omega) (by omega) (by omega)) rfl rfl) ?_
  refine Zyh ?_
  refine Zyi ?_
  refine Zyj ?_
  refine Zy5 ?_
  refine Zyk ?_
  refine Zyl ?_
  refine Zq7 ?_
  refine Zym ?_
  refine Z1l ?_
  refine Z9w ?_
  refine Z1 ?_
  refine Zly ?_
  refine Zfj ?_
  refine Zv6 ?_
  refine Z6k ?_
  refine Zyg ?_
  refine q48 5 rfl Y17 (by decide) (fun _=>V2.call (qoz i a _ hok hpos (by omega) (by omega) (by omega) hat) rfl) ?_
  refine Zyh ?_
  refine Zyi ?_
  refine Zyj ?_
  refine Zy5 ?_
  refine Zyk ?_
  refine Zyl ?_
  refine Zq7 ?_
  refine Zym ?_
  refine Z1l ?_
  refine Z9w ?_
  generalize ado i a=n at *
  obtain ⟨n,id,f⟩:=n
  simp only at hon hjn ⊢
  obtain ⟨hon,hnp⟩:=hon
  have hfl:=quy n
  have c1:=fun H=>qf6 n n H hon.ri
  have c2:=fun H=>qj9 n H hon.ri.iw
  have c3:=fun H=>qow n H hon.ri.iw hon.tg
  have c4:=fun H=>q6b (q9h n) (q9h n) H (by omega)
  refine Z1 ?_
  refine q1l 100 (.bool false) ?_ ?_
  ·refine Ztz ?_
   refine Za9 ?_
   refine Z9p ?_
   refine Z1j ?_
   refine Zre ?_
   refine Z9z ?_
   refine qp (g:=82) rfl (fun hg3=>?_) (fun hg3=>?_)
   ·refine qr (g:=82) 4 rfl Y17 (by decide) rfl rfl rfl ?_
    refine qr (g:=82) 5 rfl Y17 (by decide) rfl rfl rfl ?_
    refine qr (g:=82) 6 rfl Y17 (by decide) rfl rfl rfl ?_
    refine aq0 7 rfl Y17 (by decide) (fun _=>q16 (v:=.bool _) rfl rfl) ?_
    refine Zyn ?_
    refine Zyo ?_
    refine Zyp ?_
    refine Zyq ?_
    refine Zyr ?_
    refine Zys ?_
    refine Zyt ?_
    refine Zyu ?_
    refine Zyv ?_
    refine Zyw ?_
    refine Zyx ?_
    refine Zyy ?_
    refine Zyz ?_
    refine Zz0 ?_
    exact Zz1
   ·refine q1h (g:=82) 4 rfl Y17 (by decide) rfl rfl (fun _=>qd (v:=.int _ _) rfl) ?_
    refine q1h (g:=82) 5 rfl Y17 (by decide) rfl rfl (fun _=>qd (v:=.int _ _) rfl) ?_
    refine q1h (g:=82) 6 rfl Y17 (by decide) rfl rfl (fun _=>qpe rfl rfl) ?_
    refine aq0 7 rfl Y17 (by decide) (fun _=>q17 (v:=.bool _) rfl rfl) ?_
    refine Zyn ?_
    refine qp (g:=87) rfl (fun hg8=>?_) (fun hg8=>?_)
    ·refine Zyo ?_
     refine Zyp ?_
     refine Zyq ?_
     refine Zyr ?_
     refine Zys ?_
     refine Zyt ?_
     refine Zyu ?_
     refine Zyv ?_
     refine Zyw ?_
     refine Zyx ?_
     refine Zyy ?_
     refine Zyz ?_
     refine Zz0 ?_
     exact Zz1
    ·refine q1j (g:=87) 9 rfl Y17 (by decide) rfl rfl (fun G=>q2h rfl (lk rfl rfl) rfl rfl rfl) ?_
     refine q1j (g:=87) 10 rfl Y17 (by decide) rfl rfl (fun G=>q2h rfl (lk rfl rfl) rfl rfl rfl) ?_
     refine q7c (g:=87) 11 rfl Y17 (by decide) rfl rfl (fun _=>V2.call (c1 _) rfl) ?_
     refine q1h (g:=87) 12 rfl Y17 (by decide) rfl rfl (fun _=>q8e rfl) ?_
     refine aq0 13 rfl Y17 (by decide) (fun _=>q17 (v:=.bool _) rfl rfl) ?_
     refine Zyt ?_
     refine qp (g:=93) rfl (fun hg14=>?_) (fun hg14=>?_)
     ·refine Zyu ?_
      refine Zyv ?_
      refine Zyw ?_
      refine Zyx ?_
      refine Zyy ?_
      refine Zyz ?_
      refine Zz0 ?_
      exact Zz1
     ·refine q1j (g:=93) 15 rfl Y17 (by decide) rfl rfl (fun G=>q2h rfl (lk rfl rfl) rfl rfl rfl) ?_
      refine q7c (g:=93) 16 rfl Y17 (by decide) rfl rfl (fun _=>V2.callT (c2 _) rfl rfl) ?_
      refine q1j (g:=93) 17 rfl Y17 (by decide) rfl rfl (fun G=>q2h rfl (lk rfl rfl) rfl rfl rfl) ?_
      refine q7c (g:=93) 18 rfl Y17 (by decide) rfl rfl (fun _=>V2.call (c3 _) rfl) ?_
      refine q7c (g:=93) 19 rfl Y17 (by decide) rfl rfl (fun _=>V2.call (c4 _) rfl) ?_
      refine q1h (g:=93) 20 rfl Y17 (by decide) rfl rfl (fun _=>q8e rfl) ?_
      refine aq0 21 rfl Y17 (by decide) (fun _=>q17 (v:=.bool _) rfl rfl) ?_
      exact Zz1
  refine Z1 ?_
  refine qa rfl (fun hc=>?_) (fun hc=>?_)
  ·cases hc
  clear hc
  refine Z1 ?_
  refine q4m ([(KT,KD.av),(3,.pl (l.map qo0)),(9,.pt (Lid H.length 0) 0 0 0),(11,.pt (Lid H.length 1) 0 0 0),(13,.int .i64 (k:Int))]) (H++[⟨0,9,[q19 n]⟩,⟨0,9,[q19 n]⟩,⟨0,9,[q19 n]⟩,⟨0,9,[q19 n]⟩]) ?_ ?_
  ·refine Z1 ?_
   refine Z9x ?_
   refine qyh 0 rfl Y17 (by decide) (fun G hG1 hG2=>q2h rfl (lk rfl hG1) rfl rfl rfl) ?_
   refine qyh 1 rfl Y17 (by decide) (fun G hG1 hG2=>q2h rfl (lk rfl hG2) rfl rfl rfl) ?_
   refine aqs 2 rfl Y17 Ym Y1b (q2p (sz:=9) rfl rfl rfl rfl rfl rfl rfl rfl (Nat.le_of_ble_eq_true rfl)) ?_
   refine aqs 3 rfl Y17 Ym Y1b (q2p (sz:=9) rfl rfl rfl rfl rfl rfl rfl rfl (Nat.le_of_ble_eq_true rfl)) ?_
   refine Za3 ?_
   refine Z88 ?_
   exact q2d Y6 (.inl rfl)
  refine Z2l ?_
  exact ⟨(k+1,n),by simp only;omega,⟨by simp only;omega,hon,by simp only;omega,hnp⟩,Y6,Fit.loc hB rfl Y1 (qi4 _ _ rfl)⟩
 ·exact Z5m
end Go.Av
namespace Go.Av
open Go.RowKit
theorem qwb {P:Program} {w:World} {K:Know} {f:FuncId} {avs:List AV} {us:List Value} {bb:Bool} (h:ACT P K f avs [] (Ret (.bool bb) [])) (hk:Kn K [] w) (hv:All2 (VR (own []) w []) avs us):Calls P f us.toArray w fun e w'=>e = .returned (.bool bb)∧Below w.heap.size w w':=by
 refine (h [] w us.toArray hk ⟨rfl,fun _ _ _ h=>by simp at h,fun _ _ _ _ _ h=>by simp at h⟩ hv.vrs).mono fun e w'=>?_
 rintro ⟨o,H',S',⟨rfl,rfl⟩,ho,hh,hx⟩
 cases ho with
 | ret hb =>
  cases hb
  exact ⟨rfl,hx.os,hx.tape,hx.output,hx.stp.size,fun k hk=>(hx.stp.old k hk (by rintro ⟨i,s,hs,_⟩;simp at hs)).2⟩
theorem qrt {P:Program} {W:World} {name:String} {k:IntKind} {zs:List Int} {g:Nat} {K:Know} (hg:P.globalNamed name=some g) (hz:zs≠[]) (hK:K=⟨g,zs.map fun z=>Value.int k z⟩) (h:Lib.TabIs P W name k zs):Kn K [] W:=by
 subst hK
 have hc:∀ j v,(zs.map fun z=>Value.int k z)[j]?=some v→W.cell? ⟨g,j,none⟩=some v:=by
  intro j v hj
  have:=World.var?_cell hg h j
  rw [this]
  simpa using hj
 have hx:∃ ty fz,W.heap[g]?=some (Obj.cells (zs.map fun z=>Value.int k z).toArray ty fz):=by
  unfold Lib.TabIs World.var? at h
  rw [hg] at h
  simp only [Option.bind_some] at h
  split at h
  ·rename_i cs ty fz e
   obtain rfl:=Option.some.inj h
   exact ⟨ty,fz,e⟩
  ·cases h
 refine ⟨by rintro ⟨i,s,hs,_⟩;simp at hs,?_,hc,hx⟩
 clear hx
 cases zs with
 | nil=>exact absurd rfl hz
 | cons z zs =>
  have h0:=hc 0 _ rfl
  show g<W.heap.size
  rcases Nat.lt_or_ge g W.heap.size with h1 | h1
  ·exact h1
  ·exfalso
   simp [World.cell?,Array.getElem?_eq_none h1] at h0
end Go.Av
namespace Go.Av
open Go.Proofs Go.Proofs.YtcncbmpblkgfjaaGreatDoor
open Go.RowKit
theorem qc9 {α:Type} {e:α→List AV} {p:α→Prop}:∀ {rows:List (List AV)},(∀ r∈rows,∃ x:α,r=e x∧p x)→∃ l:List α,rows=l.map e∧∀ x∈l,p x
 | [],_=>⟨[],rfl,(fun _ h=>nomatch h)⟩
 | r :: rows,h=>by
  obtain ⟨x,rfl,hx⟩:=h r List.mem_cons_self
  obtain ⟨l,rfl,hl⟩:=qc9 fun r hr=>h r (List.mem_cons_of_mem _ hr)
  refine ⟨x :: l,rfl,fun y hy=>?_⟩
  rcases List.mem_cons.1 hy with rfl | hy
  ·exact hx
  ·exact hl y hy
theorem qq6 {r:List AV} (h:qo8 Tryz.prog 5 [3,3,9] r):∃ x:Thing,r=qq x∧x.tag.size≤9223372036854775807:=by
 obtain ⟨a0,r,rfl,h0,h⟩:=q2x h
 obtain ⟨a1,r,rfl,h1,h⟩:=q2x h
 obtain ⟨a2,r,rfl,h2,h⟩:=q2x h
 obtain rfl:=ql9 h
 obtain ⟨i0,rfl,_⟩:=q3m (UdI.ud (P:=Tryz.prog) (t:=3)) h0
 obtain ⟨i1,rfl,_⟩:=q3m (UdI.ud (P:=Tryz.prog) (t:=3)) h1
 obtain ⟨i2,rfl,hs⟩:=qn2 (UdI.ud (P:=Tryz.prog) (t:=9)) h2
 exact ⟨⟨i0,i1,i2⟩,rfl,hs⟩
theorem qiw {a:AV} (h:q4j Tryz.prog 5 23 a):∃ l:List Int,a = .pl (l.map eI):=by
 have hts:q65 Tryz.prog (4+1) 3=some [3]:=by kernel_rfl
 obtain ⟨rows,rfl,_,h3⟩:=qkf (SlI.ud (P:=Tryz.prog) (t:=23)) hts h
 obtain ⟨l,rfl⟩:=qlt (e:=eI) (rows:=rows) fun r hr=>by
  have h:=h3 r hr
  obtain ⟨a1,r,rfl,h1,h⟩:=q2x h
  obtain rfl:=ql9 h
  obtain ⟨i1,rfl,_⟩:=q3m (UdI.ud (P:=Tryz.prog) (t:=3)) h1
  exact ⟨i1,rfl⟩
 exact ⟨l,rfl⟩
theorem qoy {a:AV} (h:q4j Tryz.prog 6 22 a):∃ l:List Thing,a = .pl (l.map qq)∧TW l:=by
 have hts:q65 Tryz.prog (5+1) 72=some [3,3,9]:=by kernel_rfl
 obtain ⟨rows,rfl,_,h3⟩:=qkf (SlI.ud (P:=Tryz.prog) (t:=22)) hts h
 obtain ⟨l,rfl,hl⟩:=qc9 (e:=qq) (rows:=rows) fun r hr=>qq6 (h3 r hr)
 exact ⟨l,rfl,hl⟩
theorem qwx {r:List AV} (h:qo8 Tryz.prog 5 [3,3,3,3,9,4,2,3,23,3,3,2,23] r):∃ x:LAct,r=qo0 x∧x.spec.tag.size≤9223372036854775807:=by
 obtain ⟨a0,r,rfl,h0,h⟩:=q2x h
 obtain ⟨a1,r,rfl,h1,h⟩:=q2x h
 obtain ⟨a2,r,rfl,h2,h⟩:=q2x h
 obtain ⟨a3,r,rfl,h3,h⟩:=q2x h
 obtain ⟨a4,r,rfl,h4,h⟩:=q2x h
 obtain ⟨a5,r,rfl,h5,h⟩:=q2x h
 obtain ⟨a6,r,rfl,h6,h⟩:=q2x h
 obtain ⟨a7,r,rfl,h7,h⟩:=q2x h
 obtain ⟨a8,r,rfl,h8,h⟩:=q2x h
 obtain ⟨a9,r,rfl,h9,h⟩:=q2x h
 obtain ⟨a10,r,rfl,h10,h⟩:=q2x h
 obtain ⟨a11,r,rfl,h11,h⟩:=q2x h
 obtain ⟨a12,r,rfl,h12,h⟩:=q2x h
 obtain rfl:=ql9 h
 obtain ⟨i0,rfl,_⟩:=q3m (UdI.ud (P:=Tryz.prog) (t:=3)) h0
 obtain ⟨i1,rfl,_⟩:=q3m (UdI.ud (P:=Tryz.prog) (t:=3)) h1
 obtain ⟨i2,rfl,_⟩:=q3m (UdI.ud (P:=Tryz.prog) (t:=3)) h2
 obtain ⟨i3,rfl,_⟩:=q3m (UdI.ud (P:=Tryz.prog) (t:=3)) h3
 obtain ⟨i4,rfl,hs⟩:=qn2 (UdI.ud (P:=Tryz.prog) (t:=9)) h4
 obtain ⟨i5,rfl⟩:=qpj (UdI.ud (P:=Tryz.prog) (t:=4)) h5
 obtain ⟨i6,rfl,_⟩:=q3m (UdI.ud (P:=Tryz.prog) (t:=2)) h6
 obtain ⟨i7,rfl,_⟩:=q3m (UdI.ud (P:=Tryz.prog) (t:=3)) h7
 obtain ⟨i8,rfl⟩:=qiw h8
 obtain ⟨i9,rfl,_⟩:=q3m (UdI.ud (P:=Tryz.prog) (t:=3)) h9
 obtain ⟨i10,rfl,_⟩:=q3m (UdI.ud (P:=Tryz.prog) (t:=3)) h10
 obtain ⟨i11,rfl,_⟩:=q3m (UdI.ud (P:=Tryz.prog) (t:=2)) h11
 obtain ⟨i12,rfl⟩:=qiw h12
 exact ⟨⟨i0,⟨i1,i2,i3,i4,i5,i6,i7⟩,i8,i9,i10,i11,i12⟩,rfl,hs⟩
theorem qvr {a:AV} (h:q4j Tryz.prog 6 39 a):∃ l:List LAct,a = .pl (l.map qo0)∧∀ x∈l,x.spec.tag.size≤9223372036854775807:=by
 have hts:q65 Tryz.prog (5+1) 52=some [3,3,3,3,9,4,2,3,23,3,3,2,23]:=by kernel_rfl
 obtain ⟨rows,rfl,_,h3⟩:=qkf (SlI.ud (P:=Tryz.prog) (t:=39)) hts h
 obtain ⟨l,rfl,hl⟩:=qc9 (e:=qo0) (rows:=rows) fun r hr=>qwx (h3 r hr)
 exact ⟨l,rfl,hl⟩
abbrev qs9 : List (String × DataW Unit) := [("math/bits.deBruijn64tab", Rows.laid_math_bits_deBruijn64tab)]
theorem qxj {W:World} (h:laidMetH Tryz.prog qs9 W):Kn KD [] W:=by
 rw [MakeChecks.laidMetH_plain _ _ _ Y1e] at h
 have hg : Tryz.prog.globalNamed "math/bits.deBruijn64tab" = some 0 := by kernel_rfl
 have h2 : Lib.TabIs Tryz.prog W "math/bits.deBruijn64tab" .u8 (Lib.deBruijn64tab.map fun n : Nat => (n : Int)) :=
  Lib.tabIs_of_head (rest:=[]) (t:=215) (e:=5) (n:=64) hg Y1e Y1e Y1e Y1e Y1e h
 exact qrt hg (by decide) (by unfold KD;rw [List.map_map];rfl) h2
theorem qth (os:Os) (args:Array Value):laidMetH Tryz.prog qs9 ((World.doorLaid Tryz.prog 400 os).forCall (fun _ _=>0) ⟨#[],args,[]⟩).memory :=
 laidMetH_of_parts3 (fuel:=8) (laidMet_of_run' 8 Y1e Y1e) Y1e Y1e
end Go.Av
