/- Parts of the proof: rules for an abstract memory, plain laws, and walks through the program. -/
import Derived.Test.YtaaeifggppgieaaGreatDoorTextP0
import Derived.Test.YtaaeifggppgieaaGreatDoorTextP1
import Derived.Lib.Join
import Derived.Lib.ItoaNum
import Derived.Lib.AtoiAll
import Derived.Lib.Bytealg
import Derived.Laws.StructEq
import Derived.DataReads
import Derived.ChangeOld
import Derived.WalkKit
import Derived.ProofKit
import Derived.OpenShut
import Derived.ShutString
import Derived.Below
import Derived.SizedLaws
import Derived.Carry
import Derived.Lib.LaidTab
import Derived.LaidMore
import Derived.Handed
import Derived.Lib.AtoiErrMem
import Derived.Lib.ParseIntB
import Derived.Lib.ItoaLen
import Derived.Test.YtaaeifggppgieaaGreatDoorProg
import Derived.KernelRfl
import Derived.Lib.AppendIntMem
set_option maxRecDepth 10000
set_option linter.unusedVariables false
set_option linter.unusedSimpArgs false
namespace Go.Av
def dec (n:Int):List UInt8:=Lib.decDigits n.toNat
def q18 : List Int → List (Int × Int)
  | [] => []
  | x :: xs => match q18 xs with
    | [] => [(x, x)]
    | (a, b) :: r => if a = x + 1 then (x, b) :: r else (x, x) :: (a, b) :: r
def qy (r:Int×Int):List UInt8:=if r.1<r.2 then dec r.1++45 :: dec r.2 else dec r.1
def q29 (rs:List (Int×Int)):List UInt8:=Lib.join (rs.map qy) [44]
def q2m (l:List Int):List UInt8:=if sok l then q29 (q18 l) else []
def rng (a b:Int):List Int:=(List.range (b+1-a).toNat).map fun k:Nat=>a+(k:Int)
def q5a (rs:List (Int×Int)):List Int:=rs.flatMap fun r=>rng r.1 r.2
def RCh:Int→List (Int×Int)→Prop
 | _,[]=>True
 | last,(a,b) :: r=>last+1<a∧a≤b∧b<256∧RCh b r
theorem qdd {a b:Int} (h:a≤b):rng a b=a :: rng (a+1) b:=by
 unfold rng
 rw [show (b+1-a).toNat=(b+1-(a+1)).toNat+1 by omega,List.range_succ_eq_map]
 simp only [List.map_cons,List.map_map]
 congr 1
 ·simp
 ·exact List.map_congr_left fun k _=>by simp;omega
theorem q9k (a:Int):rng a a=[a]:=by
 unfold rng
 rw [show (a+1-a).toNat=1 by omega];simp [List.range_succ]
theorem qgi {a b:Int} (h:b<a):rng a b=[]:=by
 unfold rng
 rw [show (b+1-a).toNat=0 by omega];rfl
theorem qdt {a b:Int} (h:a≤b+1):rng a (b+1)=rng a b++[b+1]:=by
 unfold rng
 rw [show (b+1+1-a).toNat=(b+1-a).toNat+1 by omega,List.range_succ,List.map_append]
 simp only [List.map_cons,List.map_nil]
 congr 2
 omega
theorem q9p (a b:Int):(rng a b).length=(b+1-a).toNat:=by simp [rng]
theorem q3a {l:List Int}:q18 l=[]↔l=[]:=by
 cases l with
 | nil=>simp [q18]
 | cons x xs =>
  simp only [q18]
  split
  ·simp
  ·split<;>simp
theorem qe5:∀ (l:List Int) (last:Int),l.Pairwise (· < ·)→(∀ x∈l,last+1<x∧x<256)→RCh last (q18 l)
 | [],_,_,_=>trivial
 | x :: xs,last,hs,hr=>by
  have h0:=hr x (List.mem_cons_self ..)
  rw [List.pairwise_cons] at hs
  have ih:=qe5 xs (x-1) hs.2 fun y hy=>⟨by have:=hs.1 y hy;omega,(hr y (List.mem_cons_of_mem _ hy)).2⟩
  simp only [q18]
  split
  ·exact ⟨h0.1,Int.le_refl _,h0.2,trivial⟩
  ·rename_i a b r e
   rw [e] at ih
   obtain ⟨i1,i2,i3,i4⟩:=ih
   split
   ·exact ⟨h0.1,by omega,i3,i4⟩
   ·exact ⟨h0.1,Int.le_refl _,h0.2,by omega,i2,i3,i4⟩
theorem q6x {l:List Int} (h:sok l=true):RCh (-2) (q18 l) :=
 qe5 l (-2) (q30 h) fun x hx=>by have:=q5j h hx;omega
theorem qdz:∀ (l:List Int) (r:Int×Int),r∈q18 l→r.1≤r.2
 | [],r,h=>by simp [q18] at h
 | x :: xs,r,h=>by
  have ih:=qdz xs
  simp only [q18] at h
  split at h
  ·simp only [List.mem_singleton] at h;subst h;exact Int.le_refl _
  ·rename_i a b t e
   rw [e] at ih
   split at h
   ·rcases List.mem_cons.1 h with rfl | h
    ·have:=ih (a,b) (List.mem_cons_self ..);simp only at this ⊢;omega
    ·exact ih r (List.mem_cons_of_mem _ h)
   ·rcases List.mem_cons.1 h with rfl | h
    ·exact Int.le_refl _
    ·exact ih r h
theorem q3r:∀ l:List Int,q5a (q18 l)=l
 | []=>rfl
 | x :: xs=>by
  have ih:=q3r xs
  have hle:=qdz xs
  simp only [q18]
  split
  ·rename_i e
   rw [q3a] at e
   subst e
   simp [q5a,q9k]
  ·rename_i a b r e
   rw [e] at ih hle
   have hab:=hle (a,b) (List.mem_cons_self ..)
   simp only at hab
   simp only [q5a,List.flatMap_cons] at ih
   split
   ·rename_i ha
    simp only [q5a,List.flatMap_cons]
    rw [qdd (by omega),← ha,List.cons_append,ih]
   ·simp only [q5a,List.flatMap_cons,q9k]
    rw [ih];rfl
theorem q50:∀ (n:Nat) (a b:Int) (t:List Int),b-a=n→(∀ a' b' r,q18 t=(a',b') :: r→b+1<a')→q18 (rng a b++t)=(a,b) :: q18 t
 | 0,a,b,t,hn,ht=>by
  obtain rfl:b=a:=by omega
  rw [q9k]
  simp only [List.cons_append,List.nil_append,q18]
  split
  ·rename_i e;rw [e]
  ·rename_i a' b' r e
   have:=ht a' b' r e
   rw [if_neg (by omega),e]
 | n+1,a,b,t,hn,ht=>by
  rw [qdd (by omega),List.cons_append]
  simp only [q18]
  rw [q50 n (a+1) b t (by omega) ht]
  simp
theorem RCh.weak {a b : Int} (h : a ≤ b) : ∀ {rs : List (Int × Int)}, RCh b rs → RCh a rs
  | [], _ => trivial
  | (_, _) :: _, ⟨h1, h2⟩ => ⟨by omega, h2⟩
theorem RCh.each : ∀ {rs : List (Int × Int)} {last : Int}, RCh last rs → ∀ r ∈ rs, last + 1 < r.1 ∧ r.1 ≤ r.2 ∧ r.2 < 256
  | [], _, _, r, hr => by simp at hr
  | (a, b) :: t, last, ⟨h1, h2, h3, h4⟩, r, hr => by
    rcases List.mem_cons.1 hr with rfl | hr
    · exact ⟨h1, h2, h3⟩
    · have := RCh.each (h4.weak (a := last) (by omega)) r hr
      exact this
def ql3 (n:Nat):List UInt8:=if n<10 then [UInt8.ofNat (48+n)] else if n<100 then [UInt8.ofNat (48+n / 10),UInt8.ofNat (48+n % 10)] else [UInt8.ofNat (48+n / 100),UInt8.ofNat (48+n / 10 % 10),UInt8.ofNat (48+n % 10)]
theorem qmt {n:Nat} (h:n<1000):Lib.decDigits n=ql3 n:=by
 unfold ql3
 split
 ·rename_i h;exact Lib.decDigits_one h
 ·split
  ·rename_i h1 h2;exact Lib.decDigits_two h1 h2
  ·rename_i h1 h2
   rw [Lib.decDigits,dif_neg h1,Lib.decDigits_two (by omega) (by omega),show n / 10 / 10=n / 100 by omega]
   rfl
theorem qex:∀ n:Fin 256,((ql3 n.val).all fun c=>decide (48≤c.toNat)&&decide (c.toNat≤57))=true∧Lib.atoiAll (ql3 n.val) = .ok (n.val:Int)∧(ql3 n.val).length≤3∧0<(ql3 n.val).length:=by decide +kernel
theorem q1q {n:Int} (h0:0≤n) (h1:n<256):(∀ c∈dec n,48≤c.toNat∧c.toNat≤57)∧Lib.atoiAll (dec n) = .ok n∧(dec n).length≤3∧0<(dec n).length:=by
 have:=qex ⟨n.toNat,by omega⟩
 rw [dec,qmt (by omega)]
 simp only [List.all_eq_true,Bool.and_eq_true,decide_eq_true_eq] at this
 obtain ⟨k1,k2,k3⟩:=this
 refine ⟨k1,?_,k3⟩
 rw [k2,show ((n.toNat:Nat):Int)=n by omega]
theorem qd5 {n:Int} (h0:0≤n) (h1:n<256) {c:UInt8} (hc:c.toNat<48):c∉dec n:=fun h=>by
 have:=(q1q h0 h1).1 c h;omega
theorem qhw {a b:Int} (h0:0≤a) (h:a≤b) (h1:b<256):(44:UInt8)∉qy (a,b):=by
 unfold qy
 simp only
 split
 ·rw [List.mem_append,List.mem_cons]
  rintro (h | h | h)
  ·exact qd5 (c:=44) h0 (by omega) (by decide) h
  ·exact absurd h (by decide)
  ·exact qd5 (c:=44) (by omega) h1 (by decide) h
 ·exact qd5 (c:=44) h0 (by omega) (by decide)
theorem q3u {a b:Int} (h0:0≤a) (h:a≤b) (h1:b<256):(qy (a,b)).length≤7∧0<(qy (a,b)).length:=by
 have k1:=q1q h0 (by omega:a<256)
 have k2:=q1q (by omega:0≤b) h1
 unfold qy
 simp only
 split
 ·simp only [List.length_append,List.length_cons];omega
 ·omega
def atI (s:List UInt8):Option Int:=match Lib.atoiAll s with | .ok v=>some v | _=>none
def q1y (s:List UInt8):List UInt8:=s.takeWhile (· != 45)
def q3l (s:List UInt8):List UInt8:=if s.contains 45 then (s.dropWhile (· != 45)).tail else q1y s
def qcj (s:List UInt8):Option (List Int) :=
 match atI (q1y s),atI (q3l s) with
 | some a,some b=>if a<0∨b<a∨256≤b then none else some (rng a b)
 | _,_=>none
def q1j:List Int→List (List UInt8)→Option (List Int)
 | out,[]=>some out
 | out,s :: r=>match qcj s with
  | none=>none
  | some l=>if 256<out.length+l.length then none else q1j (out++l) r
def qk:List UInt8→List (List UInt8)
 | []=>[[]]
 | c :: r=>if c=44 then [] :: qk r else match qk r with
  | h :: t=>(c :: h) :: t
  | []=>[[c]]
def q3q (s:List UInt8):List Int×Int :=
 if 8192<s.length then ([],4) else if s=[] then ([],0) else
 match q1j [] (qk s) with
 | none=>([],3)
 | some out=>if q2m out=s then (out,0) else ([],3)
theorem q3f {p:UInt8→Bool}:∀ (a b:List UInt8),(∀ c∈a,p c=true)→(a++b).takeWhile p=a++b.takeWhile p
 | [],_,_=>rfl
 | x :: a,b,h=>by simp [h x (List.mem_cons_self ..),q3f a b fun c hc=>h c (List.mem_cons_of_mem _ hc)]
theorem q5b {p:UInt8→Bool}:∀ (a b:List UInt8),(∀ c∈a,p c=true)→(a++b).dropWhile p=b.dropWhile p
 | [],_,_=>rfl
 | x :: a,b,h=>by simp [h x (List.mem_cons_self ..),q5b a b fun c hc=>h c (List.mem_cons_of_mem _ hc)]
theorem qfc {a b:Int} (h0:0≤a) (h:a≤b) (h1:b<256):qcj (qy (a,b))=some (rng a b):=by
 have ka:=q1q h0 (by omega:a<256)
 have kb:=q1q (by omega:0≤b) h1
 have na:∀ c∈dec a,(c != 45)=true:=fun c hc=>by
  have:=ka.1 c hc
  simp only [bne_iff_ne,ne_eq]
  rintro rfl
  exact absurd this.1 (by decide)
 have hfirst:q1y (qy (a,b))=dec a:=by
  unfold q1y qy
  simp only
  split
  ·rw [q3f _ _ na];simp
  ·have:=q3f (dec a) [] na;simpa using this
 have hlast:q3l (qy (a,b))=dec b:=by
  unfold q3l
  rw [hfirst]
  unfold qy
  simp only
  by_cases hab:a<b
  ·rw [if_pos hab,if_pos (by simp),q5b _ _ na]
   simp
  ·obtain rfl:a=b:=by omega
   rw [if_neg hab,if_neg]
   intro hc
   exact qd5 (c:=45) h0 h1 (by decide) Yt
 unfold qcj
 rw [hfirst,hlast]
 unfold atI
 rw [ka.2.1,kb.2.1]
 simp only
 rw [if_neg (by omega)]
theorem q6d : ∀ (rs : List (Int × Int)) (out : List Int), (∀ r ∈ rs, 0 ≤ r.1 ∧ r.1 ≤ r.2 ∧ r.2 < 256) → (out ++ q5a rs).length ≤ 256 → q1j out (rs.map qy) = some (out ++ q5a rs)
  | [], out, _, _ => by simp [q1j, q5a]
  | (a, b) :: r, out, hr, hl => by
    obtain ⟨h0, h1, h2⟩ := hr (a, b) (List.mem_cons_self ..)
    simp only at h0 h1 h2
    simp only [q5a, List.flatMap_cons] at hl ⊢
    rw [← List.append_assoc] at hl ⊢
    simp only [List.map_cons, q1j]
    rw [qfc h0 h1 h2]
    simp only
    rw [if_neg (by simp only [List.length_append] at hl; omega)]
    exact q6d r (out ++ rng a b) (fun x hx => hr x (List.mem_cons_of_mem _ hx)) hl
theorem q59:∀ (x:List UInt8),(44:UInt8)∉x→qk x=[x]
 | [],_=>rfl
 | c :: r,h=>by
  simp only [qk]
  rw [if_neg (fun e=>h Yc),q59 r fun hr=>h (List.mem_cons_of_mem _ hr)]
theorem q8c:∀ (x t:List UInt8),(44:UInt8)∉x→qk (x++44 :: t)=x :: qk t
 | [],t,_=>by simp [qk]
 | c :: r,t,h=>by
  simp only [List.cons_append,qk]
  rw [if_neg (fun e=>h Yc),q8c r t fun hr=>h (List.mem_cons_of_mem _ hr)]
theorem q48 (x y:List UInt8) (t:List (List UInt8)):Lib.join (x :: y :: t) [44]=x++44 :: Lib.join (y :: t) [44]:=by
 simp [Lib.join,List.intercalate,List.intersperse]
theorem q6r (x:List UInt8):Lib.join [x] [44]=x:=by simp [Lib.join,List.intercalate]
theorem q6l:Lib.join [] [44]=[]:=by simp [Lib.join,List.intercalate]
theorem q7e:∀ (xs:List (List UInt8)),xs≠[]→(∀ x∈xs,(44:UInt8)∉x)→qk (Lib.join xs [44])=xs
 | [],h,_=>absurd rfl h
 | [x],_,hx=>by rw [q6r];exact q59 x (hx x (List.mem_cons_self ..))
 | x :: y :: t,_,hx=>by
  rw [q48,q8c x _ (hx x (List.mem_cons_self ..)),q7e (y :: t) (by simp) fun z hz=>hx z (List.mem_cons_of_mem _ hz)]
theorem q9e:∀ (xs:List (List UInt8)),(∀ x∈xs,x.length≤7)→(Lib.join xs [44]).length≤8 * xs.length
 | [],_=>by rw [q6l];simp
 | [x],hx=>by rw [q6r];have:=hx x (List.mem_cons_self ..);simp;omega
 | x :: y :: t,hx=>by
  rw [q48]
  have h1:=hx x (List.mem_cons_self ..)
  have h2:=q9e (y :: t) fun z hz=>hx z (List.mem_cons_of_mem _ hz)
  simp only [List.length_append,List.length_cons] at h2 ⊢
  omega
theorem qi4 {xs:List (List UInt8)} (h:xs≠[]) (hx:∀ x∈xs,0<x.length):Lib.join xs [44]≠[]:=by
 intro e
 match xs,h with
 | [x],_=>rw [q6r] at e;have:=hx x (List.mem_cons_self ..);rw [e] at this;simp at this
 | x :: y :: t,_=>rw [q48] at e;simp at e
theorem q7m:∀ l:List Int,(q18 l).length≤l.length
 | []=>Nat.le_refl _
 | x :: xs=>by
  have ih:=q7m xs
  simp only [q18]
  split
  ·simp
  ·rename_i a b r e
   rw [e] at ih
   split<;>simp at ih ⊢<;>omega
theorem q22 {l:List Int} (h:sok l=true):q2m l=q29 (q18 l):=by rw [q2m,if_pos h]
theorem q4p {rs:List (Int×Int)} (h:RCh (-2) rs):∀ r∈rs,0≤r.1∧r.1≤r.2∧r.2<256:=fun r hr=>by
 have:=h.each r hr;omega
theorem q5m {l:List Int} (h:sok l=true):l.length≤256:=by
 have h1:=q30 h
 have:l=qib (inl l):=qh9 h (q99 _) fun n=>by
  rw [qcy]
  cases hn:inl l n with
  | false=>simp
  | true=>simp [qff h hn]
 rw [this,qib,List.length_map]
 exact Nat.le_trans (List.length_filter_le _ _) (by simp)
theorem q7l {l:List Int} (h:sok l=true):(q2m l).length≤2048:=by
 rw [q22 h,q29]
 have h1:=q9e ((q18 l).map qy) fun x hx=>by
  obtain ⟨r,hr,rfl⟩:=List.mem_map.1 hx
  obtain ⟨k1,k2,k3⟩:=q4p (q6x h) r hr
  exact (q3u k1 k2 k3).1
 have:=q7m l
 have:=q5m h
 rw [List.length_map] at h1
 omega
theorem qfd {l:List Int} (h:sok l=true) (hn:l≠[]):q2m l≠[]:=by
 rw [q22 h,q29]
 refine qi4 (by simpa [q3a] using hn) fun x hx=>?_
 obtain ⟨r,hr,rfl⟩:=List.mem_map.1 hx
 obtain ⟨k1,k2,k3⟩:=q4p (q6x h) r hr
 exact (q3u k1 k2 k3).2
theorem qhc:q2m []=[]:=by rw [q22 qju];exact q6l
theorem qea {l:List Int} (h:sok l=true):q3q (q2m l)=(l,0):=by
 by_cases hn:l=[]
 ·subst hn;rw [qhc];rfl
 have hl:=q7l h
 unfold q3q
 rw [if_neg (by omega),if_neg (qfd h hn)]
 have hsp:qk (q2m l)=(q18 l).map qy:=by
  rw [q22 h,q29]
  refine q7e _ (by simpa [q3a] using hn) fun x hx=>?_
  obtain ⟨r,hr,rfl⟩:=List.mem_map.1 hx
  obtain ⟨k1,k2,k3⟩:=q4p (q6x h) r hr
  exact qhw k1 k2 k3
 rw [hsp,q6d _ _ (q4p (q6x h)) (by rw [List.nil_append,q3r];exact q5m h)]
 simp [q3r]
theorem qbz:∀ {l:List Int} {a b:Int} {r:List (Int×Int)},q18 l=(a,b) :: r→∃ t,l=a :: t
 | [],_,_,_,h=>by simp [q18] at h
 | x :: xs,a,b,r,h=>by
  simp only [q18] at h
  split at h
  ·simp only [List.cons.injEq,Prod.mk.injEq] at h;exact ⟨xs,by rw [h.1.1]⟩
  ·split at h
   ·simp only [List.cons.injEq,Prod.mk.injEq] at h;exact ⟨xs,by rw [h.1.1]⟩
   ·simp only [List.cons.injEq,Prod.mk.injEq] at h;exact ⟨xs,by rw [h.1.1]⟩
theorem q7u {r:Int×Int} {rs:List (Int×Int)} (h:rs≠[]):q29 (r :: rs)=qy r++44 :: q29 rs:=by
 cases rs with
 | nil=>exact absurd rfl h
 | cons x rs=>simp [q29,q48]
theorem q8e (r:Int×Int):q29 [r]=qy r:=by simp [q29,q6r]
abbrev bs (l:List UInt8):ByteArray:=⟨l.toArray⟩
theorem q4o (l:List UInt8):(bs l).size=l.length:=by simp [ByteArray.size]
theorem qj3 {a b:List UInt8}:bs a=bs b↔a=b:=by simp
theorem qm8 (a b:List UInt8):bs a++bs b=bs (a++b):=by
 apply ByteArray.ext;simp
theorem qlt (l:List UInt8) (a b:Nat):(bs l).extract a b=bs ((l.take b).drop a):=by
 apply ByteArray.ext
 simp only [ByteArray.data_extract]
 apply Array.ext'
 simp [Array.toList_extract,List.extract_eq_take_drop,List.drop_take]
theorem qlb (l:List UInt8) (i:Nat):(bs l)[i]?=l[i]?:=by
 cases h:l[i]? with
 | none =>
  rw [List.getElem?_eq_none_iff] at h
  exact getElem?_neg (bs l) i Yr
 | some v =>
  obtain ⟨hi,e⟩:=List.getElem?_eq_some_iff.1 h
  rw [getElem?_pos (bs l) i (by rw [q4o];exact hi)]
  rw [← e];rfl
theorem q1w (l:List UInt8):(bs l).data.toList=l:=by simp
theorem qdk {c:UInt8}:∀ {l:List UInt8},c∉l→Lib.indexByte l c = -1
 | [],_=>rfl
 | b :: l,h=>by
  unfold Lib.indexByte
  rw [if_neg (by simp only [beq_iff_eq];rintro rfl;exact h (List.mem_cons_self ..)),qdk fun k=>h (List.mem_cons_of_mem _ k)]
  rfl
theorem q6i {c:UInt8}:∀ {l:List UInt8},c∈l→Lib.indexByte l c=((l.takeWhile (· != c)).length:Int)
 | [],h=>by simp at h
 | b :: l,h=>by
  unfold Lib.indexByte
  by_cases e:b=c
  ·subst e;simp
  ·have hl:c∈l:=by
    rcases List.mem_cons.1 h with h | h
    ·exact absurd h.symm e
    ·exact h
   rw [if_neg (by simpa using e),q6i hl,if_neg (by simp only [beq_iff_eq];omega)]
   simp [e]
theorem q9z {c:UInt8}:∀ {l:List UInt8},l.take (l.takeWhile (· != c)).length=l.takeWhile (· != c)
 | []=>rfl
 | b :: l=>by
  by_cases e:b=c
  ·subst e;simp
  ·simp [e,q9z (c:=c) (l:=l)]
theorem qfg {c:UInt8}:∀ {l:List UInt8},l.drop (l.takeWhile (· != c)).length=l.dropWhile (· != c)
 | []=>rfl
 | b :: l=>by
  by_cases e:b=c
  ·subst e;simp
  ·simp [e,qfg (c:=c) (l:=l)]
theorem q68 {c:UInt8}:∀ {l:List UInt8},c∉l→l.takeWhile (· != c)=l
 | [],_=>rfl
 | b :: l,h=>by
  have e:b≠c:=fun e=>h Yc
  simp [e,q68 (c:=c) (l:=l) fun k=>h (List.mem_cons_of_mem _ k)]
theorem qht {c:UInt8}:∀ {l:List UInt8},c∈l→(l.takeWhile (· != c)).length<l.length
 | [],h=>by simp at h
 | b :: l,h=>by
  by_cases e:b=c
  ·subst e;simp
  ·have hl:c∈l:=by
    rcases List.mem_cons.1 h with h | h
    ·exact absurd h.symm e
    ·exact h
   simp [e,qht hl]
theorem q8x:∀ {l:List UInt8},(44:UInt8)∈l→qk l=l.takeWhile (· != 44) :: qk (l.dropWhile (· != 44)).tail
 | [],h=>by simp at h
 | b :: l,h=>by
  by_cases e:b=44
  ·subst e;simp [qk]
  ·have hl:(44:UInt8)∈l:=by
    rcases List.mem_cons.1 h with h | h
    ·exact absurd h.symm e
    ·exact h
   simp only [qk]
   rw [if_neg e,q8x hl]
   simp [e]
theorem qbe:∀ {l:List UInt8},(44:UInt8)∈l→Lib.countByte l 44=Lib.countByte (l.dropWhile (· != 44)).tail 44+1
 | [],h=>by simp at h
 | b :: l,h=>by
  by_cases e:b=44
  ·subst e;simp [Lib.countByte]
  ·have hl:(44:UInt8)∈l:=by
    rcases List.mem_cons.1 h with h | h
    ·exact absurd h.symm e
    ·exact h
   have:=qbe hl
   simp only [Lib.countByte] at this ⊢
   rw [List.count_cons_of_ne (by simpa using e),this]
   simp [e]
theorem qhy (l:List UInt8):Lib.countByte l 44≤l.length:=List.count_le_length
theorem count_mem {l:List UInt8}:0<Lib.countByte l 44↔(44:UInt8)∈l:=by
 simp only [Lib.countByte];exact List.count_pos_iff
theorem q51 {c:UInt8} {l:List UInt8}:l.drop ((l.takeWhile (· != c)).length+1)=(l.dropWhile (· != c)).tail:=by
 rw [← List.drop_drop,qfg,List.drop_one]
theorem q2d {c:UInt8} (l:List UInt8):(l.dropWhile (· != c)).tail.length≤l.length:=by
 rw [← q51,List.length_drop];omega
def qet:AV→Option Value
 | .int k n=>some (.int k n)
 | .bool b=>some (.bool b)
 | .str s=>some (.string s)
 | _=>none
theorem VR.flat_eq {O:Nat→Prop} {w:World} {S:List Slot} {v:AV} {u u':Value} (h:VR O w S v u) (hf:qet v=some u'):u=u':=by
 cases h<;>simp [qet] at hf<;>exact hf
theorem VR.agg_flat {O:Nat→Prop} {w:World} {S:List Slot} {cs:List AV} {us:List Value} {u:Value} (h:VR O w S (.agg cs) u) (hf:cs.map qet=us.map some):u = .agg us.toArray:=by
 cases h with
 | @agg _ _ vs hn hl h =>
  congr 1
  have hlen:cs.length=us.length:=by simpa using congrArg List.length hf
  apply Array.ext
  ·simp;omega
  ·intro j h1 h2
   have hj:j<cs.length:=by omega
   have hju:j<us.length:=by omega
   have e:qet cs[j]=some us[j]:=by
    have:=congrArg (·[j]?) hf
    simpa [hj,hju] using this
   have:=(h j cs[j] vs[j] (List.getElem?_eq_getElem hj) (Array.getElem?_eq_getElem h1)).flat_eq e
   simpa using this
section
variable {P : Program} {N : Nat} {env : Env} {H : q8} {ty : TypeId}
theorem qkz {t t':TypeId} {x y:Operand} {cs ds:List AV} {us vs:List Value} {b:Bool} (hx:aev env x = .agg cs) (hy:aev env y = .agg ds) (hu:cs.map qet=us.map some) (hv:ds.map qet=vs.map some)
  (hm:P.eqGuardType P.depth t=false) (hb:∀ w,(Op.equalIn 10000 t (.agg us.toArray) (.agg vs.toArray)).run P w = .ok b w):V1 P N (.binOp .eql t x y t') ty env H (.bool b):=by
 intro S a w hc
 have h1:=hc.ev x
 have h2:=hc.ev y
 rw [hx] at h1
 rw [hy] at h2
 have e1:=h1.agg_flat hu
 have e2:=h2.agg_flat hv
 refine ⟨.bool b,fun _ _ _ _=>?_,.bool⟩
 simp only [execOp,e1,e2,Sem.run_bind,run_eqGuard_agg w .eql t x y _ _ hm,Result.andThen_ok,run_eql_struct,hb w,Sem.run_pure]
end
def q77 (P:Program) (t:TypeId):Bool:=match P.underlying t with
 | some (.interface _)=>true
 | _=>false
section
variable {P : Program} {N : Nat} {env : Env} {H : q8} {ty : TypeId}
theorem q63 {t:TypeId} (h:q77 P t=true):∃ ms,P.underlying t=some (.interface ms):=by
 unfold q77 at h
 split at h
 ·exact ⟨_,by assumption⟩
 ·cases h
theorem q79 {t t2:TypeId} {v:Value} {ms:_} (hu:P.underlying t=some (.interface ms)) (d:Nat) (w:World):(Op.equalIn (d+1) t (.iface t2 v) .nilIface).run P w = .ok false w:=by
 simp [Op.equalIn,qo hu]
theorem q6f {t:TypeId} {ms:_} (hu:P.underlying t=some (.interface ms)) (d:Nat) (w:World):(Op.equalIn (d+1) t .nilIface .nilIface).run P w = .ok true w:=by
 simp [Op.equalIn,qo hu]
theorem qc1 {t t2:TypeId} {v:Value} {ms:_} (hu:P.underlying t=some (.interface ms)) (w:World):(binOp .neq t (.iface t2 v) .nilIface).run P w = .ok (.bool true) w:=by
 have:=q79 (t2:=t2) (v:=v) hu 9999 w
 simp only [binOp]
 simp [Op.equal,Op.maxDepth,this]
theorem qb4 {t:TypeId} {ms:_} (hu:P.underlying t=some (.interface ms)) (w:World):(binOp .neq t .nilIface .nilIface).run P w = .ok (.bool false) w:=by
 have:=q6f hu 9999 w
 simp only [binOp]
 simp [Op.equal,Op.maxDepth,this]
theorem qgu {t t' t2:TypeId} {x y:Operand} {v:AV} (ht:q77 P t=true) (hx:aev env x = .ifc t2 v) (hy:y = .const .nilIface):V1 P N (.binOp .neq t x y t') ty env H (.bool true):=by
 subst hy
 intro S a w hc
 obtain ⟨ms,hu⟩:=q63 ht
 have h1:=hc.ev x
 rw [hx] at h1
 generalize he:a.eval x=u at h1
 cases h1
 refine ⟨.bool true,fun _ _ _ _=>?_,.bool⟩
 have h2:a.eval (.const .nilIface) = .nilIface:=rfl
 simp only [execOp,he,h2,eqGuard]
 simp [qc1 hu]
theorem qde {t t':TypeId} {x y:Operand} (ht:q77 P t=true) (hx:aev env x = .nifc) (hy:y = .const .nilIface):V1 P N (.binOp .neq t x y t') ty env H (.bool false):=by
 subst hy
 intro S a w hc
 obtain ⟨ms,hu⟩:=q63 ht
 have h1:=hc.ev x
 rw [hx] at h1
 generalize he:a.eval x=u at h1
 cases h1
 refine ⟨.bool false,fun _ _ _ _=>?_,.bool⟩
 have h2:a.eval (.const .nilIface) = .nilIface:=rfl
 simp only [execOp,he,h2,eqGuard]
 simp [qb4 hu]
end
structure Know where
 g:Nat
 tab:List Value
def Kn (K:Know) (S:List Slot) (w:World):Prop:=¬ own S K.g∧K.g<w.heap.size∧(∀ j v,K.tab[j]?=some v→w.cell? ⟨K.g,j,none⟩=some v)∧∃ ty fz,w.heap[K.g]?=some (Obj.cells K.tab.toArray ty fz)
abbrev Know.av (K:Know):AV:=.know K.g K.tab
theorem VR.kn {S:List Slot} {w:World} {K:Know} {u:Value} (h:VR (own S) w S K.av u):Kn K S w:=by
 cases h with
 | know ho hg h hx=>exact ⟨ho,hg,h,hx⟩
theorem Kn.vr {S:List Slot} {w:World} {K:Know} {u:Value} (h:Kn K S w):VR (own S) w S K.av u:=.know h.1 h.2.1 h.2.2.1 h.2.2.2
def ACT (P:Program) (K:Know) (f:FuncId) (args:List AV) (H:q8) (R:AOut→q8→Prop):Prop :=
 ∀ S w cargs,Kn K S w→HRel H S w→VRs (own S) w S args cargs →
  Calls P f cargs w fun e w'=>∃ o H' S',R o H'∧OutR (own S') w' S' o e∧HRel H' S' w'∧Ext S w S' w'
section
variable {P : Program} {N : Nat} {B : Base} {env : Env} {H H0 L : q8} {ty : TypeId}
theorem ACT.up {K:Know} {f:FuncId} {vs us:List AV} {R:AOut→q8→Prop} (h:ACT P K f us H R) (hvs:vs.map AV.up=us):ACT P K f vs H R:=fun S w cargs hk hH hv=>h S w cargs hk hH (hvs▸hv.up)
theorem ACT.body {K:Know} {f:FuncId} {N:Nat} {fn:Func} {c:Code} {args:List AV} {R:AOut→q8→Prop} (rs:List ResultVar) (hf:P.funcs[f]?=some fn) (hb:fn.body=some c) (hr:fn.results=rs.toArray)
  (hN:fn.ntmps=N) (hn:args.length≤N) (h:∀ B,Begun B H args→AWp P N B c (Ends P B rs R) ((KT,K.av) :: params 0 args) (H++[])):ACT P K f args H R:=by
 subst hN
 simp only [List.append_nil] at h
 intro S w cargs hkn hH hv
 refine calls_of_wp hf hb ?_
 have hc:CR fn.ntmps ((KT,K.av) :: params 0 args) H S { tmps:=cargs++Array.replicate (fn.ntmps-cargs.size) undef,defers:=[] } w:=by
  refine ⟨hH,fun t=>?_,?_,rfl⟩
  ·by_cases hKT:KT=t
   ·subst hKT;rw [qa];exact hkn.vr
   rw [q6 _ _ hKT,q5s,if_pos (Nat.zero_le _),Nat.sub_zero]
   by_cases ht:t<args.length
   ·have h1:args.getD t .junk=args[t]:=by simp [List.getD,ht]
    have ht':t<cargs.size:=by rw [← hv.1];exact ht
    have h2:(cargs++Array.replicate (fn.ntmps-cargs.size) undef).getD t undef=cargs[t]:=by
     simp [Array.getElem?_append_left ht',ht']
    rw [h1,h2]
    exact hv.2 t _ _ (List.getElem?_eq_getElem ht) (Array.getElem?_eq_getElem ht')
   ·have h1:args.getD t .junk = .junk:=by simp [List.getD,List.getElem?_eq_none (Nat.le_of_not_lt ht)]
    rw [h1];exact .junk
  ·have:=hv.1
   simp
   omega
 have hbg:Begun ⟨S,w⟩ H args:=by
  refine ⟨hH.len.symm,hH.bel,?_⟩
  rw [AV.bels_iff]
  intro v hv'
  obtain ⟨j,hj⟩:=List.mem_iff_getElem?.1 hv'
  rw [hH.len]
  exact (hv.2 j v _ hj (Array.getElem?_eq_getElem Y6)).bel
 refine wp_mono (h ⟨S,w⟩ hbg S _ w hc (Ext.refl S w)) ?_
 intro e a' w' ⟨x,env',H',S',q,r,c,k⟩
 cases r with
 | nrm =>
  obtain ⟨vs,M,h1,h2,h3⟩:=q
  obtain ⟨u,k1,k2⟩:=q2f c hr h1
  obtain ⟨S2,m1,m2,m3⟩:=h2.ok c.heap k2 k
  exact ⟨c.defers,u,k1,_,M,S2,h3,.ret m2,m1,m3⟩
 | ret =>
  obtain ⟨vs,M,h1,h2,h3⟩:=q
  obtain ⟨u,k1,k2⟩:=q2f c hr h1
  obtain ⟨S2,m1,m2,m3⟩:=h2.ok c.heap k2 k
  exact ⟨c.defers,u,k1,_,M,S2,h3,.ret m2,m1,m3⟩
 | brk=>exact q.elim
 | pan hv =>
  obtain ⟨M,h2,h3⟩:=q
  obtain ⟨S2,m1,m2,m3⟩:=h2.ok c.heap hv k
  exact ⟨c.defers,_,M,S2,h3,.pan m2,m1,m3⟩
end
theorem qbf {α:Type} {sz:Nat}:∀ {rows:List (List α)},(∀ r∈rows,r.length=sz)→∀ {i:Nat} {r:List α} {j:Nat},rows[i]?=some r→j<sz→rows.flatten[i * sz+j]?=r[j]?
 | [],_,i,r,j,hr,_=>by simp at hr
 | x :: rows,hw,i,r,j,hr,hj=>by
  have hx:x.length=sz:=hw x (by simp)
  cases i with
  | zero =>
   simp at hr
   subst hr
   rw [List.flatten_cons,List.getElem?_append_left (by omega)]
   simp
  | succ i =>
   have:=qbf (rows:=rows) (fun r h=>hw r (by simp [h])) (i:=i) (r:=r) (j:=j) (by simpa using hr) hj
   rw [List.flatten_cons,List.getElem?_append_right (by rw [hx,Nat.succ_mul];omega),hx,show (i+1) * sz+j-sz=i * sz+j by rw [Nat.succ_mul];omega]
   exact this
def qj1 (P:Program) (rec:TypeId→Option (List TypeId)) (total:Nat):Nat→List Field→Option (List TypeId)
 | off,[]=>if off=total then some [] else none
 | off,f :: fs=>if f.offset=off then
   match rec f.type with
   | some a=>if a.length=P.cellsOf f.type then
     match qj1 P rec total (off+P.cellsOf f.type) fs with
     | some r=>some (a++r)
     | none=>none
    else none
   | none=>none
  else none
def q2w (P:Program):Nat→TypeId→Option (List TypeId)
 | 0,_=>none
 | n+1,t=>match P.underlying t with
  | some .bool | some (.int _) | some .string=>some [t]
  | some (.slice e)=>if P.cellsOf e=0 then none else some [t]
  | some (.struct fs)=>qj1 P (q2w P n) (P.cellsOf t) 0 fs.toList
  | some (.array m e)=>match q2w P n e with
   | some a=>if a.length=P.cellsOf e∧P.cellsOf t=m * P.cellsOf e then some (List.replicate m a).flatten else none
   | none=>none
  | _=>none
def q1t (P:Program):Nat→TypeId→AV→Prop
 | 0,_,_=>False
 | n+1,t,v=>match P.underlying t with
  | some .bool=>∃ b,v = .bool b
  | some (.int k)=>∃ i,v = .int k i∧(Lit.int k i).wf=true
  | some .string=>∃ s:ByteArray,v = .str s∧s.size≤maxLen
  | some (.slice e)=>∃ rows,v = .pl rows∧rows.length≤maxLen∧∀ r∈rows,∃ ts,q2w P (n+1) e=some ts∧r.length=ts.length∧∀ (j:Nat) (t':TypeId) (v':AV),ts[j]?=some t'→r[j]?=some v'→q1t P n t' v'
  | _=>False
def qca (P:Program) (n:Nat) (ts:List TypeId) (r:List AV):Prop:=r.length=ts.length∧∀ (j:Nat) (t':TypeId) (v':AV),ts[j]?=some t'→r[j]?=some v'→q1t P n t' v'
section
variable {P : Program} {Hd : Type} {enc : TypeId × Value → Hd} {w : World} {base : Nat} {spare : Nat → Bool} {held : Bool}
theorem qaw {rec:TypeId→Option (List TypeId)} {total:Nat}:∀ (fs:List Field) (off:Nat) (ts:List TypeId),qj1 P rec total off fs=some ts→off+ts.length=total∧off≤total ∧
  ∀ (f:Field),f∈fs→∃ a,rec f.type=some a∧a.length=P.cellsOf f.type∧off≤f.offset∧f.offset+a.length≤total∧(∀ j,j<a.length→ts[f.offset-off+j]?=a[j]?)
 | [],off,ts,h=>by
  unfold qj1 at h
  split at h
  ·cases h;simp_all
  ·cases h
 | f :: fs,off,ts,h=>by
  unfold qj1 at h
  split at h
  ·rename_i ho
   split at h
   ·rename_i a ha
    split at h
    ·rename_i hl
     split at h
     ·rename_i r hr
      cases h
      obtain ⟨h1,h2,h3⟩:=qaw fs _ _ hr
      refine ⟨by simp;omega,by omega,fun g hg=>?_⟩
      rcases List.mem_cons.1 hg with rfl | hg
      ·refine ⟨a,ha,hl,by omega,by omega,fun j hj=>?_⟩
       rw [ho,Nat.sub_self,Nat.zero_add,List.getElem?_append_left hj]
      ·obtain ⟨b,k1,k2,k3,k4,k5⟩:=h3 g hg
       refine ⟨b,k1,k2,by omega,k4,fun j hj=>?_⟩
       rw [List.getElem?_append_right (by omega),← k5 j hj]
       congr 1
       omega
     ·cases h
    ·cases h
   ·cases h
  ·cases h
theorem q8w {rec:TypeId→Option (List TypeId)} {total:Nat}:∀ (fs:List Field) (off:Nat) (ts:List TypeId),qj1 P rec total off fs=some ts→∀ j,off≤j→j<total→∃ f∈fs,f.offset≤j∧j<f.offset+P.cellsOf f.type
 | [],off,ts,h,j,h1,h2=>by
  unfold qj1 at h
  split at h
  ·omega
  ·cases h
 | f :: fs,off,ts,h,j,h1,h2=>by
  unfold qj1 at h
  split at h
  ·rename_i ho
   split at h
   ·split at h
    ·split at h
     ·rename_i r hr
      by_cases hj:j<off+P.cellsOf f.type
      ·exact ⟨f,List.mem_cons_self,by omega,by omega⟩
      ·obtain ⟨g,hg,k⟩:=q8w fs _ _ hr j (by omega) h2
       exact ⟨g,List.mem_cons_of_mem _ hg,k⟩
     ·cases h
    ·cases h
   ·cases h
  ·cases h
theorem q6o {t:TypeId} {fuel:Nat} {cs:List Value} {x:DataW Hd×List MemPlace} (hu:P.underlying t=some .bool∨(∃ k,P.underlying t=some (.int k))∨P.underlying t=some .string∨∃ e,P.underlying t=some (.slice e)) (h:DataW.trod enc P w base spare held (fuel+1) t cs=some x):∃ u,cs=[u]:=by
 unfold DataW.trod at h
 rcases hu with hu | ⟨k,hu⟩ | hu | ⟨e,hu⟩<;>rw [hu] at h<;>split at h<;>first | exact ⟨_,rfl⟩ | (simp_all;done)
theorem q42:∀ (n:Nat) (t:TypeId) (ts:List TypeId) (fuel:Nat) (cs:List Value) (x:DataW Hd×List MemPlace),q2w P n t=some ts→DataW.trod enc P w base spare held fuel t cs=some x →
  cs.length=ts.length∧∀ (j:Nat) (t':TypeId) (u:Value),ts[j]?=some t'→cs[j]?=some u→∃ fuel' x',DataW.trod enc P w base spare held fuel' t' [u]=some x'∧(P.underlying t'=some .bool∨(∃ k,P.underlying t'=some (.int k))∨P.underlying t'=some .string∨∃ e,P.underlying t'=some (.slice e)∧P.cellsOf e≠0)
 | 0,_,_,_,_,_,h,_=>by cases h
 | _+1,_,_,0,_,_,_,h=>by cases h
 | n+1,t,ts,fuel+1,cs,x,h,hx=>by
  have one:∀ u,cs=[u]→ts=[t]→(P.underlying t=some .bool∨(∃ k,P.underlying t=some (.int k))∨P.underlying t=some .string∨∃ e,P.underlying t=some (.slice e)∧P.cellsOf e≠0)→cs.length=ts.length∧∀ (j:Nat) (t':TypeId) (u:Value),ts[j]?=some t'→cs[j]?=some u→∃ fuel' x',DataW.trod enc P w base spare held fuel' t' [u]=some x'∧(P.underlying t'=some .bool∨(∃ k,P.underlying t'=some (.int k))∨P.underlying t'=some .string∨∃ e,P.underlying t'=some (.slice e)∧P.cellsOf e≠0):=by
   rintro u rfl rfl hk
   refine ⟨rfl,fun j t' u' h1 h2=>?_⟩
   cases j with
   | zero=>simp at h1 h2;subst h1;subst h2;exact ⟨fuel+1,x,hx,hk⟩
   | succ j=>simp at h1
  unfold q2w at h
  split at h
  ·rename_i hu
   cases h
   obtain ⟨u,hcs⟩:=q6o (.inl hu) hx
   exact one u hcs rfl (.inl hu)
  ·rename_i k hu
   cases h
   obtain ⟨u,hcs⟩:=q6o (.inr (.inl ⟨k,hu⟩)) hx
   exact one u hcs rfl (.inr (.inl ⟨k,hu⟩))
  ·rename_i hu
   cases h
   obtain ⟨u,hcs⟩:=q6o (.inr (.inr (.inl hu))) hx
   exact one u hcs rfl (.inr (.inr (.inl hu)))
  ·rename_i e hu
   split at h
   ·cases h
   ·rename_i he
    cases h
    obtain ⟨u,hcs⟩:=q6o (.inr (.inr (.inr ⟨e,hu⟩))) hx
    exact one u hcs rfl (.inr (.inr (.inr ⟨e,hu,he⟩)))
  ·rename_i fs hu
   obtain ⟨h1,_,h3⟩:=qaw _ _ _ h
   rw [Nat.zero_add] at h1
   unfold DataW.trod at hx
   rw [hu] at hx
   simp only at hx
   split at hx
   ·rename_i hl
    cases hm:fs.toList.mapM (fun f=>DataW.trod enc P w base spare held fuel f.type ((cs.drop f.offset).take (P.cellsOf f.type))) with
    | none=>rw [hm] at hx;simp at hx
    | some xs =>
     have hg:=mapM_some_get hm
     refine ⟨hl.trans h1.symm,fun j t' u hj hu'=>?_⟩
     have hjt:j<P.cellsOf t:=by rw [← h1];exact (List.getElem?_eq_some_iff.1 hj).1
     obtain ⟨f,hf,k1,k2⟩:=q8w _ _ _ h j (Nat.zero_le _) hjt
     obtain ⟨a,ha,hal,_,_,hat⟩:=h3 f hf
     obtain ⟨i,hi⟩:=List.mem_iff_getElem?.1 hf
     have hx1:=hg i f hi
     have hil:i<xs.length:=by rw [mapM_some_length hm];exact (List.getElem?_eq_some_iff.1 hi).1
     rw [List.getElem?_eq_getElem hil] at hx1
     obtain ⟨_,hrec⟩:=q42 n f.type a fuel _ _ ha hx1
     have hj2:j-f.offset<a.length:=by omega
     have e1:=hat (j-f.offset) hj2
     rw [show f.offset-0+(j-f.offset)=j by omega,hj] at e1
     refine hrec (j-f.offset) t' u e1.symm ?_
     rw [List.getElem?_take,if_pos (by omega),List.getElem?_drop,show f.offset+(j-f.offset)=j by omega]
     exact hu'
   ·cases hx
  ·rename_i m e hu
   split at h
   ·rename_i a ha
    split at h
    ·rename_i hal
     cases h
     unfold DataW.trod at hx
     rw [hu] at hx
     simp only at hx
     split at hx
     ·rename_i hl
      cases hm:(List.range m).mapM (fun i=>DataW.trod enc P w base spare held fuel e ((cs.drop (i * P.cellsOf e)).take (P.cellsOf e))) with
      | none=>rw [hm] at hx;simp at hx
      | some xs =>
       have hg:=mapM_some_get hm
       have hfl:(List.replicate m a).flatten.length=m * P.cellsOf e:=by simp [hal.1]
       refine ⟨by rw [hl,hal.2,hfl],fun j t' u hj hu'=>?_⟩
       have hjt:j<m * P.cellsOf e:=by rw [← hfl];exact (List.getElem?_eq_some_iff.1 hj).1
       have hpos:0<P.cellsOf e:=by
        rcases Nat.eq_zero_or_pos (P.cellsOf e) with h0 | h0
        ·rw [h0] at hjt;simp at hjt
        ·exact h0
       have hi:j / P.cellsOf e<m:=(Nat.div_lt_iff_lt_mul hpos).2 hjt
       have hx1:=hg (j / P.cellsOf e) (j / P.cellsOf e) (by simp [hi])
       have hil:j / P.cellsOf e<xs.length:=by rw [mapM_some_length hm];simpa using hi
       rw [List.getElem?_eq_getElem hil] at hx1
       obtain ⟨_,hrec⟩:=q42 n e a fuel _ _ ha hx1
       have hdm:j / P.cellsOf e * P.cellsOf e+j % P.cellsOf e=j:=Nat.div_add_mod' _ _
       have hmod:j % P.cellsOf e<P.cellsOf e:=Nat.mod_lt _ hpos
       refine hrec (j % P.cellsOf e) t' u ?_ ?_
       ·have hw:∀ r∈List.replicate m a,r.length=P.cellsOf e:=fun r hr=>by rw [List.eq_of_mem_replicate hr];exact hal.1
        have h3:=qbf (sz:=P.cellsOf e) hw (i:=j / P.cellsOf e) (r:=a) (by rw [List.getElem?_replicate,if_pos hi]) hmod
        rw [hdm] at h3
        rw [← h3];exact hj
       ·rw [List.getElem?_take,if_pos hmod,List.getElem?_drop,hdm]
        exact hu'
     ·cases hx
    ·cases h
   ·cases h
  ·cases h
theorem q36 {α:Type} {p:Nat→α→Prop}:∀ (n:Nat),(∀ j,j<n→∃ v,p j v)→∃ l:List α,l.length=n∧∀ (j:Nat) (v:α),l[j]?=some v→p j v
 | 0,_=>⟨[],rfl,fun _ _ h=>by simp at h⟩
 | n+1,h=>by
  obtain ⟨l,h1,h2⟩:=q36 n (fun j hj=>h j (by omega))
  obtain ⟨v,hv⟩:=h n (by omega)
  refine ⟨l++[v],by simp [h1],fun j x hx=>?_⟩
  rcases Nat.lt_or_ge j l.length with hj | hj
  ·rw [List.getElem?_append_left hj] at hx;exact h2 j x hx
  ·rw [List.getElem?_append_right hj] at hx
   have:j-l.length=0:=by
    rcases Nat.eq_zero_or_pos (j-l.length) with e | e
    ·exact e
    ·rw [List.getElem?_eq_none Yx] at hx;cases hx
   rw [this] at hx
   simp at hx
   subst hx
   rw [show j=n by omega]
   exact hv
def q3c (P:Program):Nat→TypeId→Bool
 | 0,_=>false
 | n+1,t=>match P.underlying t with
  | some .bool | some (.int _) | some .string=>true
  | some (.slice e)=>match q2w P (n+1) e with
   | some ts=>decide (P.cellsOf e≠0)&&decide (ts.length=P.cellsOf e)&&ts.all (q3c P n)
   | none=>false
  | _=>false
theorem qcp:∀ (n:Nat) (t:TypeId) (u:Value) (fuel:Nat) (x:DataW Hd×List MemPlace),q3c P n t=true→DataW.trod enc P w base spare held fuel t [u]=some x→∃ v,q1t P n t v∧v.leaf=true∧VR (own []) w [] v u
 | 0,_,_,_,_,h,_=>by cases h
 | _+1,_,_,0,_,_,h=>by cases h
 | n+1,t,u,fuel+1,x,h,hx=>by
  unfold q3c at h
  unfold q1t
  unfold DataW.trod at hx
  split at h
  ·rename_i hu
   rw [hu] at hx
   split at hx<;>first | (simp_all;done) | skip
   rename_i b _ hc
   obtain rfl:=(List.cons.inj hc).1
   exact ⟨_,⟨_,rfl⟩,rfl,.bool⟩
  ·rename_i k hu
   rw [hu] at hx
   split at hx<;>first | (simp_all;done) | skip
   split at hx
   ·rename_i k' k'' i hk hc hw
    obtain rfl:=(List.cons.inj hc).1
    injection hk with hk
    injection hk with hk
    subst hk
    obtain ⟨rfl,hw⟩:=hw
    exact ⟨_,⟨_,rfl,hw⟩,rfl,.int⟩
   ·cases hx
  ·rename_i hu
   rw [hu] at hx
   split at hx<;>first | (simp_all;done) | skip
   split at hx
   ·rename_i s _ hc hw
    obtain rfl:=(List.cons.inj hc).1
    exact ⟨_,⟨_,rfl,hw⟩,rfl,.str⟩
   ·cases hx
  ·rename_i e hu
   rw [hu] at hx
   split at h
   ·rename_i ts hts
    simp only [Bool.and_eq_true,decide_eq_true_eq] at h
    obtain ⟨⟨he,htl⟩,hall⟩:=h
    split at hx<;>first | (simp_all;done) | skip
    ·rename_i e' hk hc
     obtain rfl:=(List.cons.inj hc).1
     refine ⟨.pl [],⟨[],rfl,Nat.zero_le _,by simp⟩,rfl,.pl (xs:=[]) default 0 (fun _ _=>undef) (Nat.zero_le _) (fun h=>absurd rfl h) (fun _ _ h=>by simp at h) (fun _ h=>by simp at h) (fun _ _ _ _ h=>by simp at h) (fun _ _ _ _ h=>by simp at h)⟩
    ·rename_i e' a len cap hk hc
     obtain rfl:=(List.cons.inj hc).1
     injection hk with hk
     injection hk with hk
     subst hk
     simp only at hx
     split at hx
     ·rename_i hcnd
      cases hm:(List.range len).mapM (fun i=>(w.cells? base (a.add (i * P.cellsOf e)) (P.cellsOf e)).bind (DataW.trod enc P w base spare held fuel e)) with
      | none=>rw [hm] at hx;simp at hx
      | some xs =>
       have hg:=mapM_some_get hm
       have row:∀ i,i<len→∃ r:List AV,r.length=P.cellsOf e∧(∀ (j:Nat) (t':TypeId) (v':AV),ts[j]?=some t'→r[j]?=some v'→q1t P n t' v')∧a.block<w.heap.size ∧
         ∀ (j:Nat) (v:AV),r[j]?=some v→v.leaf=true∧∃ u,w.cell? (a.add (i * P.cellsOf e+j))=some u∧VR (own []) w [] v u:=by
        intro i hi
        have hx1:=hg i i (by simp [hi])
        have hil:i<xs.length:=by rw [mapM_some_length hm];simpa using hi
        rw [List.getElem?_eq_getElem hil] at hx1
        cases hcs:w.cells? base (a.add (i * P.cellsOf e)) (P.cellsOf e) with
        | none=>rw [hcs] at hx1;simp at hx1
        | some cs =>
         rw [hcs] at hx1
         simp only [Option.bind_some] at hx1
         obtain ⟨_,hcl,hcell⟩:=World.cells?_some hcs
         obtain ⟨hl,hrec⟩:=q42 (n+1) e ts fuel cs _ hts hx1
         have hblk:=World.cells?_block hcs (by omega)
         rw [q4y] at hblk
         obtain ⟨r,hr1,hr2⟩:=q36 (p:=fun j v=>v.leaf=true∧(∀ t',ts[j]?=some t'→q1t P n t' v)∧∃ u,w.cell? (a.add (i * P.cellsOf e+j))=some u∧VR (own []) w [] v u) (P.cellsOf e) (fun j hj=>by
          have hjc:j<cs.length:=by omega
          have hjt:j<ts.length:=by omega
          obtain ⟨fuel',x',hx',_⟩:=hrec j _ _ (List.getElem?_eq_getElem hjt) (List.getElem?_eq_getElem hjc)
          obtain ⟨v,k1,k2,k3⟩:=qcp n _ _ fuel' x' (List.all_eq_true.1 hall _ (List.getElem_mem hjt)) hx'
          refine ⟨v,k2,fun t' ht'=>?_,_,?_,k3⟩
          ·rw [List.getElem?_eq_getElem hjt] at ht'
           obtain rfl:=Option.some.inj ht'
           exact k1
          ·have:=hcell j hj
           rw [q9a] at this
           rw [this,List.getElem?_eq_getElem hjc])
         exact ⟨r,hr1,fun j t' v' ht' hv'=>(hr2 j v' hv').2.1 t' ht',hblk,fun j v hv=>⟨(hr2 j v hv).1,(hr2 j v hv).2.2⟩⟩
       obtain ⟨rows,hr1,hr2⟩:=q36 len row
       have hrows:∀ i r,rows[i]?=some r→i<len:=fun i r hr=>by rw [← hr1];exact (List.getElem?_eq_some_iff.1 hr).1
       refine ⟨.pl rows,⟨rows,rfl,by omega,fun r hr=>?_⟩,rfl,?_⟩
       ·obtain ⟨i,hi⟩:=List.mem_iff_getElem?.1 hr
        obtain ⟨k1,k2,_,_⟩:=hr2 i r hi
        exact ⟨ts,hts,by omega,k2⟩
       ·rw [← hr1]
        refine .pl a (P.cellsOf e) (fun i j=>(w.cell? (a.add (i * P.cellsOf e+j))).getD undef) (by omega) (fun hne=>?_) (fun i r hr=>(hr2 i r hr).1) (fun i hi j hj=>?_) (fun i j r v hr hv=>((hr2 i r hr).2.2.2 j v hv).1) (fun i j r v hr hv=>?_)
        ·have hpos:0<rows.length:=List.length_pos_iff.2 hne
         exact ⟨rfl,by rintro ⟨i,s,hs,_⟩;simp at hs,(hr2 0 _ (List.getElem?_eq_getElem hpos)).2.2.1⟩
        ·have hk:=hr2 i _ (List.getElem?_eq_getElem hi)
         obtain ⟨_,u,hu',_⟩:=hk.2.2.2 j _ (List.getElem?_eq_getElem (by rw [hk.1];exact hj))
         rw [hu'];rfl
        ·obtain ⟨_,u,hu',hv'⟩:=(hr2 i r hr).2.2.2 j v hv
         rw [hu'];exact hv'
     ·cases hx
   ·cases h
  ·cases h
theorem qkc {n:Nat} {t:TypeId} {ts:List TypeId} {v:Value} {d:DataW Hd} {ps:List MemPlace} (hts:q2w P (n+1) t=some ts) (hd:ts.all (q3c P n)=true) (h:DataW.Trod enc P w base spare held t v d ps) :
  ∃ r:List AV,qca P n ts r∧r.length=v.cells.size∧∀ (j:Nat) (a:AV) (u:Value),r[j]?=some a→v.cells[j]?=some u→a.leaf=true∧VR (own []) w [] a u:=by
 obtain ⟨fuel,h⟩:=h
 obtain ⟨hl,hrec⟩:=q42 (n+1) t ts fuel _ _ hts h
 obtain ⟨r,hr1,hr2⟩:=q36 (p:=fun j a=>a.leaf=true∧(∀ t',ts[j]?=some t'→q1t P n t' a)∧∀ u,v.cells.toList[j]?=some u→VR (own []) w [] a u) ts.length (fun j hj=>by
  have hjc:j<v.cells.toList.length:=by omega
  obtain ⟨fuel',x',hx',_⟩:=hrec j _ _ (List.getElem?_eq_getElem hj) (List.getElem?_eq_getElem hjc)
  obtain ⟨a,k1,k2,k3⟩:=qcp n _ _ fuel' x' (List.all_eq_true.1 hd _ (List.getElem_mem hj)) hx'
  refine ⟨a,k2,fun t' ht'=>?_,fun u hu=>?_⟩
  ·rw [List.getElem?_eq_getElem hj] at ht'
   obtain rfl:=Option.some.inj ht'
   exact k1
  ·rw [List.getElem?_eq_getElem hjc] at hu
   obtain rfl:=Option.some.inj hu
   exact k3)
 refine ⟨r,⟨hr1,fun j t' v' ht' hv'=>(hr2 j v' hv').2.1 t' ht'⟩,by rw [hr1,← hl];simp,fun j a u ha hu=>⟨(hr2 j a ha).1,(hr2 j a ha).2.2 u (by simpa using hu)⟩⟩
end
end Go.Av
namespace Go.Av
open Go.RowKit
section
variable {P : Program} {Hd : Type} {enc : TypeId × Value → Hd} {w : World} {base b : Nat} {spare : Nat → Bool} {held : Bool}
theorem q9u {n:Nat} {t:TypeId} {v:Value} {d:DataW Hd} {ps:List MemPlace} (hd:q3c P n t=true) (hval:Value.okWide P w .any b t v) (h:DataW.Trod enc P w base spare held t v d ps):∃ a,q1t P n t a∧VR (own []) w [] a v:=by
 have hc:v.cells = #[v]:=by
  cases n with
  | zero=>cases hd
  | succ n =>
   unfold q3c at hd
   unfold Value.okWide at hval
   cases v with
   | agg cs =>
    exfalso
    split at hd<;>rename_i hu<;>simp [hu,Cell.okWide,Cell.ok] at hval hd
   | _=>rfl
 obtain ⟨fuel,h⟩:=h
 rw [hc] at h
 obtain ⟨a,h1,_,h2⟩:=qcp n t v fuel _ hd h
 exact ⟨a,h1,h2⟩
theorem qgs {n:Nat} {t:TypeId} {ts:List TypeId} {v:Value} {d:DataW Hd} {ps:List MemPlace} (hts:q2w P (n+1) t=some ts) (hall:ts.all (q3c P n)=true) (hagg:(∃ fs,P.underlying t=some (.struct fs))∨∃ m e,P.underlying t=some (.array m e)) (hval:Value.okWide P w .any b t v) (h:DataW.Trod enc P w base spare held t v d ps):∃ r,qca P n ts r∧VR (own []) w [] (.agg r) v:=by
 obtain ⟨r,h1,h2,h3⟩:=qkc hts hall h
 have hv:∃ cs,v = .agg cs:=by
  unfold Value.okWide at hval
  rcases hagg with ⟨fs,hu⟩ | ⟨m,e,hu⟩<;>rw [hu] at hval<;>exact ⟨_,hval.choose_spec.1⟩
 obtain ⟨cs,rfl⟩:=hv
 have hc:(Value.agg cs).cells=cs:=rfl
 rw [hc] at h2 h3
 exact ⟨r,h1,.agg h2 (fun j a ha=>by
  have hj:j<cs.size:=by rw [← h2];exact (List.getElem?_eq_some_iff.1 ha).1
  exact (h3 j a _ ha (Array.getElem?_eq_getElem hj)).1) (fun j a u ha hu=>(h3 j a u ha hu).2)⟩
theorem qhf {n:Nat} {t:TypeId} {a:AV} (hu:P.underlying t=some .bool) (h:q1t P (n+1) t a):∃ b,a = .bool b:=by
 unfold q1t at h;rw [hu] at h;exact h
theorem q1f {n:Nat} {t:TypeId} {k:IntKind} {a:AV} (hu:P.underlying t=some (.int k)) (h:q1t P (n+1) t a):∃ i,a = .int k i∧(Lit.int k i).wf=true:=by
 unfold q1t at h;rw [hu] at h;exact h
theorem qd4 {n:Nat} {t:TypeId} {a:AV} (hu:P.underlying t=some .string) (h:q1t P (n+1) t a):∃ s:ByteArray,a = .str s∧s.size≤maxLen:=by
 unfold q1t at h;rw [hu] at h;exact h
theorem qjm {n:Nat} {t e:TypeId} {ts:List TypeId} {a:AV} (hu:P.underlying t=some (.slice e)) (hts:q2w P (n+1) e=some ts) (h:q1t P (n+1) t a):∃ rows,a = .pl rows∧rows.length≤maxLen∧∀ r∈rows,qca P n ts r:=by
 unfold q1t at h
 rw [hu] at h
 obtain ⟨rows,h1,h2,h3⟩:=h
 refine ⟨rows,h1,h2,fun r hr=>?_⟩
 obtain ⟨ts',k1,k2,k3⟩:=h3 r hr
 rw [hts] at k1
 obtain rfl:=Option.some.inj k1
 exact ⟨k2,k3⟩
theorem qh2 {n:Nat} {r:List AV} (h:qca P n [] r):r=[]:=List.eq_nil_of_length_eq_zero h.1
theorem q17 {n:Nat} {t:TypeId} {ts:List TypeId} {r:List AV} (h:qca P n (t :: ts) r):∃ v r',r=v :: r'∧q1t P n t v∧qca P n ts r':=by
 cases r with
 | nil=>have:=h.1;simp at this
 | cons v r=>exact ⟨v,r,rfl,h.2 0 t v rfl rfl,by simpa using h.1,fun j t' v' h1 h2=>h.2 (j+1) t' v' h1 h2⟩
theorem qdi {α:Type} {e:α→List AV}:∀ {rows:List (List AV)},(∀ r∈rows,∃ x,r=e x)→∃ l:List α,rows=l.map e
 | [],_=>⟨[],rfl⟩
 | r :: rows,h=>by
  obtain ⟨x,rfl⟩:=h r List.mem_cons_self
  obtain ⟨l,rfl⟩:=qdi (rows:=rows) fun r hr=>h r (List.mem_cons_of_mem _ hr)
  exact ⟨x :: l,rfl⟩
inductive All2 {α β : Type} (R : α → β → Prop) : List α → List β → Prop where
 | nil:All2 R [] []
 | cons {a b as1 bs} (h:R a b) (k:All2 R as1 bs):All2 R (a :: as1) (b :: bs)
theorem All2.vrs {O:Nat→Prop} {S:List Slot} {vs:List AV} {us:List Value} (h:All2 (VR O w S) vs us):VRs O w S vs us.toArray:=by
 induction h with
 | nil=>exact ⟨rfl,fun i v u hv=>by simp at hv⟩
 | cons h k ih =>
  refine ⟨by simpa using ih.1,fun i v u hv hu=>?_⟩
  cases i with
  | zero=>simp at hv hu;subst hv;subst hu;exact h
  | succ i=>exact ih.2 i v u (by simpa using hv) (by simpa using hu)
end
theorem qb5 {P:Program} {W:World} {name:String} {k:IntKind} {zs:List Int} {g:Nat} {K:Know} (hg:P.globalNamed name=some g) (hz:zs≠[]) (hK:K=⟨g,zs.map fun z=>Value.int k z⟩) (h:Lib.TabIs P W name k zs):Kn K [] W:=by
 subst hK
 have hc:∀ j v,(zs.map fun z=>Value.int k z)[j]?=some v→W.cell? ⟨g,j,none⟩=some v:=by
  intro j v hj
  have:=World.var?_cell hg h j
  rw [this]
  simpa using hj
 have hx:∃ ty fz,W.heap[g]?=some (Obj.cells (zs.map fun z=>Value.int k z).toArray ty fz):=by
  unfold Lib.TabIs World.var? at h
  rw [hg] at h
  simp only [Option.bind_some] at h
  split at h
  ·rename_i cs ty fz e
   obtain rfl:=Option.some.inj h
   exact ⟨ty,fz,e⟩
  ·cases h
 refine ⟨by rintro ⟨i,s,hs,_⟩;simp at hs,?_,hc,hx⟩
 clear hx
 cases zs with
 | nil=>exact absurd rfl hz
 | cons z zs =>
  have h0:=hc 0 _ rfl
  show g<W.heap.size
  rcases Nat.lt_or_ge g W.heap.size with h1 | h1
  ·exact h1
  ·exfalso
   simp [World.cell?,Array.getElem?_eq_none h1] at h0
theorem Ext.of_below {S:List Slot} {w w':World} (h:Below w.heap.size w w'):Ext S w S w' :=
 ⟨h.os,h.tape,h.output,⟨h.size,fun b hb ho=>⟨ho,h.block b hb⟩,fun b arr ty hb=>⟨arr,by rw [h.block b (Array.getElem?_eq_some_iff.1 hb).1];exact hb,rfl⟩⟩,SExt.refl S⟩
theorem AC.kit {P:Program} {f:FuncId} {vs:List AV} {H:q8} {v:AV} (hk:∀ S w cargs,HRel H S w→VRs (own S) w S vs cargs→∃ u,Calls P f cargs w (fun e w'=>e = .returned u∧Below w.heap.size w w')∧∀ w',Ext S w S w'→VR (own S) w' S v u):AC P f vs H (Ret v H):=by
 intro S w cargs hH hv
 obtain ⟨u,h1,h2⟩:=hk S w cargs hH hv
 refine h1.mono ?_
 rintro e w' ⟨rfl,hb⟩
 have hx:=Ext.of_below (S:=S) hb
 exact ⟨.ret v,H,S,⟨rfl,rfl⟩,.ret (h2 w' hx),q57 hH hx (fun b h=>hb.block b h),hx⟩
section
variable {O : Nat → Prop} {w : World} {S : List Slot} {cargs : Array Value}
theorem qax {v:AV} (h:VRs O w S [v] cargs):∃ u,cargs = #[u]∧VR O w S v u:=by
 have hsz:cargs.size=1:=by have:=h.1;simpa using this.symm
 refine ⟨cargs[0],?_,h.2 0 _ _ rfl (Array.getElem?_eq_getElem (by omega))⟩
 apply Array.ext
 ·simp [hsz]
 ·intro i k1 k2
  have:i=0:=by simp at k2;omega
  subst this;rfl
theorem qf1 {v v':AV} (h:VRs O w S [v,v'] cargs):∃ u u',cargs = #[u,u']∧VR O w S v u∧VR O w S v' u':=by
 have hsz:cargs.size=2:=by have:=h.1;simpa using this.symm
 refine ⟨cargs[0],cargs[1],?_,h.2 0 _ _ rfl (Array.getElem?_eq_getElem (by omega)),h.2 1 _ _ rfl (Array.getElem?_eq_getElem (by omega))⟩
 apply Array.ext
 ·simp [hsz]
 ·intro i k1 k2
  have:i=0∨i=1:=by simp at k2;omega
  rcases this with rfl | rfl<;>rfl
end
abbrev qd6 (s:ByteArray):List AV:=[.str s]
theorem qb6 {H:q8} {S:List Slot} {w:World} {id g n:Nat} {xs:List ByteArray} {u:Value} (hH:HRel H S w) (hid:H[id]?=some ⟨g,1,xs.map qd6⟩) (hv:VR (own S) w S (.sl id g 0 xs.length n) u) :
  (xs=[]∧∃ a c,u = .slice a 0 c)∨∃ b c,u = .slice (some ⟨b,0,none⟩) xs.length c∧b<w.heap.size∧xs.length≤c∧∀ (j:Nat) x,xs[j]?=some x→w.cell? ⟨b,0+j,none⟩=some (.string x):=by
 obtain ⟨s,hs,ok⟩:=hH.slot hid
 cases hv with
 | sl s' hs' hg' _ h =>
  obtain rfl:s'=s:=Option.some.inj (hs'.symm.trans hs)
  obtain ⟨c,k1,k2,k3⟩:=h ok.gen.symm
  rcases k3 with ⟨rfl,a,rfl⟩ | ⟨b,arr,ty,hp,rfl,ha,hsz⟩
  ·exact .inl ⟨List.eq_nil_of_length_eq_zero (by omega),a,0,rfl⟩
  ·obtain ⟨arr',ty',l1,l2,l3⟩:=ok.lies b hp
   refine .inr ⟨b,c,by rw [Nat.zero_mul],(Array.getElem?_eq_some_iff.1 l1).1,k2,fun j x hj=>?_⟩
   have hrow:(xs.map qd6)[j]?=some (qd6 x):=by rw [List.getElem?_map,hj];rfl
   obtain ⟨_,hc⟩:=l3 j _ hrow
   obtain ⟨_,u,hu,hv⟩:=hc 0 _ rfl
   cases hv
   rw [Nat.zero_add,cell_of_row w b j arr' ty' _ l1]
   simpa using hu
abbrev q55:=List (Nat×Know)
def KnS (Ks:q55) (S:List Slot) (w:World):Prop:=∀ p∈Ks,Kn p.2 S w
def q8j (Ks:q55):Env:=Ks.map fun p=>(p.1,p.2.av)
def ACL (P:Program) (Ks:q55) (f:FuncId) (args:List AV) (H:q8) (R:AOut→q8→Prop):Prop :=
 ∀ S w cargs,KnS Ks S w→HRel H S w→VRs (own S) w S args cargs →
  Calls P f cargs w fun e w'=>∃ o H' S',R o H'∧OutR (own S') w' S' o e∧HRel H' S' w'∧Ext S w S' w'
theorem ACL.sub {P:Program} {Ks Ks':q55} {f:FuncId} {args:List AV} {H:q8} {R:AOut→q8→Prop} (h:ACL P Ks f args H R) (hm:∀ p∈Ks,p∈Ks'):ACL P Ks' f args H R:=fun S w cargs k=>h S w cargs fun p hp=>k p (hm p hp)
def KnE:q55→Env→Prop
 | [],_=>True
 | p :: ps,env=>get env p.1=p.2.av∧KnE ps env
theorem KnE.ok {N:Nat} {env:Env} {H:q8} {S:List Slot} {a:Act} {w:World} (hc:CR N env H S a w):∀ {Ks:q55},KnE Ks env→KnS Ks S w
 | [],_=>fun p hp=>by simp at hp
 | q :: qs,h=>fun p hp=>by
  rcases List.mem_cons.1 hp with rfl | hp
  ·have:=hc.env p.1
   rw [h.1] at this
   exact this.kn
  ·exact KnE.ok hc h.2 p hp
section
variable {P : Program} {N : Nat} {B : Base} {env : Env} {H H0 L : q8} {ty : TypeId}
theorem V2.callL {Ks:q55} {f:Nat} {xs:Array Operand} {ts:Array TypeId} {v:AV} {vs:List AV} {M:q8} [FnI P f] (hac:ACL P Ks f vs H (Ret v M)) (hvs:xs.toList.map (aev env)=vs) (hk:KnE Ks env) :
  V2 P N (.call { callee:=.value (.func f),args:=xs,argTypes:=ts }) ty env H v M:=by
 subst hvs
 intro dst pos after guard S a w hc next Q hn hp
 have hrun:(execOp a.eval ⟨dst,.call { callee:=.value (.func f),args:=xs,argTypes:=ts },ty,pos,after,guard⟩).run P w = .ok (.enter f (xs.map a.eval)) w:=by
  simp [execOp,resolve,Act.eval,Deferred.ofValue,invoke,q1m (P:=P) (f:=f)]
 unfold Oper.wp
 rw [hrun]
 refine (hac S w (xs.map a.eval) (hk.ok hc) hc.heap (q91 hc xs)).mono ?_
 rintro e w' ⟨out,H',S',⟨rfl,rfl⟩,hout,hh,hx⟩
 cases hout with
 | ret hv=>exact hn _ _ _ S' w' ⟨rfl,rfl⟩ hh hx hv
theorem ACL.up {Ks:q55} {f:FuncId} {vs us:List AV} {R:AOut→q8→Prop} (h:ACL P Ks f us H R) (hvs:vs.map AV.up=us):ACL P Ks f vs H R:=fun S w cargs hk hH hv=>h S w cargs hk hH (hvs▸hv.up)
theorem qdh {O:Nat→Prop} {w:World} {S:List Slot} {E:Env} {f:Nat→Value} (hO:O=own S) (hE:∀ t,VR O w S (get E t) (f t)):∀ {Ks:q55},KnS Ks S w→∀ t,VR O w S (get (q8j Ks++E) t) (f t)
 | [],_,t=>hE t
 | p :: ps,h,t=>by
  subst hO
  show VR _ w S (get ((p.1,p.2.av) :: (q8j ps++E)) t) (f t)
  by_cases e:p.1=t
  ·subst e
   rw [qa]
   exact (h p (List.mem_cons_self ..)).vr
  ·rw [q6 _ _ e]
   exact qdh rfl hE (fun q hq=>h q (List.mem_cons_of_mem _ hq)) t
theorem ACL.body {Ks:q55} {f:FuncId} {N:Nat} {fn:Func} {c:Code} {args:List AV} {R:AOut→q8→Prop} (rs:List ResultVar) (hf:P.funcs[f]?=some fn) (hb:fn.body=some c) (hr:fn.results=rs.toArray)
  (hN:fn.ntmps=N) (hn:args.length≤N) (h:∀ B,Begun B H args→AWp P N B c (Ends P B rs R) (q8j Ks++params 0 args) (H++[])):ACL P Ks f args H R:=by
 subst hN
 simp only [List.append_nil] at h
 intro S w cargs hkn hH hv
 refine calls_of_wp hf hb ?_
 have hc:CR fn.ntmps (q8j Ks++params 0 args) H S { tmps:=cargs++Array.replicate (fn.ntmps-cargs.size) undef,defers:=[] } w:=by
  refine ⟨hH,?_,?_,rfl⟩
  ·refine qdh rfl (fun t=>?_) hkn
   rw [q5s,if_pos (Nat.zero_le _),Nat.sub_zero]
   by_cases ht:t<args.length
   ·have h1:args.getD t .junk=args[t]:=by simp [List.getD,ht]
    have ht':t<cargs.size:=by rw [← hv.1];exact ht
    have h2:(cargs++Array.replicate (fn.ntmps-cargs.size) undef).getD t undef=cargs[t]:=by
     simp [Array.getElem?_append_left ht',ht']
    rw [h1,h2]
    exact hv.2 t _ _ (List.getElem?_eq_getElem ht) (Array.getElem?_eq_getElem ht')
   ·have h1:args.getD t .junk = .junk:=by simp [List.getD,List.getElem?_eq_none (Nat.le_of_not_lt ht)]
    rw [h1];exact .junk
  ·have:=hv.1
   simp
   omega
 have hbg:Begun ⟨S,w⟩ H args:=by
  refine ⟨hH.len.symm,hH.bel,?_⟩
  rw [AV.bels_iff]
  intro v hv'
  obtain ⟨j,hj⟩:=List.mem_iff_getElem?.1 hv'
  rw [hH.len]
  exact (hv.2 j v _ hj (Array.getElem?_eq_getElem Y6)).bel
 refine wp_mono (h ⟨S,w⟩ hbg S _ w hc (Ext.refl S w)) ?_
 intro e a' w' ⟨x,env',H',S',q,r,c,k⟩
 cases r with
 | nrm =>
  obtain ⟨vs,M,h1,h2,h3⟩:=q
  obtain ⟨u,k1,k2⟩:=q2f c hr h1
  obtain ⟨S2,m1,m2,m3⟩:=h2.ok c.heap k2 k
  exact ⟨c.defers,u,k1,_,M,S2,h3,.ret m2,m1,m3⟩
 | ret =>
  obtain ⟨vs,M,h1,h2,h3⟩:=q
  obtain ⟨u,k1,k2⟩:=q2f c hr h1
  obtain ⟨S2,m1,m2,m3⟩:=h2.ok c.heap k2 k
  exact ⟨c.defers,u,k1,_,M,S2,h3,.ret m2,m1,m3⟩
 | brk=>exact q.elim
 | pan hv =>
  obtain ⟨M,h2,h3⟩:=q
  obtain ⟨S2,m1,m2,m3⟩:=h2.ok c.heap hv k
  exact ⟨c.defers,_,M,S2,h3,.pan m2,m1,m3⟩
theorem ACL.kit {Ks:q55} {f:FuncId} {vs:List AV} {v:AV} (hk:∀ S w cargs,KnS Ks S w→HRel H S w→VRs (own S) w S vs cargs→Calls P f cargs w fun e w'=>∃ u,e = .returned u∧Below w.heap.size w w'∧VR (own S) w' S v u):ACL P Ks f vs H (Ret v H):=by
 intro S w cargs hkn hH hv
 refine (hk S w cargs hkn hH hv).mono ?_
 rintro e w' ⟨u,rfl,hb,hvr⟩
 have hx:=Ext.of_below (S:=S) hb
 exact ⟨.ret v,H,S,⟨rfl,rfl⟩,.ret hvr,q57 hH hx (fun b h=>hb.block b h),hx⟩
end
theorem Kn.tabIs {P:Program} {S:List Slot} {w:World} {K:Know} {name:String} {k:IntKind} {zs:List Int} (h:Kn K S w) (hg:P.globalNamed name=some K.g) (hz:K.tab=zs.map fun z=>Value.int k z):Lib.TabIs P w name k zs:=by
 obtain ⟨_,_,_,ty,fz,e⟩:=h
 unfold Lib.TabIs World.var?
 rw [hg]
 simp only [Option.bind_some,e]
 rw [hz]
theorem qdx {P:Program} {w:World} {Ks:q55} {f:FuncId} {avs:List AV} {us:List Value} {bb:Bool} (h:ACL P Ks f avs [] (Ret (.bool bb) [])) (hk:KnS Ks [] w) (hv:All2 (VR (own []) w []) avs us):Calls P f us.toArray w fun e w'=>e = .returned (.bool bb)∧Below w.heap.size w w':=by
 refine (h [] w us.toArray hk ⟨rfl,fun _ _ _ h=>by simp at h,fun _ _ _ _ _ h=>by simp at h⟩ hv.vrs).mono fun e w'=>?_
 rintro ⟨o,H',S',⟨rfl,rfl⟩,ho,hh,hx⟩
 cases ho with
 | ret hb =>
  cases hb
  exact ⟨rfl,hx.os,hx.tape,hx.output,hx.stp.size,fun k hk=>(hx.stp.old k hk (by rintro ⟨i,s,hs,_⟩;simp at hs)).2⟩
end Go.Av
namespace Go.Av
def qni (p:Nat→Bool) (n:Nat):Bool:=(List.range n).all p
structure Thing where
 kind:Int
 up:Int
 tag:ByteArray
 deriving DecidableEq
def qlq:Thing:=⟨0,-1,⟨#[]⟩⟩
def qmo (kind up:Int):Bool:=(decide (kind=1)&&decide (up=0))||(decide (kind=2)&&(decide (up=0)||decide (up=1)))||((decide (kind=3)||decide (kind=4))&&decide (up=2))
def qm4 (g:List Thing) (n:Nat):Int:=match g[n]? with
 | some t=>t.kind
 | none=>0
def q87 (c:Int):Bool:=(decide (97≤c)&&decide (c≤122))||(decide (48≤c)&&decide (c≤57))
def qbj (b:UInt8):Bool:=q87 (b.toNat:Int)
def q5e (s:ByteArray):Bool:=decide ((s.size:Int)≤16)&&s.data.toList.all qbj
structure Spec where
 nodes:Int
 cores:Int
 gpus:Int
 tag:ByteArray
 whole:Bool
 long:Int
 prio:Int
 deriving DecidableEq
abbrev qga (s:Spec):List AV:=[.int .i64 s.nodes,.int .i64 s.cores,.int .i64 s.gpus,.str s.tag,.bool s.whole,.int .i64 s.long,.int .i64 s.prio]
def q4q:Spec:=⟨0,0,0,⟨#[]⟩,false,0,0⟩
def qfu (s:Spec):Bool:=(decide (1≤s.nodes)&&decide (s.nodes≤64))&&(decide (0≤s.cores)&&decide (s.cores≤64))&&(decide (0≤s.gpus)&&decide (s.gpus≤64))
def qho (s:Spec):Bool:=s.whole||decide (0<s.cores)||decide (0<s.gpus)
def qq (s:Spec):Bool:=qfu s&&qho s&&q5e s.tag&&(decide (1≤s.long)&&decide (s.long≤1099511627776))&&(decide (-1000≤s.prio)&&decide (s.prio≤1000))
theorem q1l {s:Spec} (h:qq s=true):1≤s.nodes∧s.nodes≤64∧0≤s.cores∧s.cores≤64∧0≤s.gpus∧s.gpus≤64∧1≤s.long∧s.long≤1099511627776∧-1000≤s.prio∧s.prio≤1000:=by
 simp only [qq,qfu,Bool.and_eq_true,decide_eq_true_eq] at h
 omega
structure Job where
 id:Int
 spec:Spec
 needs:List Int
 state:Int
 came:Int
 frm:Int
 tto:Int
 deriving DecidableEq
def tm (t:Int):Bool:=decide (0≤t)&&decide (t≤4611686018427387904)
def qml (s w:Int):Option Int :=
 if s=0∧w=1 then some 1 else if s=1∧w=2 then some 0 else if s=0∧w=3 then some 2 else if s=2∧w=4 then some 3 else if s=2∧w=5 then some 4 else if s≤2∧w=6 then some 5 else if s<2∧w=7 then some 6 else none
def nx (s w:Int):Int×Bool:=match qml s w with
 | some t=>(t,true)
 | none=>(s,false)
section
variable {a b c : List Int}
end
def qnh (g:List Thing) (i:Nat):Bool:=match g[i+1]? with
 | some t=>decide (0≤t.up)&&decide (t.up≤(i:Int))&&qmo t.kind (qm4 g t.up.toNat)&&q5e t.tag&&(decide (t.tag=⟨#[]⟩)||decide (t.kind=2))
 | none=>true
def qle (g:List Thing):Bool:=decide (1≤g.length)&&decide (g.length≤256)&&decide (g[0]?=some qlq)&&qni (qnh g) (g.length-1)
def ql7 (g:List Thing) (h:List Int):Bool:=qle g&&decide (h.length=g.length)&&!(h.any fun n=>decide (n<0)||decide (2<n))
structure Held where
 id:Int
 things:List Int
 frm:Int
 tto:Int
 deriving DecidableEq
structure Want where
 id:Int
 spec:Spec
 deriving DecidableEq
structure PickS where
 l:List Held
 begun:List Held
 kept:List Held
structure Inst where
 graph:List Thing
 health:List Int
 lease:List Int
 til:Int
 jobs:List Job
 table:List Held
 now:Int
 policy:Int
 depth:Int
 deriving DecidableEq
def qf8 (g:List Thing) (h:List Int) (n how:Int):List Int×Int:=if !ql7 g h||decide (how<0)||decide (2<how) then (h,1) else if n<0∨(h.length:Int)≤n then (h,6) else (h.set n.toNat how,0)
section
variable {α : Type} {f : α → Int}
end
def got (i n:Nat):List UInt8→Except Int (Nat×List UInt8)
 | []=>.error 2
 | c :: r =>
  if 8<i∨(0<i∧c=0) then .error 3
  else if c.toNat<128 then (if 4611686018427387904<n+c.toNat % 128 * 128 ^ i then .error 3 else .ok (n+c.toNat % 128 * 128 ^ i,r))
  else got (i+1) (n+c.toNat % 128 * 128 ^ i) r
def qhg (first last:Nat):List Int:=(List.range (last+1-first)).map fun k=>((first+k:Nat):Int)
def qi1:Nat→Bool→Nat→List Int→List UInt8→Except Int (List Int×List UInt8)
 | 0,_,_,acc,b=>.ok (acc,b)
 | m+1,first,last,acc,b =>
  match got 0 0 b with
  | .error e=>.error e
  | .ok (far,b1) =>
   match got 0 0 b1 with
   | .error e=>.error e
   | .ok (more,b2) =>
    if far<256∧more<256∧last+far+more<256∧(first=true∨1<far) then qi1 m false (last+far+more) (acc++qhg (last+far) (last+far+more)) b2
    else .error 3
def qhi:List UInt8→Except Int (List Int×List UInt8)
 | []=>.error 2
 | c :: r =>
  if c≠2 then .error 3
  else match got 0 0 r with
   | .error e=>.error e
   | .ok (many,b)=>if 256<many then .error 3 else qi1 many true 0 [] b
def q2t (b:List UInt8):List Int×Int :=
 if 65536<b.length then ([],4)
 else match qhi b with
  | .error e=>([],e)
  | .ok (l,r)=>if r=[] then (l,0) else ([],3)
def q19 (n:Nat):List UInt8:=if n<128 then [UInt8.ofNat n] else UInt8.ofNat (n % 128+128) :: q19 (n / 128)
termination_by n
decreasing_by omega
theorem q7d {n:Nat} (h:n<128):q19 n=[UInt8.ofNat n]:=by rw [q19,if_pos h]
theorem qa0 {n:Nat} (h:¬ n<128):q19 n=UInt8.ofNat (n % 128+128) :: q19 (n / 128):=by rw [q19,if_neg h]
theorem q9y {n:Nat} (h:n<256):(UInt8.ofNat n).toNat=n:=by simp [UInt8.toNat_ofNat',Nat.mod_eq_of_lt h]
theorem qkj (m:Nat):∀ (i n:Nat) (r:List UInt8),n+m * 128 ^ i≤4611686018427387904→(0<i→0<m)→got i n (q19 m++r) = .ok (n+m * 128 ^ i,r):=by
 induction m using Nat.strongRecOn with
 | _ m ih =>
  intro i n r hb hi
  have hi8:¬ 8<i:=by
   intro h8
   have h1:(128:Nat) ^ 9≤128 ^ i:=Nat.pow_le_pow_right (by decide) h8
   have h2:(128:Nat) ^ 9=9223372036854775808:=by decide
   have h3:0<m:=hi (by omega)
   have h4:1 * 128 ^ i≤m * 128 ^ i:=Nat.mul_le_mul_right _ h3
   omega
  by_cases hm:m<128
  ·rw [q7d hm]
   show got i n (UInt8.ofNat m :: r)=_
   have hc:=q9y (show m<256 by omega)
   rw [got,if_neg,hc,if_pos hm,if_neg (by rw [Nat.mod_eq_of_lt hm];omega),Nat.mod_eq_of_lt hm]
   rintro (h | ⟨h,e⟩)
   ·exact hi8 h
   ·have:=hi h
    have e2:=congrArg UInt8.toNat e
    rw [hc] at e2
    have:m=0:=e2
    omega
  ·rw [qa0 hm]
   show got i n (UInt8.ofNat (m % 128+128) :: (q19 (m / 128)++r))=_
   have hc:=q9y (show m % 128+128<256 by omega)
   have e0:m=m % 128+m / 128 * 128:=by omega
   have e1:n+m % 128 * 128 ^ i+m / 128 * 128 ^ (i+1)=n+m * 128 ^ i:=by
    rw [Nat.pow_succ,Nat.add_assoc,show m / 128 * (128 ^ i * 128)=m / 128 * 128 * 128 ^ i by rw [Nat.mul_assoc,Nat.mul_comm (128 ^ i) 128],← Nat.add_mul,← e0]
   rw [got,if_neg,hc,if_neg (by omega),show (m % 128+128) % 128=m % 128 by omega,ih (m / 128) (by omega) (i+1) _ r (by rw [e1];exact hb) (fun _=>by omega),e1]
   rintro (h | ⟨_,e⟩)
   ·exact hi8 h
   ·have e2:=congrArg UInt8.toNat e
    rw [hc] at e2
    have:m % 128+128=0:=e2
    omega
theorem qg1:∀ {b:List UInt8} {i n x:Nat} {r:List UInt8},got i n b = .ok (x,r)→∃ m,b=q19 m++r∧x=n+m * 128 ^ i∧(0<i→0<m)
 | [],_,_,_,_,h=>by cases h
 | c :: b,i,n,x,r,h=>by
  unfold got at h
  split at h
  ·cases h
  rename_i hbad
  have hc256:c.toNat<256:=c.toNat_lt
  split at h
  ·rename_i hlt
   split at h
   ·cases h
   ·cases h
    refine ⟨c.toNat,?_,by rw [Nat.mod_eq_of_lt hlt],fun hi=>?_⟩
    ·rw [q7d hlt]
     show c :: b=UInt8.ofNat c.toNat :: b
     rw [UInt8.ofNat_toNat]
    ·rcases Nat.eq_zero_or_pos c.toNat with e | e
     ·exact absurd (.inr ⟨hi,UInt8.toNat_inj.1 e⟩) hbad
     ·exact e
  ·rename_i hlt
   obtain ⟨m,rfl,hx,hm⟩:=qg1 h
   have hm0:=hm (by omega)
   refine ⟨c.toNat % 128+m * 128,?_,?_,fun _=>by omega⟩
   ·rw [qa0 (n:=c.toNat % 128+m * 128) (by omega),show (c.toNat % 128+m * 128) / 128=m by omega,show (c.toNat % 128+m * 128) % 128+128=c.toNat by omega,UInt8.ofNat_toNat]
    rfl
   ·rw [hx,Nat.add_mul,Nat.pow_succ,Nat.add_assoc,show m * (128 ^ i * 128)=m * 128 * 128 ^ i by rw [Nat.mul_assoc,Nat.mul_comm (128 ^ i) 128]]
theorem q6j {m:Nat} (h:m≤4611686018427387904) (r:List UInt8):got 0 0 (q19 m++r) = .ok (m,r):=by
 have:=qkj m 0 0 r (by simpa using h) (fun h=>absurd h (Nat.lt_irrefl _))
 simpa using this
theorem q6n {b:List UInt8} {x:Nat} {r:List UInt8} (h:got 0 0 b = .ok (x,r)):b=q19 x++r:=by
 obtain ⟨m,h1,h2,_⟩:=qg1 h
 have:x=m:=by simpa using h2
 rw [this];exact h1
def q3x (k:Nat):List (Nat×Nat)→List (Nat×Nat)
 | []=>[]
 | [(a,m)]=>[(a,m+k)]
 | x :: y :: l=>x :: q3x k (y :: l)
theorem qr (k:Nat) (l:List (Nat×Nat)) (a m:Nat):q3x k (l++[(a,m)])=l++[(a,m+k)]:=by
 induction l with
 | nil=>rfl
 | cons x l ih =>
  cases l with
  | nil=>rfl
  | cons y l=>show x :: q3x k (y :: (l++[(a,m)]))=_;rw [show y :: (l++[(a,m)])=(y :: l)++[(a,m)] from rfl,ih];rfl
def rt (f:Nat→Bool):Nat→List (Nat×Nat)
 | 0=>[]
 | n+1=>if f n=false then rt f n else if 0<n∧f (n-1)=true then q3x 1 (rt f n) else rt f n++[(n,0)]
theorem qm6 {f:Nat→Bool} {n:Nat} (h:f n=false):rt f (n+1)=rt f n:=by rw [rt,if_pos h]
theorem q7h {f:Nat→Bool}:∀ {n:Nat},0<n→f (n-1)=true→∃ l a m,rt f n=l++[(a,m)]∧a+m=n-1
 | n+1,_,h=>by
  have h':f n=true:=h
  rw [rt,if_neg (by rw [h'];simp)]
  by_cases h1:0<n∧f (n-1)=true
  ·obtain ⟨l,a,m,e,ha⟩:=q7h h1.1 h1.2
   rw [if_pos h1,e,qr]
   exact ⟨l,a,m+1,rfl,by show a+(m+1)=n;omega⟩
  ·rw [if_neg h1]
   exact ⟨rt f n,n,0,rfl,by simp⟩
theorem qfp {f:Nat→Bool} {a b:Nat} (h:a≤b) (hf:∀ x,a≤x→x<b→f x=false):rt f b=rt f a:=by
 obtain ⟨d,rfl⟩:∃ d,b=a+d:=⟨b-a,by omega⟩
 induction d with
 | zero=>rfl
 | succ d ih =>
  rw [show a+(d+1)=a+d+1 by omega,qm6 (hf (a+d) (by omega) (by omega))]
  exact ih (by omega) fun x h1 h2=>hf x h1 (by omega)
def ext (f:Nat→Bool) (n:Nat):Nat:=if h:n<255 then (if f (n+1)=true then ext f (n+1)+1 else 0) else 0
termination_by 255-n
theorem q7r {f:Nat→Bool} {n:Nat} (h:n<255) (hf:f (n+1)=true):ext f n=ext f (n+1)+1:=by rw [ext,dif_pos h,if_pos hf]
theorem q8v {f:Nat→Bool} {n:Nat} (h:n<255→f (n+1)=false):ext f n=0:=by
 rw [ext]
 split
 ·rename_i h1;rw [if_neg (by rw [h h1];simp)]
 ·rfl
theorem qlk (f:Nat→Bool):∀ {n:Nat},n<256→n+ext f n<256:=by
 intro n hn
 obtain ⟨d,hd⟩:∃ d,256-n=d:=⟨_,rfl⟩
 induction d generalizing n with
 | zero=>omega
 | succ d ih =>
  by_cases h:n<255∧f (n+1)=true
  ·rw [q7r h.1 h.2]
   have:=ih (n:=n+1) (by omega) (by omega)
   omega
  ·rw [q8v fun h1=>by cases hf:f (n+1) with
    | false=>rfl
    | true=>exact absurd ⟨h1,hf⟩ h]
   omega
theorem qm7 (f:Nat→Bool) {n:Nat} (hn:n<256):∀ {x:Nat},n<x→x≤n+ext f n→f x=true:=by
 obtain ⟨d,hd⟩:∃ d,256-n=d:=⟨_,rfl⟩
 induction d generalizing n with
 | zero=>omega
 | succ d ih =>
  intro x h1 h2
  by_cases h:n<255∧f (n+1)=true
  ·rw [q7r h.1 h.2] at h2
   by_cases hx:x=n+1
   ·subst hx;exact h.2
   ·exact ih (n:=n+1) (by omega) (by omega) (by omega) (by omega)
  ·rw [q8v fun h1=>by cases hf:f (n+1) with
    | false=>rfl
    | true=>exact absurd ⟨h1,hf⟩ h] at h2
   omega
theorem qk7 (f:Nat→Bool) {n:Nat} (hn:n<256):n+ext f n<255→f (n+ext f n+1)=false:=by
 obtain ⟨d,hd⟩:∃ d,256-n=d:=⟨_,rfl⟩
 induction d generalizing n with
 | zero=>omega
 | succ d ih =>
  intro h2
  by_cases h:n<255∧f (n+1)=true
  ·rw [q7r h.1 h.2] at h2 ⊢
   have:=ih (n:=n+1) (by omega) (by omega) (by omega)
   rw [show n+(ext f (n+1)+1)+1=n+1+ext f (n+1)+1 by omega]
   exact this
  ·have hf:n<255→f (n+1)=false:=fun h1=>by cases hf:f (n+1) with
    | false=>rfl
    | true=>exact absurd ⟨h1,hf⟩ h
   rw [q8v hf] at h2 ⊢
   exact hf h2
def q1d (f:Nat→Bool) (n:Nat):Bool:=f n&&!(decide (0<n)&&f (n-1))
def rs (f:Nat→Bool) (n:Nat):List (Nat×Nat):=if h:n<256 then (if q1d f n=true then (n,ext f n) :: rs f (n+1) else rs f (n+1)) else []
termination_by 256-n
theorem q6e {f:Nat→Bool} {n:Nat} (h:256≤n):rs f n=[]:=by rw [rs,dif_neg (by omega)]
theorem qdf {f:Nat→Bool} {n:Nat} (h:n<256) (hs:q1d f n=true):rs f n=(n,ext f n) :: rs f (n+1):=by rw [rs,dif_pos h,if_pos hs]
theorem qen {f:Nat→Bool} {n:Nat} (hs:q1d f n=false):rs f n=rs f (n+1):=by
 by_cases h:n<256
 ·rw [rs,dif_pos h,if_neg (by rw [hs];simp)]
 ·rw [q6e (by omega),q6e (by omega)]
theorem qlv (f:Nat→Bool):∀ n,n≤256→q3x (if 0<n∧f (n-1)=true then ext f (n-1) else 0) (rt f n)++rs f n=rs f 0
 | 0,_=>rfl
 | n+1,hn=>by
  have ih:=qlv f n (by omega)
  have al0:∀ l:List (Nat×Nat),q3x 0 l=l:=by
   intro l
   rcases List.eq_nil_or_concat l with rfl | ⟨l',⟨a,m⟩,rfl⟩
   ·rfl
   ·rw [List.concat_eq_append,qr];rfl
  show q3x (if 0<n+1∧f n=true then ext f n else 0) (rt f (n+1))++rs f (n+1)=rs f 0
  cases hf:f n with
  | false =>
   rw [if_neg (by simp),qm6 hf,al0,← ih]
   have hs:q1d f n=false:=by simp [q1d,hf]
   rw [qen hs]
   congr 1
   by_cases h1:0<n∧f (n-1)=true
   ·rw [if_pos h1,q8v (fun _=>by rw [show n-1+1=n by omega];exact hf),al0]
   ·rw [if_neg h1,al0]
  | true =>
   rw [if_pos ⟨by omega,rfl⟩,rt,if_neg (by rw [hf];simp),← ih]
   by_cases h1:0<n∧f (n-1)=true
   ·have hs:q1d f n=false:=by simp [q1d,h1.1,h1.2]
    rw [if_pos h1,if_pos h1,qen hs]
    obtain ⟨l,a,m,e,_⟩:=q7h h1.1 h1.2
    rw [e,qr,qr,qr,q7r (n:=n-1) (by omega) (by rw [show n-1+1=n by omega];exact hf),show n-1+1=n by omega]
    congr 4
    omega
   ·have hs:q1d f n=true:=by
     simp only [q1d,hf,Bool.true_and]
     cases h2:(decide (0<n)&&f (n-1)) with
     | false=>rfl
     | true=>exact absurd (by simpa using h2) h1
    rw [if_neg h1,if_neg h1,al0,qdf (by omega) hs,qr,Nat.zero_add,List.append_assoc]
    rfl
theorem qlf (f:Nat→Bool):rt f 256=rs f 0:=by
 have:=qlv f 256 (Nat.le_refl _)
 rw [q6e (Nat.le_refl _),List.append_nil] at this
 have e:(if 0<256∧f (256-1)=true then ext f (256-1) else 0)=0:=by
  split
  ·exact q8v (by intro h;omega)
  ·rfl
 rw [e] at this
 rw [← this]
 rcases List.eq_nil_or_concat (rt f 256) with h | ⟨l',⟨a,m⟩,h⟩
 ·rw [h];rfl
 ·rw [h,List.concat_eq_append,qr];rfl
def q35 (l:List (Nat×Nat)):List Int:=l.flatMap fun x=>qhg x.1 (x.1+x.2)
theorem q4v (l:List (Nat×Nat)) (a m:Nat):q35 (l++[(a,m)])=q35 l++qhg a (a+m):=by unfold q35;rw [List.flatMap_append];simp
theorem qhn (a:Nat):qhg a (a+0)=[(a:Int)]:=by unfold qhg;rw [show a+0+1-a=1 by omega];rfl
theorem qft (a m:Nat):qhg a (a+(m+1))=qhg a (a+m)++[((a+m+1:Nat):Int)]:=by
 unfold qhg
 rw [show a+(m+1)+1-a=(a+m+1-a)+1 by omega,List.range_succ,List.map_append,show a+m+1-a=m+1 by omega]
 rfl
theorem qbc (f:Nat→Bool):∀ n,q35 (rt f n)=((List.range n).filter f).map fun j:Nat=>(j:Int)
 | 0=>rfl
 | n+1=>by
  have ih:=qbc f n
  rw [List.range_succ,List.filter_append,List.map_append,← ih,rt]
  cases hf:f n with
  | false=>rw [if_pos rfl];simp [hf]
  | true =>
   rw [if_neg (by simp)]
   have e:([n].filter f).map (fun j:Nat=>(j:Int))=[(n:Int)]:=by simp [hf]
   rw [e]
   by_cases h1:0<n∧f (n-1)=true
   ·rw [if_pos h1]
    obtain ⟨l,a,m,e,ha⟩:=q7h h1.1 h1.2
    rw [e,qr,q4v,q4v,qft,List.append_assoc,show a+m+1=n by omega]
   ·rw [if_neg h1,q4v,qhn]
theorem qbh (f:Nat→Bool):q35 (rs f 0)=qib f:=by rw [← qlf,qbc];rfl
def q5d:Nat→List (Nat×Nat)→List UInt8
 | _,[]=>[]
 | last,(a,m) :: r=>q19 (a-last)++q19 m++q5d (a+m) r
def q4z:Bool→Nat→List (Nat×Nat)→Prop
 | _,_,[]=>True
 | first,last,(a,m) :: r=>last≤a∧(first=true∨last+2≤a)∧a+m<256∧q4z false (a+m) r
def q7x (l:List Int):List UInt8:=2 :: (q19 (rs (inl l) 0).length++q5d 0 (rs (inl l) 0))
def q6c (l:List Int):List UInt8×Int:=if sok l=false then ([],1) else (q7x l,0)
theorem qi9 (f:Nat→Bool):∀ (d n:Nat) (first:Bool) (last:Nat),256-n=d→(∀ x,n≤x→x<256→q1d f x=true→last≤x∧(first=true∨last+2≤x))→q4z first last (rs f n)
 | 0,n,first,last,hd,_=>by rw [q6e (by omega)];trivial
 | d+1,n,first,last,hd,h=>by
  cases hs:q1d f n with
  | false=>rw [qen hs];exact qi9 f d (n+1) first last (by omega) fun x h1 h2 h3=>h x (by omega) h2 h3
  | true =>
   rw [qdf (by omega) hs]
   obtain ⟨k1,k2⟩:=h n (Nat.le_refl _) (by omega) hs
   refine ⟨k1,k2,qlk f (by omega),qi9 f d (n+1) false _ (by omega) fun x h1 h2 h3=>?_⟩
   have hfn:f n=true:=by simp [q1d] at hs;exact hs.1
   have h3':=h3
   simp only [q1d,Bool.and_eq_true,Bool.not_eq_true',Bool.and_eq_false_imp,decide_eq_true_eq] at h3'
   obtain ⟨hfx,hprev⟩:=h3'
   have hp:=hprev (by omega)
   have:n+ext f n<x:=by
    rcases Nat.lt_or_ge (n+ext f n) x with h4 | h4
    ·exact h4
    ·exfalso
     by_cases hx:x-1=n
     ·rw [hx,hfn] at hp;cases hp
     ·rw [qm7 f (n:=n) (by omega) (x:=x-1) (by omega) (by omega)] at hp;cases hp
   have:x≠n+ext f n+1:=by
    intro e
    rw [e,qk7 f (by omega) (by omega)] at hfx;cases hfx
   exact ⟨by omega,.inr (by omega)⟩
theorem qdp (f:Nat→Bool):∀ (d n:Nat),256-n=d→(rs f n).length≤d
 | 0,n,hd=>by rw [q6e (by omega)];exact Nat.le_refl _
 | d+1,n,hd=>by
  have:=qdp f d (n+1) (by omega)
  cases hs:q1d f n with
  | false=>rw [qen hs];omega
  | true=>rw [qdf (by omega) hs,List.length_cons];omega
theorem qdw : ∀ (q : List (Nat × Nat)) (first : Bool) (last : Nat) (acc : List Int) (r : List UInt8), q4z first last q → qi1 q.length first last acc (q5d last q ++ r) = .ok (acc ++ q35 q, r)
  | [], first, last, acc, r, _ => by rw [List.length_nil, qi1]; simp [q5d, q35]
  | (a, m) :: q, first, last, acc, r, h => by
    obtain ⟨h1, h2, h3, h4⟩ := h
    rw [List.length_cons, qi1, q5d, List.append_assoc, List.append_assoc, q6j (by omega)]
    simp only
    rw [q6j (by omega)]
    simp only
    have e : last + (a - last) + m = a + m := by omega
    have e2 : last + (a - last) = a := by omega
    rw [if_pos ⟨by omega, by omega, by omega, h2.imp (fun e => e) (fun e => by omega)⟩, e, e2, qdw q false (a + m) _ r h4]
    simp [q35, List.append_assoc]
theorem qhu {l:List Int} (hl:sok l=true) (r:List UInt8):qhi (q7x l++r) = .ok (l,r):=by
 have hlen:=qdp (inl l) 256 0 rfl
 show qhi (2 :: (q19 (rs (inl l) 0).length++q5d 0 (rs (inl l) 0)++r))=_
 rw [qhi,if_neg (by simp),List.append_assoc,q6j (by omega)]
 simp only
 rw [if_neg (by omega),qdw _ true 0 [] r (qi9 _ 256 0 true 0 rfl fun x _ _ _=>⟨Nat.zero_le _,.inl rfl⟩),List.nil_append,qbh]
 congr 2
 exact qh9 (q99 _) hl fun n=>by
  rw [qcy]
  cases h:inl l n with
  | false=>simp
  | true=>simp [qff hl h]
theorem qdg:∀ {k:Nat} {first:Bool} {last:Nat} {acc:List Int} {b:List UInt8} {l:List Int} {r:List UInt8},last<256→qi1 k first last acc b = .ok (l,r)→∃ q,q.length=k∧q4z first last q∧b=q5d last q++r∧l=acc++q35 q
 | 0,_,_,_,_,_,_,_,h=>by cases h;exact ⟨[],rfl,trivial,rfl,by simp [q35]⟩
 | k+1,first,last,acc,b,l,r,hl,h=>by
  unfold qi1 at h
  cases h1:got 0 0 b with
  | error e=>rw [h1] at h;cases h
  | ok x =>
   obtain ⟨far,b1⟩:=x
   rw [h1] at h
   simp only at h
   cases h2:got 0 0 b1 with
   | error e=>rw [h2] at h;cases h
   | ok x =>
    obtain ⟨more,b2⟩:=x
    rw [h2] at h
    simp only at h
    split at h
    ·rename_i hok
     obtain ⟨k1,k2,k3,k4⟩:=hok
     obtain ⟨q,e1,e2,e3,e4⟩:=qdg k3 h
     refine ⟨(last+far,more) :: q,by simp [e1],⟨by omega,k4.imp (fun e=>e) (fun e=>by omega),k3,e2⟩,?_,?_⟩
     ·rw [q6n h1,q6n h2,e3,q5d,show last+far-last=far by omega,List.append_assoc,List.append_assoc]
     ·rw [e4];simp [q35,List.append_assoc]
    ·cases h
def inq (q:List (Nat×Nat)) (x:Nat):Bool:=q.any fun p=>decide (p.1≤x)&&decide (x≤p.1+p.2)
theorem qf3 (q:List (Nat×Nat)) (x:Nat):inl (q35 q) x=inq q x:=by
 rw [Bool.eq_iff_iff,inl_mem,q35,List.mem_flatMap,inq,List.any_eq_true]
 constructor
 ·rintro ⟨p,hp,hx⟩
  refine ⟨p,hp,?_⟩
  unfold qhg at hx
  obtain ⟨k,hk,e⟩:=List.mem_map.1 hx
  rw [List.mem_range] at hk
  simp
  omega
 ·rintro ⟨p,hp,hx⟩
  simp at hx
  refine ⟨p,hp,?_⟩
  unfold qhg
  exact List.mem_map.2 ⟨x-p.1,List.mem_range.2 (by omega),by omega⟩
theorem qcd {f:Nat→Bool} {a b:Nat} (h:a≤b) (hf:∀ x,a≤x→x<b→q1d f x=false):rs f a=rs f b:=by
 obtain ⟨d,rfl⟩:∃ d,b=a+d:=⟨b-a,by omega⟩
 clear h
 induction d generalizing a with
 | zero=>rfl
 | succ d ih =>
  rw [qen (hf a (Nat.le_refl _) (by omega)),show a+(d+1)=a+1+d by omega]
  exact ih fun x h1 h2=>hf x (by omega) (by omega)
theorem qja {f:Nat→Bool}:∀ {m a:Nat},a+m<256→(∀ x,a<x→x≤a+m→f x=true)→(a+m<255→f (a+m+1)=false)→ext f a=m
 | 0,a,h,_,h2=>q8v fun h1=>h2 h1
 | m+1,a,h,h1,h2=>by
  rw [q7r (by omega) (h1 (a+1) (by omega) (by omega)),qja (m:=m) (a:=a+1) (by omega) (fun x k1 k2=>h1 x (by omega) (by omega)) (fun k=>by rw [show a+1+m+1=a+(m+1)+1 by omega];exact h2 (by omega))]
theorem qna {f : Nat → Bool} : ∀ (q : List (Nat × Nat)) (first : Bool) (last n : Nat), q4z first last q → (∀ p ∈ q.head?, n ≤ p.1) → (∀ x, n ≤ x → x < 256 → f x = inq q x) → (n = 0 ∨ f (n - 1) = false) → rs f n = q
  | [], first, last, n, _, _, hf, _ => by
    rcases Nat.lt_or_ge n 256 with hn | hn
    · rw [qcd (a := n) (b := 256) (by omega) fun x h1 h2 => by simp [q1d, hf x h1 h2, inq], q6e (Nat.le_refl _)]
    · exact q6e hn
  | (a, m) :: q, first, last, n, hok, hh, hf, hn => by
    obtain ⟨h1, h2, h3, h4⟩ := hok
    have hna : n ≤ a := hh (a, m) rfl
    have hq : ∀ p ∈ q.head?, a + m + 2 ≤ p.1 := by
      intro p hp
      cases q with
      | nil => cases hp
      | cons p' q => obtain ⟨a', m'⟩ := p'; simp at hp; subst hp; exact h4.2.1.resolve_left (by simp)
    have hqlow : ∀ x, x < a + m + 2 → inq q x = false := by
      intro x hx
      have : ∀ (q : List (Nat × Nat)) (fi : Bool) (la : Nat), q4z fi la q → (∀ p ∈ q.head?, x < p.1) → inq q x = false := by
        intro q
        induction q with
        | nil => intros; rfl
        | cons p q ih =>
          obtain ⟨a', m'⟩ := p
          intro fi la ⟨g1, g2, g3, g4⟩ gh
          have gx : x < a' := gh (a', m') rfl
          have := ih false (a' + m') g4 (by
            intro p hp
            cases q with
            | nil => cases hp
            | cons p' q => obtain ⟨a2, m2⟩ := p'; simp at hp; subst hp; have := g4.1; show x < a2; omega)
          unfold inq at this ⊢
          rw [List.any_cons, this, Bool.or_false]
          simp; omega
      exact this q false (a + m) h4 fun p hp => by have := hq p hp; omega
    have hfx : ∀ x, n ≤ x → x < 256 → x < a + m + 2 → f x = (decide (a ≤ x) && decide (x ≤ a + m)) := by
      intro x k1 k2 k3
      rw [hf x k1 k2]
      have := hqlow x k3
      unfold inq at this ⊢
      rw [List.any_cons, this, Bool.or_false]
    have hfa : f a = true := by rw [hfx a hna (by omega) (by omega)]; simp
    have hpre : ∀ x, n ≤ x → x < a → f x = false := fun x k1 k2 => by rw [hfx x k1 (by omega) (by omega)]; simp; omega
    rw [qcd hna fun x k1 k2 => by simp [q1d, hpre x k1 k2]]
    have hs : q1d f a = true := by
      simp only [q1d, hfa, Bool.true_and, Bool.not_eq_true', Bool.and_eq_false_imp, decide_eq_true_eq]
      intro ha
      by_cases e : a = n
      · subst e; exact hn.resolve_left (by omega)
      · exact hpre (a - 1) (by omega) (by omega)
    have hext : ext f a = m := qja h3 (fun x k1 k2 => by rw [hfx x (by omega) (by omega) (by omega)]; simp; omega) (fun k => by rw [hfx _ (by omega) (by omega) (by omega)]; simp)
    rw [qdf (by omega) hs, hext]
    congr 1
    rw [qcd (a := a + 1) (b := a + m + 1) (by omega) fun x k1 k2 => by
      have : f (x - 1) = true := by rw [hfx (x - 1) (by omega) (by omega) (by omega)]; simp; omega
      simp [q1d, this]; intro _; omega]
    rcases Nat.lt_or_ge (a + m + 1) 256 with hlt | hge
    · have hfe : f (a + m + 1) = false := by rw [hfx _ (by omega) hlt (by omega)]; simp
      rw [qen (by simp [q1d, hfe])]
      refine qna q false (a + m) (a + m + 2) h4 hq (fun x k1 k2 => ?_) (.inr (by show f (a + m + 1) = false; exact hfe))
      rw [hf x (by omega) k2]
      unfold inq
      rw [List.any_cons]
      simp; omega
    · rw [q6e hge]
      cases q with
      | nil => rfl
      | cons p q => obtain ⟨a', m'⟩ := p; have := h4.2.1.resolve_left (by simp); have := h4.2.2.1; omega
theorem qia {b:List UInt8} {l:List Int} {r:List UInt8} (h:qhi b = .ok (l,r)):sok l=true∧b=q7x l++r:=by
 unfold qhi at h
 split at h
 ·cases h
 rename_i c b'
 split at h
 ·cases h
 rename_i hc
 have hc2:c=2:=by simpa using hc
 subst hc2
 cases h1:got 0 0 b' with
 | error e=>rw [h1] at h;cases h
 | ok x =>
  obtain ⟨many,b1⟩:=x
  rw [h1] at h
  simp only at h
  split at h
  ·cases h
  obtain ⟨q,e1,e2,e3,e4⟩:=qdg (by decide) h
  rw [List.nil_append] at e4
  have hrs:rs (inl l) 0=q:=by
   rw [e4]
   exact qna q true 0 0 e2 (fun _ _=>Nat.zero_le _) (fun x _ _=>qf3 q x) (.inl rfl)
  refine ⟨?_,?_⟩
  ·rw [e4,← hrs,qbh];exact q99 _
  ·rw [q7x,hrs,q6n h1,e3,e1]
   simp [List.append_assoc]
def bd (l:List Int) (i:Nat):Nat:=if i=0 then 0 else (l.getD (i-1) 0).toNat+1
theorem qj2 (f:Nat→Bool):∀ n,(rt f n).length≤n
 | 0=>Nat.le_refl _
 | n+1=>by
  have ih:=qj2 f n
  rw [rt]
  split
  ·omega
  ·split
   ·rename_i h
    obtain ⟨l,a,m,e,_⟩:=q7h h.1 h.2
    rw [e] at ih ⊢
    rw [qr]
    simp at ih ⊢
    omega
   ·rw [List.length_append];simp;omega
theorem q2u {l:List Int} (h:sok l=true) {i:Nat} (hi:i<l.length):∃ n:Nat,l[i]?=some (n:Int)∧n<256:=by
 have:=q37 h hi
 exact ⟨l[i].toNat,by rw [List.getElem?_eq_getElem hi];congr 1;omega,by omega⟩
theorem q4w {l:List Int} {i n:Nat} (h:l[i]?=some (n:Int)):bd l (i+1)=n+1:=by
 unfold bd
 rw [if_neg (by omega),Nat.add_sub_cancel,List.getD_eq_getElem?_getD,h]
 simp
theorem qg6 {l:List Int} (h:sok l=true) {i j a b:Nat} (hij:i<j) (ha:l[i]?=some (a:Int)) (hb:l[j]?=some (b:Int)):a<b:=by
 obtain ⟨hi,ha⟩:=List.getElem?_eq_some_iff.1 ha
 obtain ⟨hj,hb⟩:=List.getElem?_eq_some_iff.1 hb
 have:=List.pairwise_iff_getElem.1 (q30 h) i j hi hj hij
 rw [ha,hb] at this
 omega
theorem qje {l:List Int} (h:sok l=true) {i:Nat} (hil:i≤l.length):∀ x,bd l i≤x→(∀ n:Nat,l[i]?=some (n:Int)→x<n)→inl l x=false:=by
 intro x h1 h2
 cases hx:inl l x with
 | false=>rfl
 | true =>
  exfalso
  obtain ⟨k,hk,e⟩:=List.getElem_of_mem (inl_mem.1 hx)
  have hk':l[k]?=some (x:Int):=by rw [List.getElem?_eq_getElem hk,e]
  rcases Nat.lt_or_ge k i with hki | hki
  ·obtain ⟨p,hp,_⟩:=q2u h (i:=i-1) (by omega)
   have e1:bd l i=p+1:=by
    have:=q4w hp
    rwa [show i-1+1=i by omega] at this
   by_cases hk2:k=i-1
   ·subst hk2;rw [hp] at hk';have:=Option.some.inj hk';omega
   ·have:=qg6 h (i:=k) (j:=i-1) (by omega) hk' hp;omega
  ·obtain ⟨n,hn,_⟩:=q2u h (i:=i) (by omega)
   have h3:=h2 n hn
   by_cases hk2:k=i
   ·subst hk2;rw [hn] at hk';have:=Option.some.inj hk';omega
   ·have:=qg6 h (i:=i) (j:=k) (by omega) hn hk';omega
theorem qh5 {l:List Int} (h:sok l=true) {i n:Nat} (hn:l[i]?=some (n:Int)) :
  rt (inl l) (n+1)=if 0<i∧l[i-1]?=some ((n:Int)-1) then q3x 1 (rt (inl l) (bd l i)) else rt (inl l) (bd l i)++[(n,0)]:=by
 have hi:i<l.length:=(List.getElem?_eq_some_iff.1 hn).1
 have hf:inl l n=true:=inl_mem.2 (List.mem_of_getElem? hn)
 have hbd:bd l i≤n:=by
  rcases Nat.eq_zero_or_pos i with e | e
  ·subst e;exact Nat.zero_le _
  ·obtain ⟨p,hp,_⟩:=q2u h (i:=i-1) (by omega)
   have e1:=q4w hp
   rw [show i-1+1=i by omega] at e1
   have:=qg6 h (i:=i-1) (j:=i) (by omega) hp hn
   omega
 have hgap:∀ x,bd l i≤x→x<n→inl l x=false:=fun x h1 h2=>qje h (by omega) x h1 fun n' hn'=>by
  rw [hn] at hn'
  have:=Option.some.inj hn'
  omega
 rw [rt,if_neg (by rw [hf];simp),qfp hbd hgap]
 have key:(0<n∧inl l (n-1)=true)↔(0<i∧l[i-1]?=some ((n:Int)-1)):=by
  constructor
  ·rintro ⟨h1,h2⟩
   have hb:n-1<bd l i:=by
    rcases Nat.lt_or_ge (n-1) (bd l i) with h3 | h3
    ·exact h3
    ·rw [hgap (n-1) h3 (by omega)] at h2;cases h2
   have hi0:0<i:=by
    rcases Nat.eq_zero_or_pos i with e | e
    ·subst e;simp [bd] at hb
    ·exact e
   obtain ⟨p,hp,_⟩:=q2u h (i:=i-1) (by omega)
   have e1:=q4w hp
   rw [show i-1+1=i by omega] at e1
   refine ⟨hi0,?_⟩
   rw [hp]
   congr 1
   omega
  ·rintro ⟨h1,h2⟩
   obtain ⟨p,hp,_⟩:=q2u h (i:=i-1) (by omega)
   rw [hp] at h2
   have h3:=Option.some.inj h2
   refine ⟨by omega,inl_mem.2 ?_⟩
   have:=List.mem_of_getElem? hp
   rw [h3] at this
   rwa [show ((n-1:Nat):Int)=(n:Int)-1 by omega]
 by_cases hk:0<n∧inl l (n-1)=true
 ·rw [if_pos hk,if_pos (key.1 hk)]
 ·rw [if_neg hk,if_neg (fun e=>hk (key.2 e))]
theorem qfw {l:List Int} (h:sok l=true) {i n:Nat} (hn:l[i]?=some (n:Int)) (hc:0<i∧l[i-1]?=some ((n:Int)-1)):∃ q a m,rt (inl l) (bd l i)=q++[(a,m)]∧a+m<256:=by
 obtain ⟨p,hp,hp2⟩:=q2u h (i:=i-1) (by have:=(List.getElem?_eq_some_iff.1 hn).1;omega)
 have e1:=q4w hp
 rw [show i-1+1=i by omega] at e1
 have hf:inl l p=true:=inl_mem.2 (List.mem_of_getElem? hp)
 obtain ⟨q,a,m,e,ha⟩:=q7h (f:=inl l) (n:=bd l i) (by omega) (by rw [e1];exact hf)
 exact ⟨q,a,m,e,by omega⟩
theorem qgd {l:List Int} (h:sok l=true):rt (inl l) (bd l l.length)=rs (inl l) 0:=by
 have hb:bd l l.length≤256:=by
  rcases Nat.eq_zero_or_pos l.length with e | e
  ·rw [e];simp [bd]
  ·obtain ⟨p,hp,hp2⟩:=q2u h (i:=l.length-1) (by omega)
   have e1:=q4w hp
   rw [show l.length-1+1=l.length by omega] at e1
   omega
 rw [← qlf,qfp hb fun x h1 h2=>qje h (Nat.le_refl _) x h1 fun n hn=>by
  rw [List.getElem?_eq_none (Nat.le_refl _)] at hn;cases hn]
theorem q3z (s:ByteArray):s.data.toList.length=s.size:=by rw [Array.length_toList];rfl
abbrev Rd (α:Type):=List UInt8→Except Int (α×List UInt8)
def pb {α β:Type} (f:Rd α) (g:α→Rd β):Rd β:=fun b=>match f b with
 | .error e=>.error e
 | .ok (v,r)=>g v r
theorem q88 {α β:Type} {f:Rd α} {g:α→Rd β} {b:List UInt8} {v:α} {r:List UInt8} (h:f b = .ok (v,r)):pb f g b=g v r:=by unfold pb;rw [h]
theorem qlu {α β:Type} {f:Rd α} {g:α→Rd β} {b:List UInt8} {e:Int} (h:f b = .error e):pb f g b = .error e:=by unfold pb;rw [h]
theorem q58 {α β:Type} {f:Rd α} {g:α→Rd β} {b:List UInt8} {w:β} {r:List UInt8} (h:pb f g b = .ok (w,r)):∃ v r1,f b = .ok (v,r1)∧g v r1 = .ok (w,r):=by
 unfold pb at h
 cases hf:f b with
 | error e=>rw [hf] at h;cases h
 | ok x=>obtain ⟨v,r1⟩:=x;rw [hf] at h;exact ⟨v,r1,rfl,h⟩
def qhl {α:Type} (e:Int):Rd α:=fun _=>.error e
def qhp {α:Type} (c:Bool) (v:α):Rd α:=fun b=>if c then .ok (v,b) else .error 3
def qil:Rd Nat:=fun b=>got 0 0 b
def qky:Rd UInt8 | []=>.error 2 | c :: r=>.ok (c,r)
def qfl (n:Nat):Rd ByteArray:=fun b=>if b.length<n then .error 2 else .ok (⟨(b.take n).toArray⟩,b.drop n)
def zig (p:Int):Nat:=if p<0 then (0-2 * p-1).toNat else (2 * p).toNat
def zag (n:Nat):Int:=if n % 2=1 then -1-((n / 2:Nat):Int) else ((n / 2:Nat):Int)
theorem qka (p:Int):zag (zig p)=p:=by unfold zag zig;split<;>split<;>omega
theorem qkw (n:Nat):zig (zag n)=n:=by unfold zag zig;split<;>split<;>omega
def wb (w:Bool):UInt8:=if w then 1 else 0
def q13 (s:Spec):List UInt8:=1 :: (q19 s.nodes.toNat++(q19 s.cores.toNat++(q19 s.gpus.toNat++(q19 s.tag.size++(s.tag.data.toList++(wb s.whole :: (q19 s.long.toNat++q19 (zig s.prio))))))))
def q3v (s:Spec):List UInt8×Int:=if qq s=false then ([],1) else (q13 s,0)
def qjo:Rd ByteArray:=pb qil fun n=>if 16<n then qhl 3 else qfl n
def qn5 (n c g:Nat) (t:ByteArray) (w:Bool):Rd Spec:=pb qil fun l=>pb qil fun p=>qhp (qq ⟨n,c,g,t,w,l,zag p⟩) ⟨n,c,g,t,w,l,zag p⟩
def qnb (n c g:Nat) (t:ByteArray):Rd Spec:=pb qky fun k=>if 1<k.toNat then qhl 3 else qn5 n c g t (k.toNat == 1)
def qn7:Rd Spec:=pb qil fun n=>pb qil fun c=>pb qil fun g=>pb qjo fun t=>qnb n c g t
def qah:Rd Spec:=pb qky fun c=>if c≠1 then qhl 3 else qn7
def q2b (b:List UInt8):Spec×Int :=
 if 65536<b.length then (q4q,4)
 else match qah b with
  | .error e=>(q4q,e)
  | .ok (s,r)=>if r=[] then (s,0) else (q4q,3)
theorem q45 {n:Nat} (h:n≤4611686018427387904) (r:List UInt8):qil (q19 n++r) = .ok (n,r):=q6j h r
theorem qkm (t:ByteArray):(⟨t.data.toList.toArray⟩:ByteArray)=t:=by cases t;simp
theorem qan {s:Spec} (hs:qq s=true) (r:List UInt8):qah (q13 s++r) = .ok (s,r):=by
 have hf:=q1l hs
 have htag:s.tag.size≤16:=by
  have:=hs
  simp only [qq,q5e,Bool.and_eq_true,decide_eq_true_eq] at this
  omega
 have hz:zig s.prio≤4611686018427387904:=by
  have:=hs
  simp only [qq,Bool.and_eq_true,decide_eq_true_eq] at this
  unfold zig;split<;>omega
 have hl:s.long.toNat≤4611686018427387904:=by omega
 show qah (1 :: (q19 s.nodes.toNat++(q19 s.cores.toNat++(q19 s.gpus.toNat++(q19 s.tag.size++(s.tag.data.toList++(wb s.whole :: (q19 s.long.toNat++q19 (zig s.prio))))))))++r)=_
 simp only [List.cons_append,List.append_assoc]
 rw [qah,q88 (v:=1) rfl,if_neg (by simp),qn7,q88 (q45 (by omega) _),q88 (q45 (by omega) _),q88 (q45 (by omega) _)]
 have hlen:s.tag.data.toList.length=s.tag.size:=q3z _
 rw [q88 (v:=s.tag) (r:=wb s.whole :: (q19 s.long.toNat++(q19 (zig s.prio)++r))) (by
  rw [qjo,q88 (q45 (by omega) _),if_neg (by omega),qfl,if_neg (by rw [List.length_append];omega),List.take_left' hlen,List.drop_left' hlen,qkm])]
 rw [qnb,q88 (v:=wb s.whole) (r:=q19 s.long.toNat++(q19 (zig s.prio)++r)) rfl,if_neg (by unfold wb;split<;>decide),qn5,q88 (q45 hl _),q88 (q45 hz _),qka]
 have e:(⟨(s.nodes.toNat:Int),(s.cores.toNat:Int),(s.gpus.toNat:Int),s.tag,(wb s.whole).toNat == 1,(s.long.toNat:Int),s.prio⟩:Spec)=s:=by
  have hw:((wb s.whole).toNat == 1)=s.whole:=by cases s.whole<;>rfl
  rw [hw]
  cases s
  simp only [Spec.mk.injEq]
  simp only at hf
  refine ⟨by omega,by omega,by omega,trivial,trivial,by omega,trivial⟩
 rw [e,qhp,if_pos hs]
theorem q44 {b r:List UInt8} {n:Nat} (h:qil b = .ok (n,r)):b=q19 n++r:=q6n h
theorem qgy {b r:List UInt8} {s:Spec} (h:qah b = .ok (s,r)):qq s=true∧b=q13 s++r:=by
 obtain ⟨c,b0,h1,h⟩:=q58 h
 split at h
 ·cases h
 rename_i hc
 obtain ⟨n,b1,h2,h⟩:=q58 h
 obtain ⟨k,b2,h3,h⟩:=q58 h
 obtain ⟨g,b3,h4,h⟩:=q58 h
 obtain ⟨t,b4,h5,h⟩:=q58 h
 obtain ⟨w,b5,h6,h⟩:=q58 h
 split at h
 ·cases h
 rename_i hw
 obtain ⟨l,b6,h7,h⟩:=q58 h
 obtain ⟨p,b7,h8,h⟩:=q58 h
 unfold qhp at h
 split at h
 ·rename_i hs
  cases h
  refine ⟨hs,?_⟩
  have e1:b=1 :: b0:=by
   cases b with
   | nil=>cases h1
   | cons d b=>cases h1;congr 1;simpa using hc
  have e6:b4=wb (w.toNat == 1) :: b5:=by
   cases b4 with
   | nil=>cases h6
   | cons d b4 =>
    cases h6
    congr 1
    apply UInt8.toNat_inj.1
    have:w.toNat=0∨w.toNat=1:=by omega
    rcases this with e | e<;>rw [e]<;>rfl
  obtain ⟨m,b3',h9,h5⟩:=q58 h5
  split at h5
  ·cases h5
  unfold qfl at h5
  split at h5
  ·cases h5
  rename_i hm1 hm2
  cases h5
  have hsz:(⟨(b3'.take m).toArray⟩:ByteArray).size=m:=by
   show (b3'.take m).toArray.size=m
   rw [List.size_toArray,List.length_take];omega
  rw [e1,q44 h2,q44 h3,q44 h4,q44 h9]
  show _=1 :: (q19 _++(q19 _++(q19 _++(q19 (ByteArray.size _)++(_++(wb _ :: (q19 _++q19 _)))))))++r
  simp only [List.cons_append,List.append_assoc]
  rw [hsz,qkw,Int.toNat_natCast,Int.toNat_natCast,Int.toNat_natCast,Int.toNat_natCast]
  have e4:b3'=b3'.take m++(wb (w.toNat == 1) :: b5):=by rw [← e6,List.take_append_drop]
  rw [q44 h7,q44 h8] at e4
  congr 5
 ·cases h
theorem qih (n:Nat):∀ k,n<128 ^ (k+1)→(q19 n).length≤k+1:=by
 intro k
 induction k generalizing n with
 | zero=>intro h;rw [q7d (by omega)];simp
 | succ k ih =>
  intro h
  by_cases hn:n<128
  ·rw [q7d hn];simp
  ·rw [qa0 hn,List.length_cons]
   have:=ih (n / 128) (by rw [Nat.div_lt_iff_lt_mul (by decide),← Nat.pow_succ];exact h)
   omega
theorem q1i {n:Nat} (h:n<18446744073709551616):(q19 n).length≤10:=qih n 9 (Nat.lt_of_lt_of_le h (by decide))
theorem q97 {b:List UInt8}:∀ {i n:Nat} {e:Int},got i n b = .error e→e=2∨e=3:=by
 induction b with
 | nil=>intro i n e h;cases h;exact .inl rfl
 | cons c b ih =>
  intro i n e h
  unfold got at h
  split at h
  ·cases h;exact .inr rfl
  split at h
  ·split at h
   ·cases h;exact .inr rfl
   ·cases h
  ·exact ih h
theorem qd8:∀ {m:Nat} {first:Bool} {last:Nat} {acc:List Int} {b:List UInt8} {e:Int},qi1 m first last acc b = .error e→e=2∨e=3
 | 0,_,_,_,_,_,h=>by cases h
 | m+1,first,last,acc,b,e,h=>by
  unfold qi1 at h
  cases h1:got 0 0 b with
  | error e1=>rw [h1] at h;cases h;exact q97 h1
  | ok x =>
   obtain ⟨far,b1⟩:=x
   rw [h1] at h
   simp only at h
   cases h2:got 0 0 b1 with
   | error e1=>rw [h2] at h;cases h;exact q97 h2
   | ok x =>
    obtain ⟨more,b2⟩:=x
    rw [h2] at h
    simp only at h
    split at h
    ·exact qd8 h
    ·cases h;exact .inr rfl
theorem qim {b:List UInt8} {e:Int} (h:qhi b = .error e):e=2∨e=3:=by
 unfold qhi at h
 split at h
 ·cases h;exact .inl rfl
 split at h
 ·cases h;exact .inr rfl
 rename_i c r _
 cases h1:got 0 0 r with
 | error e1=>rw [h1] at h;cases h;exact q97 h1
 | ok x =>
  obtain ⟨many,b1⟩:=x
  rw [h1] at h
  simp only at h
  split at h
  ·cases h;exact .inr rfl
  ·exact qd8 h
def q61 {α:Type} (f:Rd α):Prop:=∀ b e,f b = .error e→e=2∨e=3
theorem q2a {α β:Type} {f:Rd α} {g:α→Rd β} (hf:q61 f) (hg:∀ v,q61 (g v)):q61 (pb f g):=fun b e h=>by
 cases h1:f b with
 | error e1=>rw [qlu h1] at h;cases h;exact hf _ _ h1
 | ok x=>obtain ⟨v,r⟩:=x;rw [q88 h1] at h;exact hg v _ _ h
theorem q5k {α:Type}:q61 (qhl (α:=α) 3):=fun b e h=>by cases h;exact .inr rfl
theorem qe9 {α:Type} (c:Bool) (v:α):q61 (qhp c v):=fun b e h=>by
 cases c with
 | true=>cases h
 | false=>cases h;exact .inr rfl
theorem q8h:q61 qky:=fun b e h=>by
 cases b with
 | nil=>cases h;exact .inl rfl
 | cons c b=>cases h
theorem qey (n:Nat):q61 (qfl n):=fun b e h=>by
 unfold qfl at h
 split at h
 ·cases h;exact .inl rfl
 ·cases h
theorem q2x:q61 qil:=fun b e h=>q97 h
theorem q7k {α:Type} {c:Prop} [Decidable c] {f g:Rd α} (hf:q61 f) (hg:q61 g):q61 (if c then f else g):=by split<;>assumption
theorem qed:q61 qjo:=q2a q2x fun _=>q7k q5k (qey _)
theorem qck:q61 qah:=q2a q8h fun _=>q7k q5k (q2a q2x fun _=>q2a q2x fun _=>q2a q2x fun _=>q2a qed fun _=>q2a q8h fun _=>q7k q5k (q2a q2x fun _=>q2a q2x fun _=>qe9 _ _))
theorem q78 {s:Spec} (hs:qq s=true):(q13 s).length≤100:=by
 have hf:=q1l hs
 have htag:s.tag.size≤16:=by
  have:=hs
  simp only [qq,q5e,Bool.and_eq_true,decide_eq_true_eq] at this
  omega
 have hz:zig s.prio≤4611686018427387904:=by
  have:=hs
  simp only [qq,Bool.and_eq_true,decide_eq_true_eq] at this
  unfold zig;split<;>omega
 have h1:=q1i (n:=s.nodes.toNat) (by omega)
 have h2:=q1i (n:=s.cores.toNat) (by omega)
 have h3:=q1i (n:=s.gpus.toNat) (by omega)
 have h4:=q1i (n:=s.tag.size) (by omega)
 have h5:=q1i (n:=s.long.toNat) (by omega)
 have h6:=q1i (n:=zig s.prio) (by omega)
 have h7:=q3z s.tag
 unfold q13
 simp only [List.length_cons,List.length_append]
 omega
theorem qjd (f:Nat→Bool):q4z true 0 (rs f 0):=qi9 f 256 0 true 0 rfl fun x _ _ _=>⟨Nat.zero_le _,.inl rfl⟩
theorem qkf {l:List Int} (h:sok l=true):∀ k:Nat,k<l.length→(k:Int)≤l.getD k 0:=by
 intro k
 induction k with
 | zero =>
  intro hk
  have hm:l[0]?=some l[0]:=List.getElem?_eq_getElem hk
  have:=q3p hm (q76 h hk)
  simp only [List.getD_eq_getElem?_getD,hm,Option.getD_some]
  omega
 | succ k ih =>
  intro hk
  have hm:l[k+1]?=some l[k+1]:=List.getElem?_eq_getElem hk
  have hm0:l[k]?=some l[k]:=List.getElem?_eq_getElem (by omega)
  have h1:=q76 h hk
  rw [q7q hm] at h1
  have ih:=ih (by omega)
  simp only [List.getD_eq_getElem?_getD,hm0,hm,Option.getD_some] at ih ⊢
  simp only [Nat.add_sub_cancel,hm0,Bool.and_eq_true,Bool.or_eq_true,decide_eq_true_eq,beq_iff_eq] at h1
  omega
theorem qbi : ∀ (q : List (Nat × Nat)) (first : Bool) (last : Nat), q4z first last q → (q5d last q).length ≤ 20 * q.length
  | [], _, _, _ => Nat.le_refl _
  | (a, m) :: q, first, last, h => by
    obtain ⟨h1, h2, h3, h4⟩ := h
    have k1 := q1i (n := a - last) (by omega)
    have k2 := q1i (n := m) (by omega)
    have ih := qbi q false (a + m) h4
    rw [q5d, List.length_append, List.length_append, List.length_cons]
    omega
theorem qki {l:List Int} (h:sok l=true):l.length≤256:=by
 rcases Nat.lt_or_ge 256 l.length with hl | hl
 ·have h1:=qkf h 256 hl
  have hm:l[256]?=some l[256]:=List.getElem?_eq_getElem hl
  have:=q3p hm (q76 h hl)
  simp only [List.getD_eq_getElem?_getD,hm,Option.getD_some] at h1
  omega
 ·exact hl
theorem q9w (l:List Int):(q7x l).length≤6000:=by
 have h1:=qbi _ _ _ (qjd (inl l))
 have h2:=qdp (inl l) 256 0 rfl
 have h3:=q1i (n:=(rs (inl l) 0).length) (by omega)
 rw [q7x,List.length_cons,List.length_append]
 omega
theorem qbb {s:Spec} (h:qq s=true):qah (q13 s) = .ok (s,[]):=by have:=qan h [];rwa [List.append_nil] at this
theorem qhr {l:List Int} (h:sok l=true):qhi (q7x l) = .ok (l,[]):=by have:=qhu h [];rwa [List.append_nil] at this
theorem q6a {s:Spec} (h:qq s=true):q2b (q13 s)=(s,0):=by
 have:=q78 h
 rw [q2b,if_neg (by omega),qbb h];rfl
theorem qc6 {l:List Int} (h:sok l=true):q2t (q7x l)=(l,0):=by
 have:=q9w l
 rw [q2t,if_neg (by omega),qhr h];rfl
def qmf (x y:List UInt8):Prop:=x.length≤y.length∧x=y.take x.length
theorem qjt {x y:List UInt8} (h:qmf x y):∃ z,y=x++z:=⟨y.drop x.length,by
 have:=(List.take_append_drop x.length y).symm
 rwa [← h.2] at this⟩
theorem qhx {s t:Spec} (hs:qq s=true) (ht:qq t=true) (h:qmf (q13 s) (q13 t)):s=t:=by
 obtain ⟨z,e⟩:=qjt h
 have h1:=qan hs z
 rw [← e,qbb ht] at h1
 cases h1
 rfl
def hd (b:List UInt8):Nat:=(b.getD 0 0).toNat * 256+(b.getD 1 0).toNat
structure OOp where
 kind:Int
 spec:Spec
 needs:List Int
 id:Int
 what:Int
 at_:Int
 set:List Int
 deriving DecidableEq
def op0:OOp:=⟨0,q4q,[],0,0,0,[]⟩
theorem tm_iff2 {t:Int}:tm t=true↔0≤t∧t≤4611686018427387904:=by simp [tm]
def q1r (n:Int):Bool:=decide (0≤n)&&decide (n≤1073741824)
def q14 (o:OOp):Bool :=
 if o.kind=1 then qq o.spec&&decide (o.needs.length≤16)&&o.needs.all q1r
 else if o.kind=2∨o.kind=5 then q1r o.id&&q1r o.what
 else if o.kind=3 then tm o.at_
 else if o.kind=4 then tm o.at_&&sok o.set else false
def big:Nat→Nat→List UInt8
 | 0,_=>[]
 | k+1,n=>big k (n / 256)++[UInt8.ofNat n]
def q2n (b:List UInt8):Nat:=b.foldl (fun n c=>n * 256+c.toNat) 0
theorem q1h:∀ k n,(big k n).length=k
 | 0,_=>rfl
 | k+1,n=>by rw [big,List.length_append,q1h k];rfl
theorem q6w (a:List UInt8) (c:UInt8):q2n (a++[c])=q2n a * 256+c.toNat:=by simp [q2n]
theorem q2y:∀ k n,n<256 ^ k→q2n (big k n)=n
 | 0,n,h=>by simp at h;subst h;rfl
 | k+1,n,h=>by
  rw [big,q6w,q2y k (n / 256) (by rw [Nat.pow_succ] at h;omega),UInt8.toNat_ofNat']
  omega
theorem q9i:∀ k (b:List UInt8),b.length=k→q2n b<256 ^ k
 | 0,b,h=>by rw [List.length_eq_zero_iff] at h;subst h;simp [q2n]
 | k+1,b,h=>by
  have hne:b≠[]:=fun e=>by rw [e] at h;simp at h
  rw [← List.dropLast_concat_getLast hne,q6w,Nat.pow_succ]
  have:=q9i k b.dropLast (by rw [List.length_dropLast,h];rfl)
  have:=(b.getLast hne).toNat_lt
  omega
theorem q33:∀ k (b:List UInt8),b.length=k→big k (q2n b)=b
 | 0,b,h=>by rw [List.length_eq_zero_iff] at h;subst h;rfl
 | k+1,b,h=>by
  have hne:b≠[]:=fun e=>by rw [e] at h;simp at h
  have hb:=List.dropLast_concat_getLast hne
  have hlt:=(b.getLast hne).toNat_lt
  conv=>lhs;rw [← hb,q6w]
  rw [big]
  have e1:(q2n b.dropLast * 256+(b.getLast hne).toNat) / 256=q2n b.dropLast:=by omega
  rw [e1,q33 k b.dropLast (by rw [List.length_dropLast,h];rfl)]
  have e2:UInt8.ofNat (q2n b.dropLast * 256+(b.getLast hne).toNat)=b.getLast hne:=by
   apply UInt8.toNat.inj
   rw [UInt8.toNat_ofNat']
   omega
  rw [e2,hb]
def q1g (l:List Int):List UInt8:=l.flatMap fun n=>big 4 n.toNat
theorem q70:∀ l,(q1g l).length=4 * l.length
 | []=>rfl
 | n :: l=>by
  have:=q70 l
  unfold q1g at this ⊢
  rw [List.flatMap_cons,List.length_append,q1h,this,List.length_cons];omega
def q83 (o:OOp):List UInt8 :=
 UInt8.ofNat o.kind.toNat :: (if o.kind=1 then q13 o.spec++(UInt8.ofNat o.needs.length :: q1g o.needs)
  else if o.kind=2∨o.kind=5 then big 4 o.id.toNat++big 4 o.what.toNat
  else if o.kind=3 then big 8 o.at_.toNat else big 8 o.at_.toNat++q7x o.set)
def qat (o:OOp):List UInt8×Int:=if q14 o then (q83 o,0) else ([],1)
def q1c (o:OOp):OOp :=
 if o.kind=1 then ⟨1,o.spec,o.needs,0,0,0,[]⟩
 else if o.kind=2∨o.kind=5 then ⟨o.kind,q4q,[],o.id,o.what,0,[]⟩
 else if o.kind=3 then ⟨3,q4q,[],0,0,o.at_,[]⟩ else ⟨o.kind,q4q,[],0,0,o.at_,o.set⟩
def q4x:Nat→List UInt8→List Int
 | 0,_=>[]
 | m+1,b=>(q2n (b.take 4):Int) :: q4x m (b.drop 4)
theorem q8m:∀ (l:List Int),(∀ n∈l,q1r n=true)→q4x l.length (q1g l)=l
 | [],_=>rfl
 | n :: l,h=>by
  have hn:=h n List.mem_cons_self
  simp only [q1r,Bool.and_eq_true,decide_eq_true_eq] at hn
  have e:q1g (n :: l)=big 4 n.toNat++q1g l:=rfl
  rw [List.length_cons,q4x,e,List.take_append_of_le_length Yd,List.take_of_length_le Yd,q2y 4 _ (by omega)]
  rw [List.drop_append_of_le_length Yd,List.drop_of_length_le Yd,List.nil_append,q8m l fun x hx=>h x (List.mem_cons_of_mem _ hx)]
  rw [Int.toNat_of_nonneg hn.1]
theorem q5y:∀ m b,(q4x m b).length=m
 | 0,_=>rfl
 | m+1,b=>by rw [q4x,List.length_cons,q5y m]
theorem q8q:∀ (m:Nat) (b:List UInt8),b.length=4 * m→q1g (q4x m b)=b
 | 0,b,h=>by rw [Nat.mul_zero,List.length_eq_zero_iff] at h;subst h;rfl
 | m+1,b,h=>by
  rw [q4x]
  show big 4 (q2n (b.take 4):Int).toNat++q1g (q4x m (b.drop 4))=b
  rw [Int.toNat_natCast,q33 4 _ (by rw [List.length_take];omega),q8q m (b.drop 4) Yk,List.take_append_drop]
theorem q7b {b:List UInt8} (h:(q2b b).2=0):qq (q2b b).1=true∧b=q13 (q2b b).1:=by
 unfold q2b at h ⊢
 split at h
 ·simp at h
 rename_i hl
 rw [if_neg hl]
 cases hr:qah b with
 | error e =>
  rw [hr] at h
  have:=qck _ _ hr
  simp only at h
  omega
 | ok x =>
  obtain ⟨s,r⟩:=x
  rw [hr] at h
  simp only at h ⊢
  split at h
  ·rename_i h0
   rw [if_pos h0]
   subst h0
   have:=qgy hr
   rwa [List.append_nil] at this
  ·simp at h
theorem qem {b:List UInt8} (h:(q2t b).2=0):sok (q2t b).1=true∧b=q7x (q2t b).1:=by
 unfold q2t at h ⊢
 split at h
 ·simp at h
 rename_i hl
 rw [if_neg hl]
 cases hr:qhi b with
 | error e =>
  rw [hr] at h
  have:=qim hr
  simp only at h
  omega
 | ok x =>
  obtain ⟨s,r⟩:=x
  rw [hr] at h
  simp only at h ⊢
  split at h
  ·rename_i h0
   rw [if_pos h0]
   subst h0
   have:=qia hr
   rwa [List.append_nil] at this
  ·simp at h
def q9m (b:List UInt8) (m:Nat):Bool:=decide (4 * m+1≤b.length)&&decide ((b.getD (b.length-4 * m-1) 0).toNat=m)&&decide ((q2b (b.take (b.length-4 * m-1))).2=0)
def ql4 (b:List UInt8) (m:Nat):Spec×List Int:=((q2b (b.take (b.length-4 * m-1))).1,q4x m (b.drop (b.length-4 * m)))
def ql2 (b:List UInt8):Nat→Nat→Option (Spec×List Int)
 | 0,_=>none
 | k+1,m=>if q9m b m then some (ql4 b m) else ql2 b k (m+1)
def qm0 (b:List UInt8):Option (Spec×List Int):=ql2 b 17 0
theorem qdl {b:List UInt8} {n:Nat} (hn:q9m b n=true):∀ (k m:Nat),m≤n→n<m+k→(∀ i,m≤i→i<n→q9m b i=false)→ql2 b k m=some (ql4 b n)
 | 0,m,h1,h2,_=>by omega
 | k+1,m,h1,h2,h3=>by
  unfold ql2
  by_cases e:m=n
  ·subst e;rw [if_pos hn]
  ·rw [if_neg (by rw [h3 m (Nat.le_refl _) (by omega)];decide)]
   exact qdl hn k (m+1) (by omega) (by omega) fun i hi hin=>h3 i (by omega) hin
theorem qdr {b:List UInt8} {x:Spec×List Int}:∀ (k m:Nat),ql2 b k m=some x→∃ n,m≤n∧n<m+k∧q9m b n=true∧x=ql4 b n
 | 0,m,h=>by cases h
 | k+1,m,h=>by
  unfold ql2 at h
  split at h
  ·rename_i hs
   cases h
   exact ⟨m,Nat.le_refl _,by omega,hs,rfl⟩
  ·obtain ⟨n,h1,h2,h3,h4⟩:=qdr k (m+1) h
   exact ⟨n,by omega,by omega,h3,h4⟩
theorem qic {s:Spec} {l:List Int} (hs:qq s=true) (hl:l.length≤16) (hn:∀ n∈l,q1r n=true):qm0 (q13 s++(UInt8.ofNat l.length :: q1g l))=some (s,l):=by
 have hlen:(q13 s++(UInt8.ofNat l.length :: q1g l)).length=(q13 s).length+1+4 * l.length:=by
  rw [List.length_append,List.length_cons,q70];omega
 have hat:(q13 s++(UInt8.ofNat l.length :: q1g l)).length-4 * l.length-1=(q13 s).length:=by omega
 have htk:(q13 s++(UInt8.ofNat l.length :: q1g l)).take (q13 s).length=q13 s:=by
  rw [List.take_append_of_le_length (Nat.le_refl _),List.take_length]
 have hyes:q9m (q13 s++(UInt8.ofNat l.length :: q1g l)) l.length=true:=by
  unfold q9m
  rw [hat,htk,q6a hs,List.getD_eq_getElem?_getD,List.getElem?_append_right (Nat.le_refl _),Nat.sub_self,List.getElem?_cons_zero,Option.getD_some,UInt8.toNat_ofNat']
  rw [decide_eq_true (by omega),decide_eq_true (by omega)];rfl
 have hval:ql4 (q13 s++(UInt8.ofNat l.length :: q1g l)) l.length=(s,l):=by
  unfold ql4
  rw [hat,htk,q6a hs]
  have hd:(q13 s++(UInt8.ofNat l.length :: q1g l)).drop ((q13 s++(UInt8.ofNat l.length :: q1g l)).length-4 * l.length)=q1g l:=by
   rw [show (q13 s++(UInt8.ofNat l.length :: q1g l)).length-4 * l.length=(q13 s).length+1 by omega]
   rw [← List.drop_drop,List.drop_append_of_le_length (Nat.le_refl _),List.drop_length]
   simp
  rw [hd,q8m l hn]
 unfold qm0
 rw [qdl hyes 17 0 (Nat.zero_le _) (by omega),hval]
 intro i _ hi
 cases e:q9m (q13 s++(UInt8.ofNat l.length :: q1g l)) i with
 | false=>rfl
 | true =>
  exfalso
  simp only [q9m,Bool.and_eq_true,decide_eq_true_eq] at e
  obtain ⟨⟨e1,e2⟩,e3⟩:=e
  obtain ⟨k1,k2⟩:=q7b e3
  generalize (q2b _).1=s' at k1 k2
  have hl2:=congrArg List.length k2
  rw [List.length_take,hlen] at hl2
  have hpre:qmf (q13 s) (q13 s'):=by
   refine ⟨by omega,?_⟩
   rw [← k2,List.take_take,Nat.min_eq_left (by omega),htk]
  have:=qhx hs k1 hpre
  subst this
  omega
theorem qi6 {b:List UInt8} {s:Spec} {l:List Int} (h:qm0 b=some (s,l)):qq s=true∧l.length≤16∧b=q13 s++(UInt8.ofNat l.length :: q1g l):=by
 obtain ⟨n,_,h2,h3,h4⟩:=qdr 17 0 h
 simp only [q9m,Bool.and_eq_true,decide_eq_true_eq] at h3
 obtain ⟨⟨e1,e2⟩,e3⟩:=h3
 obtain ⟨k1,k2⟩:=q7b e3
 unfold ql4 at h4
 cases h4
 refine ⟨k1,by rw [q5y];omega,?_⟩
 rw [q5y,← k2,q8q n _ Yk]
 have hx:b.length-4 * n-1<b.length:=by omega
 have hg:b[b.length-4 * n-1]?=some b[b.length-4 * n-1]:=List.getElem?_eq_getElem hx
 have hv:UInt8.ofNat n=b[b.length-4 * n-1]:=by
  rw [List.getD_eq_getElem?_getD,hg,Option.getD_some] at e2
  apply UInt8.toNat.inj
  rw [UInt8.toNat_ofNat',e2];omega
 rw [hv]
 conv=>lhs;rw [← List.take_append_drop (b.length-4 * n-1) b]
 congr 1
 rw [List.drop_eq_getElem_cons hx]
 congr 2
 omega
def qj7 (o:OOp):OOp×Int:=if q14 o then (o,0) else (op0,3)
def qdm (b:List UInt8):OOp×Int :=
 if b.length=0 then (op0,3)
 else if (b.getD 0 0).toNat=1 then (match qm0 (b.drop 1) with
  | none=>(op0,3)
  | some x=>qj7 ⟨1,x.1,x.2,0,0,0,[]⟩)
 else if (b.getD 0 0).toNat=2∨(b.getD 0 0).toNat=5 then (if b.length≠9 then (op0,3) else qj7 ⟨((b.getD 0 0).toNat:Int),q4q,[],(q2n ((b.drop 1).take 4):Int),(q2n (b.drop 5):Int),0,[]⟩)
 else if (b.getD 0 0).toNat=3 then (if b.length≠9 then (op0,3) else qj7 ⟨3,q4q,[],0,0,IntKind.i64.wrap (q2n (b.drop 1):Int),[]⟩)
 else if (b.getD 0 0).toNat=4 then (if b.length<9∨(q2t (b.drop 9)).2≠0 then (op0,3) else qj7 ⟨4,q4q,[],0,0,IntKind.i64.wrap (q2n ((b.drop 1).take 8):Int),(q2t (b.drop 9)).1⟩)
 else (op0,3)
theorem qeo {o:OOp} (h:q14 o=true):qdm (q83 o)=(q1c o,0):=by
 have hch:∀ q:OOp,q14 q=true→qj7 q=(q,0):=fun q hq=>by rw [qj7,if_pos hq]
 have hm:=h
 unfold q14 at hm
 unfold qdm q83 q1c
 by_cases k1:o.kind=1
 ·rw [if_pos k1] at hm
  simp only [Bool.and_eq_true,decide_eq_true_eq,List.all_eq_true] at hm
  simp only [k1,if_true]
  rw [if_neg (by simp),List.getD_cons_zero,show (UInt8.ofNat (1:Int).toNat).toNat=1 from rfl,if_pos rfl,List.drop_succ_cons,List.drop_zero,qic hm.1.1 hm.1.2 hm.2]
  simp only
  exact hch _ (by unfold q14;simp only [if_true];rw [hm.1.1,decide_eq_true hm.1.2,List.all_eq_true.2 hm.2];rfl)
 ·rw [if_neg k1] at hm
  by_cases k2:o.kind=2∨o.kind=5
  ·rw [if_pos k2,Bool.and_eq_true] at hm
   have hid:=hm.1
   have hwh:=hm.2
   simp only [q1r,Bool.and_eq_true,decide_eq_true_eq] at hid hwh
   simp only [if_neg k1,if_pos k2]
   have hkk:(UInt8.ofNat o.kind.toNat).toNat=o.kind.toNat:=by rw [UInt8.toNat_ofNat'];rcases k2 with e | e<;>rw [e]<;>rfl
   have hki:((o.kind.toNat:Nat):Int)=o.kind:=by rcases k2 with e | e<;>rw [e]<;>rfl
   have hkn:o.kind.toNat≠1:=by omega
   have hk25:o.kind.toNat=2∨o.kind.toNat=5:=by omega
   have hlen:(UInt8.ofNat o.kind.toNat :: (big 4 o.id.toNat++big 4 o.what.toNat)).length=9:=by simp [q1h]
   rw [List.getD_cons_zero,hkk,if_neg (by rw [hlen];decide),if_neg hkn,if_pos hk25,if_neg (by rw [hlen];decide),List.drop_succ_cons,List.drop_zero]
   rw [List.take_append_of_le_length Yd,List.take_of_length_le Yd,q2y 4 _ (by omega)]
   rw [show (UInt8.ofNat o.kind.toNat :: (big 4 o.id.toNat++big 4 o.what.toNat)).drop 5=big 4 o.what.toNat by
    rw [List.drop_succ_cons,List.drop_append_of_le_length Yd,List.drop_of_length_le Yd,List.nil_append]]
   rw [q2y 4 _ (by omega),Int.toNat_of_nonneg hid.1,Int.toNat_of_nonneg hwh.1,hki]
   exact hch _ (by unfold q14;simp only;rw [if_neg k1,if_pos k2];rw [Bool.and_eq_true];exact hm)
  ·rw [if_neg k2] at hm
   by_cases k3:o.kind=3
   ·rw [if_pos k3] at hm
    have ht:=tm_iff2.1 hm
    simp only [if_neg k1,if_neg k2,if_pos k3]
    have hlen:(UInt8.ofNat o.kind.toNat :: big 8 o.at_.toNat).length=9:=by simp [q1h]
    rw [List.getD_cons_zero,k3,show (UInt8.ofNat (3:Int).toNat).toNat=3 from rfl,if_neg (by simp),if_neg (by decide),if_neg (by decide),if_pos rfl,if_neg (by simp [q1h]),List.drop_succ_cons,List.drop_zero,q2y 8 _ (by omega),Int.toNat_of_nonneg ht.1]
    rw [show IntKind.i64.wrap o.at_=o.at_ by rw [IntKind.wrap_i64];omega]
    exact hch _ (by unfold q14;simp only;rw [if_neg (by decide),if_neg (by decide),if_pos (by trivial)];exact hm)
   ·rw [if_neg k3] at hm
    by_cases k4:o.kind=4
    ·rw [if_pos k4,Bool.and_eq_true] at hm
     have ht:=tm_iff2.1 hm.1
     simp only [if_neg k1,if_neg k2,if_neg k3]
     rw [List.getD_cons_zero,k4,show (UInt8.ofNat (4:Int).toNat).toNat=4 from rfl,if_neg (by simp),if_neg (by decide),if_neg (by decide),if_neg (by decide),if_pos rfl]
     have hd9:(UInt8.ofNat (4:Int).toNat :: (big 8 o.at_.toNat++q7x o.set)).drop 9=q7x o.set:=by
      rw [List.drop_succ_cons,List.drop_append_of_le_length Yd,List.drop_of_length_le Yd,List.nil_append]
     rw [hd9,qc6 hm.2,if_neg (by simp [q1h]),List.drop_succ_cons,List.drop_zero]
     rw [List.take_append_of_le_length Yd,List.take_of_length_le Yd,q2y 8 _ (by omega),Int.toNat_of_nonneg ht.1]
     rw [show IntKind.i64.wrap o.at_=o.at_ by rw [IntKind.wrap_i64];omega]
     exact hch _ (by unfold q14;simp only;rw [if_neg (by decide),if_neg (by decide),if_neg (by decide),if_pos (by trivial),hm.1,hm.2];rfl)
    ·rw [if_neg k4] at hm;cases hm
theorem q6u {q o:OOp} (h:qj7 q=(o,0)):q14 o=true∧q=o:=by
 unfold qj7 at h
 split at h
 ·rename_i hq
  have:=congrArg Prod.fst h
  simp only at this
  subst this
  exact ⟨hq,rfl⟩
 ·simp at h
theorem q9c {b:List UInt8} {k:Nat} (hl:b.length≠0) (h:(b.getD 0 0).toNat=k):b=UInt8.ofNat k :: b.drop 1:=by
 cases b with
 | nil=>exact absurd rfl hl
 | cons c r =>
  simp only [List.getD_cons_zero] at h
  rw [← h,List.drop_succ_cons,List.drop_zero]
  congr 1
  apply UInt8.toNat.inj
  rw [UInt8.toNat_ofNat']
  have:=c.toNat_lt
  omega
theorem qf4 {b:List UInt8} {o:OOp} (h:qdm b=(o,0)):q14 o=true∧q83 o=b∧q1c o=o:=by
 have hne:(op0,(3:Int))≠(o,0):=fun e=>by simp at e
 unfold qdm at h
 by_cases hl:b.length=0
 ·rw [if_pos hl] at h;exact absurd h hne
 rw [if_neg hl] at h
 by_cases c1:(b.getD 0 0).toNat=1
 ·rw [if_pos c1] at h
  have hb:=q9c hl c1
  cases hr:qm0 (b.drop 1) with
  | none=>rw [hr] at h;exact absurd h hne
  | some x =>
   rw [hr] at h
   obtain ⟨hm,he⟩:=q6u h
   obtain ⟨s,l⟩:=x
   obtain ⟨_,_,hx⟩:=qi6 hr
   subst he
   refine ⟨hm,?_,rfl⟩
   rw [hb,hx];rfl
 rw [if_neg c1] at h
 by_cases c2:(b.getD 0 0).toNat=2∨(b.getD 0 0).toNat=5
 ·rw [if_pos c2] at h
  by_cases hl9:b.length=9
  ·rw [if_neg (fun e=>e hl9)] at h
   obtain ⟨hm,he⟩:=q6u h
   subst he
   have hb:=q9c hl rfl
   generalize hk:(b.getD 0 0).toNat=k at *
   have e4:big 4 (q2n ((b.drop 1).take 4))=(b.drop 1).take 4:=q33 4 _ Y8
   have e5:big 4 (q2n (b.drop 5))=b.drop 5:=q33 4 _ Yk
   refine ⟨hm,?_,?_⟩
   ·unfold q83
    simp only [Int.toNat_natCast]
    rw [if_neg (by omega),if_pos (by omega),e4,e5]
    rw [show b.drop 5=(b.drop 1).drop 4 by rw [List.drop_drop],List.take_append_drop]
    exact hb.symm
   ·unfold q1c
    simp only
    rw [if_neg (by omega),if_pos (by omega)]
  ·rw [if_pos hl9] at h;exact absurd h hne
 rw [if_neg c2] at h
 by_cases c3:(b.getD 0 0).toNat=3
 ·rw [if_pos c3] at h
  by_cases hl9:b.length=9
  ·rw [if_neg (fun e=>e hl9)] at h
   obtain ⟨hm,he⟩:=q6u h
   subst he
   have hb:=q9c hl c3
   have hm2:=hm
   unfold q14 at hm2
   simp only at hm2
   rw [if_neg (by decide),if_neg (by decide),if_pos (by trivial)] at hm2
   have ht:=(tm_iff2.1 hm2).1
   have hlt:=q9i 8 (b.drop 1) Yk
   have hw:IntKind.i64.wrap (q2n (b.drop 1):Int)=(q2n (b.drop 1):Int):=by
    rw [IntKind.wrap_i64] at ht ⊢;omega
   refine ⟨hm,?_,rfl⟩
   unfold q83
   simp only
   rw [if_neg (by decide),if_neg (by decide),if_pos (by trivial),hw,Int.toNat_natCast,q33 8 _ Yk]
   exact hb.symm
  ·rw [if_pos hl9] at h;exact absurd h hne
 rw [if_neg c3] at h
 by_cases c4:(b.getD 0 0).toNat=4
 ·rw [if_pos c4] at h
  by_cases hg:b.length<9∨(q2t (b.drop 9)).2≠0
  ·rw [if_pos hg] at h;exact absurd h hne
  ·rw [if_neg hg] at h
   obtain ⟨hm,he⟩:=q6u h
   subst he
   have hb:=q9c hl c4
   have hz:(q2t (b.drop 9)).2=0:=Classical.byContradiction fun e=>hg (.inr e)
   have hlen:¬ b.length<9:=fun e=>hg (.inl e)
   obtain ⟨_,hs⟩:=qem hz
   have hm2:=hm
   unfold q14 at hm2
   simp only at hm2
   rw [if_neg (by decide),if_neg (by decide),if_neg (by decide),if_pos (by trivial),Bool.and_eq_true] at hm2
   have ht:=(tm_iff2.1 hm2.1).1
   have hlt:=q9i 8 ((b.drop 1).take 8) Y8
   have hw:IntKind.i64.wrap (q2n ((b.drop 1).take 8):Int)=(q2n ((b.drop 1).take 8):Int):=by
    rw [IntKind.wrap_i64] at ht ⊢;omega
   refine ⟨hm,?_,rfl⟩
   unfold q83
   simp only
   rw [if_neg (by decide),if_neg (by decide),if_neg (by decide),hw,Int.toNat_natCast,q33 8 _ Y8,← hs]
   rw [show b.drop 9=(b.drop 1).drop 8 by rw [List.drop_drop],List.take_append_drop]
   exact hb.symm
 ·rw [if_neg c4] at h;exact absurd h hne
theorem q4r (u:Nat):Lib.decDigits u=if u<10 then [UInt8.ofNat (48+u)] else Lib.decDigits (u / 10)++[UInt8.ofNat (48+u % 10)]:=by
 rw [Lib.decDigits];split<;>rfl
theorem q4s {d:Nat} (h:d<10):(UInt8.ofNat (48+d)).toNat=48+d:=by rw [UInt8.toNat_ofNat'];omega
theorem q5n (u:Nat):∀ c∈Lib.decDigits u,48≤c.toNat∧c.toNat≤57:=by
 induction u using Nat.strongRecOn with
 | _ u ih =>
  intro c hc
  rw [q4r] at hc
  split at hc
  ·rename_i h
   rw [List.mem_singleton] at hc
   rw [hc,q4s h];omega
  ·rename_i h
   rcases List.mem_append.1 hc with hc | hc
   ·exact ih (u / 10) (by omega) c hc
   ·rw [List.mem_singleton] at hc
    rw [hc,q4s (by omega)];omega
theorem q7a (u:Nat):Lib.decDigits u≠[]:=by
 rw [q4r];split<;>simp
theorem qfo (u:Nat):∀ r,Lib.decDigits u=48 :: r→r=[]:=by
 induction u using Nat.strongRecOn with
 | _ u ih =>
  intro r hr
  rw [q4r] at hr
  split at hr
  ·simp only [List.cons.injEq] at hr;exact hr.2.symm
  ·rename_i h
   cases hq:Lib.decDigits (u / 10) with
   | nil=>exact absurd hq (q7a _)
   | cons c t =>
    rw [hq] at hr
    simp only [List.cons_append,List.cons.injEq] at hr
    obtain ⟨e1,e2⟩:=hr
    subst e1
    have ht:=ih (u / 10) (by omega) t hq
    subst ht
    exfalso
    rw [q4r] at hq
    split at hq
    ·rename_i h10
     simp only [List.cons.injEq,and_true] at hq
     have:=congrArg UInt8.toNat hq
     rw [q4s h10] at this
     have h48:(48:UInt8).toNat=48:=rfl
     omega
    ·have:=congrArg List.length hq
     have hp:=q7a (u / 10 / 10)
     rw [List.length_append] at this
     simp only [List.length_cons,List.length_nil] at this
     have:(Lib.decDigits (u / 10 / 10)).length=0:=by omega
     exact hp (List.length_eq_zero_iff.1 this)
theorem qlo (u:Nat):∀ t,u<18446744073709551616→Lib.parseUint10 0 (Lib.decDigits u++t)=Lib.parseUint10 u t:=by
 induction u using Nat.strongRecOn with
 | _ u ih =>
  intro t hu
  rw [q4r]
  split
  ·rename_i h
   rw [List.singleton_append,Lib.parseUint10,q4s h,if_pos (by omega),if_neg (by omega),if_neg (by omega)]
   congr 1;omega
  ·rename_i h
   rw [List.append_assoc,ih (u / 10) (by omega) _ (by omega),List.singleton_append,Lib.parseUint10,q4s (by omega),if_pos (by omega),if_neg (by omega),if_neg (by omega)]
   congr 1;omega
theorem qm3 (M u:Nat) (hM:M<18446744073709551616):∀ t,u≤M→Lib.parseUintM M 0 (Lib.decDigits u++t)=Lib.parseUintM M u t:=by
 induction u using Nat.strongRecOn with
 | _ u ih =>
  intro t hu
  rw [q4r]
  split
  ·rename_i h
   rw [List.singleton_append,Lib.parseUintM,q4s h,if_pos (by omega),if_neg (by omega),if_neg (by omega)]
   congr 1;omega
  ·rename_i h
   rw [List.append_assoc,ih (u / 10) (by omega) _ (by omega),List.singleton_append,Lib.parseUintM,q4s (by omega),if_pos (by omega),if_neg (by omega),if_neg (by omega)]
   congr 1;omega
theorem qfn (n:Int):Lib.itoa n≠[]:=by
 unfold Lib.itoa
 split
 ·simp
 ·exact q7a _
theorem q5t (n:Int):∀ c∈Lib.itoa n,c.toNat=45∨(48≤c.toNat∧c.toNat≤57):=by
 unfold Lib.itoa
 split
 ·intro c hc
  rcases List.mem_cons.1 hc with rfl | hc
  ·exact .inl rfl
  ·exact .inr (q5n _ c hc)
 ·exact fun c hc=>.inr (q5n _ c hc)
theorem qg9 {n:Int} (h0:-9223372036854775808≤n) (h1:n≤9223372036854775807):Lib.atoiAll (Lib.itoa n) = .ok n:=by
 unfold Lib.itoa
 split
 ·rename_i hn
  have hp:Lib.parseMag (Lib.decDigits n.natAbs) = .ok n.natAbs:=by
   rw [Lib.parseMag,if_neg (q7a _)]
   have:=qlo n.natAbs [] (by omega)
   rwa [List.append_nil] at this
  have h45:(45:UInt8).toNat=45:=rfl
  rw [Lib.atoiAll]
  simp only [h45,or_true,if_true,hp,not_true_eq_false,false_and,if_false,true_and]
  rw [if_neg (by omega)]
  congr 1;omega
 ·rename_i hn
  have hp:Lib.parseMag (Lib.decDigits n.toNat) = .ok n.toNat:=by
   rw [Lib.parseMag,if_neg (q7a _)]
   have:=qlo n.toNat [] (by omega)
   rwa [List.append_nil] at this
  have hd:=q5n n.toNat
  cases hq:Lib.decDigits n.toNat with
  | nil=>exact absurd hq (q7a _)
  | cons c r =>
   rw [hq] at hp hd
   obtain ⟨hc0,hc1⟩:=hd c List.mem_cons_self
   rw [Lib.atoiAll]
   have e1:¬ (c.toNat=43∨c.toNat=45):=fun e=>by rcases e with e | e<;>(rw [e] at hc0;exact absurd hc0 (by decide))
   have e2:¬ c.toNat=45:=fun e=>by rw [e] at hc0;exact absurd hc0 (by decide)
   have e3:¬ c.toNat=43:=fun e=>e1 (.inl e)
   simp only [e2,e3,or_self,if_false,hp,not_false_eq_true,true_and,false_and]
   rw [if_neg (by omega)]
   congr 1;omega
theorem qg0 {n:Int} (h0:-9223372036854775808≤n) (h1:n≤9223372036854775807):Lib.parseIntB 64 (Lib.itoa n) = .ok n:=by
 unfold Lib.itoa
 split
 ·rename_i hn
  have hp:Lib.parseUintB 64 (Lib.decDigits n.natAbs) = .ok n.natAbs:=by
   rw [Lib.parseUintB,if_neg (q7a _)]
   have:=qm3 (2 ^ 64-1) n.natAbs (by decide) [] (by omega)
   rwa [List.append_nil] at this
  have h45:(45:UInt8).toNat=45:=rfl
  rw [Lib.parseIntB]
  simp only [h45,or_true,if_true,hp,not_true_eq_false,false_and,if_false,true_and]
  rw [if_neg (by omega)]
  congr 1;omega
 ·rename_i hn
  have hp:Lib.parseUintB 64 (Lib.decDigits n.toNat) = .ok n.toNat:=by
   rw [Lib.parseUintB,if_neg (q7a _)]
   have:=qm3 (2 ^ 64-1) n.toNat (by decide) [] (by omega)
   rwa [List.append_nil] at this
  have hd:=q5n n.toNat
  cases hq:Lib.decDigits n.toNat with
  | nil=>exact absurd hq (q7a _)
  | cons c r =>
   rw [hq] at hp hd
   obtain ⟨hc0,hc1⟩:=hd c List.mem_cons_self
   rw [Lib.parseIntB]
   have e1:¬ (c.toNat=43∨c.toNat=45):=fun e=>by rcases e with e | e<;>(rw [e] at hc0;exact absurd hc0 (by decide))
   have e2:¬ c.toNat=45:=fun e=>by rw [e] at hc0;exact absurd hc0 (by decide)
   have e3:¬ c.toNat=43:=fun e=>e1 (.inl e)
   simp only [e2,e3,or_self,if_false,hp,not_false_eq_true,true_and,false_and]
   rw [if_neg (by omega)]
   congr 1;omega
def atV (s:List UInt8):Int:=match Lib.atoiAll s with | .ok v=>v | .syntax=>0 | .range=>Lib.atoiSat s
def piV (s:List UInt8):Int:=match Lib.parseIntB 64 s with | .ok v=>v | .syntax=>0 | .range=>Lib.intSat 64 s
theorem q2p {n:Int} (h0:-9223372036854775808≤n) (h1:n≤9223372036854775807):atV (Lib.itoa n)=n:=by rw [atV,qg9 h0 h1]
theorem q95 {n:Int} (h0:-9223372036854775808≤n) (h1:n≤9223372036854775807):piV (Lib.itoa n)=n:=by rw [piV,qg0 h0 h1]
def q9 (c:UInt8):List UInt8→List (List UInt8)
 | []=>[[]]
 | x :: r=>if x=c then [] :: q9 c r else match q9 c r with
  | []=>[[x]]
  | w :: ws=>(x :: w) :: ws
theorem q3t (c:UInt8):∀ s,q9 c s≠[]
 | []=>by simp [q9]
 | x :: r=>by
  unfold q9
  split
  ·simp
  ·split<;>simp
theorem q3y {c:UInt8}:∀ (x:List UInt8),c∉x→q9 c x=[x]
 | [],_=>rfl
 | y :: x,h=>by
  rw [List.mem_cons] at h
  unfold q9
  rw [if_neg fun e=>h (.inl e.symm),q3y x fun e=>h (.inr e)]
theorem q11 {c:UInt8}:∀ (x t:List UInt8),c∉x→q9 c (x++c :: t)=x :: q9 c t
 | [],t,_=>by
  rw [List.nil_append]
  conv=>lhs;unfold q9
  rw [if_pos rfl]
 | y :: x,t,h=>by
  rw [List.mem_cons] at h
  rw [List.cons_append]
  conv=>lhs;unfold q9
  rw [if_neg fun e=>h (.inl e.symm),q11 x t fun e=>h (.inr e)]
theorem qu {c:UInt8} (x y:List UInt8) (t:List (List UInt8)):Lib.join (x :: y :: t) [c]=x++c :: Lib.join (y :: t) [c]:=by
 simp [Lib.join,List.intercalate,List.intersperse]
theorem q16 {c:UInt8} (x:List UInt8):Lib.join [x] [c]=x:=by simp [Lib.join,List.intercalate]
theorem q4u {c:UInt8}:∀ (xs:List (List UInt8)),xs≠[]→(∀ x∈xs,c∉x)→q9 c (Lib.join xs [c])=xs
 | [],h,_=>absurd rfl h
 | [x],_,h=>by rw [q16,q3y x (h x List.mem_cons_self)]
 | x :: y :: t,_,h=>by
  rw [qu,q11 _ _ (h x List.mem_cons_self),q4u (y :: t) (by simp) fun z hz=>h z (List.mem_cons_of_mem _ hz)]
theorem q5z (c:UInt8):∀ s,(q9 c s).length=List.count c s+1
 | []=>by simp [q9]
 | x :: r=>by
  have ih:=q5z c r
  unfold q9
  split
  ·rename_i e
   rw [List.length_cons,ih,e,List.count_cons_self]
  ·rename_i e
   rw [List.count_cons_of_ne fun h=>e h]
   cases hs:q9 c r with
   | nil=>exact absurd hs (q3t c r)
   | cons w ws =>
    rw [hs] at ih
    exact ih
def kwSubmit:List UInt8:=[115,117,98,109,105,116]
def kwDo:List UInt8:=[100,111]
def kwTick:List UInt8:=[116,105,99,107]
def kwLend:List UInt8:=[108,101,110,100]
def kwMark:List UInt8:=[109,97,114,107]
def q53:List UInt8:=[112,97,114,116]
def q26:List UInt8:=[119,104,111,108,101]
def jobsT:List (List UInt8):=[[104,111,108,100],[102,114,101,101],[115,116,97,114,116],[101,110,100],[111,118,101,114],[99,97,110,99,101,108],[114,101,102,117,115,101]]
def healthT:List (List UInt8):=[[102,105,110,101],[100,114,97,105,110],[100,111,119,110]]
def q1u (s:List UInt8):List UInt8:=if s=[] then [45] else s
def q27 (n first:Int) (names:List (List UInt8)):List UInt8 :=
 if first≤n∧n<first+names.length then names.getD (n-first).toNat [] else Lib.itoa n
def q1z (l:List Int):List UInt8:=q1u (Lib.join (l.map Lib.itoa) [44])
def q15 (o:OOp):List (List UInt8) :=
 if o.kind=1 then [kwSubmit,Lib.itoa o.spec.nodes,Lib.itoa o.spec.cores,Lib.itoa o.spec.gpus,q1u o.spec.tag.data.toList,if o.spec.whole then q26 else q53,Lib.itoa o.spec.long,Lib.itoa o.spec.prio,q1z o.needs]
 else if o.kind=2 then [kwDo,Lib.itoa o.id,q27 o.what 1 jobsT]
 else if o.kind=3 then [kwTick,Lib.itoa o.at_]
 else if o.kind=4 then [kwLend,Lib.itoa o.at_,q1u (q2m o.set)]
 else if o.kind=5 then [kwMark,Lib.itoa o.id,q27 o.what 0 healthT] else []
def qd (o:OOp):List UInt8:=Lib.join (q15 o) [32]
def q2o (o:OOp):List UInt8×Int:=if q14 o then (qd o,0) else ([],1)
def atR (r:List (List UInt8)) (i:Nat):List UInt8:=r.getD i []
def q4h (s:List UInt8) (first:Int) (names:List (List UInt8)):Int :=
 if s∈names then (names.idxOf s:Int)+first else atV s
def q34 (s:List UInt8):List UInt8:=if s.head?=some 45 then s.tail else s
def qag (s:List UInt8):List Int:=if s=[45] then [] else (q9 44 s).map atV
def q1s (r:List (List UInt8)):OOp×Bool :=
 if atR r 0=kwSubmit then (⟨1,⟨atV (atR r 1),atV (atR r 2),atV (atR r 3),⟨(q34 (atR r 4)).toArray⟩,decide (atR r 5=q26),piV (atR r 6),atV (atR r 7)⟩,qag (atR r 8),0,0,0,[]⟩,true)
 else if atR r 0=kwDo then (⟨2,q4q,[],atV (atR r 1),q4h (atR r 2) 1 jobsT,0,[]⟩,true)
 else if atR r 0=kwTick then (⟨3,q4q,[],0,0,piV (atR r 1),[]⟩,true)
 else if atR r 0=kwLend then (⟨4,q4q,[],0,0,piV (atR r 1),(q3q (q34 (atR r 2))).1⟩,true)
 else if atR r 0=kwMark then (⟨5,q4q,[],atV (atR r 1),q4h (atR r 2) 0 healthT,0,[]⟩,true)
 else (op0,false)
def ql (line:List UInt8):OOp×Int :=
 if 2048<line.length then (op0,4)
 else if (q1s (q9 32 line)).2=false then (op0,10)
 else if q14 (q1s (q9 32 line)).1=true∧qd (q1s (q9 32 line)).1=line then ((q1s (q9 32 line)).1,0)
 else (op0,3)
theorem qmr {l:List UInt8} {c:UInt8} (h:∀ x∈l,x.toNat=45∨(48≤x.toNat∧x.toNat≤57)) (hc:c.toNat<45):c∉l:=fun e=>by
 have:=h c e;omega
theorem qkv (n:Int) {c:UInt8} (hc:c.toNat<45):c∉Lib.itoa n:=qmr (q5t n) hc
theorem q8l {n first:Int} {names:List (List UInt8)} (hn:names.Nodup) (h0:0≤n) (h1:n≤9223372036854775807) (hl:∀ w∈names,57<(w.getD 0 0).toNat):q4h (q27 n first names) first names=n:=by
 unfold q27
 split
 ·rename_i h
  have hk:(n-first).toNat<names.length:=by omega
  have hg:names.getD (n-first).toNat []=names[(n-first).toNat]:=by rw [List.getD_eq_getElem?_getD,List.getElem?_eq_getElem hk];rfl
  rw [hg,q4h,if_pos (List.getElem_mem hk)]
  have:names.idxOf names[(n-first).toNat]=(n-first).toNat:=hn.idxOf_getElem _ hk
  rw [this];omega
 ·rw [q4h,if_neg,q2p (by omega) h1]
  intro e
  cases hq:Lib.itoa n with
  | nil=>exact qfn n hq
  | cons c r =>
   have h2:=q5t n c (by rw [hq];exact List.mem_cons_self)
   have h3:=hl _ e
   rw [hq,List.getD_cons_zero] at h3
   omega
theorem qgw {n:Int} (h0:0≤n) (h1:n≤9223372036854775807):q4h (q27 n 1 jobsT) 1 jobsT=n :=
 q8l (by decide) h0 h1 Ys
theorem qce {n:Int} (h0:0≤n) (h1:n≤9223372036854775807):q4h (q27 n 0 healthT) 0 healthT=n :=
 q8l (by decide) h0 h1 Ys
theorem q92 {s:List UInt8} (h:s.head?≠some 45):q34 (q1u s)=s:=by
 unfold q1u
 split
 ·rename_i e;rw [e];rfl
 ·rw [q34,if_neg h]
theorem qbq:∀ {l:List Int},(∀ n∈l,q1r n=true)→(l.map Lib.itoa).map atV=l
 | [],_=>rfl
 | n :: l,h=>by
  have hn:=h n List.mem_cons_self
  simp only [q1r,Bool.and_eq_true,decide_eq_true_eq] at hn
  rw [List.map_cons,List.map_cons,qbq fun x hx=>h x (List.mem_cons_of_mem _ hx),q2p (by omega) (by omega)]
theorem qkl {c:UInt8} {xs:List (List UInt8)} (h:xs≠[]) (hx:∀ x∈xs,x≠[]):Lib.join xs [c]≠[]:=by
 match xs with
 | []=>exact absurd rfl h
 | [x]=>rw [q16];exact hx x List.mem_cons_self
 | x :: y :: t=>rw [qu];simp
theorem qbr {l:List Int} (h:∀ n∈l,q1r n=true):qag (q1z l)=l:=by
 cases l with
 | nil=>rfl
 | cons n l =>
  have hj:Lib.join ((n :: l).map Lib.itoa) [44]≠[]:=qkl (by simp) fun x hx=>by
   obtain ⟨m,_,rfl⟩:=List.mem_map.1 hx
   exact qfn m
  have hs:q9 44 (Lib.join ((n :: l).map Lib.itoa) [44])=(n :: l).map Lib.itoa  :=q4u _ (by simp) fun x hx=>by
   obtain ⟨m,_,rfl⟩:=List.mem_map.1 hx
   exact qkv m (by decide)
  rw [q1z,q1u,if_neg hj,qag,if_neg,hs,qbq h]
  intro e
  have h1:=qbq h
  rw [← hs,e] at h1
  have h2:n=0∧l=[]:=by
   have:(q9 44 [45]).map atV=[0]:=by decide +kernel
   rw [this] at h1
   simp only [List.cons.injEq] at h1
   exact ⟨h1.1.symm,h1.2.symm⟩
  obtain ⟨rfl,rfl⟩:=h2
  revert e
  decide +kernel
theorem qb1 {t:ByteArray} (h:q5e t=true):∀ c∈t.data.toList,48≤c.toNat:=by
 simp only [q5e,Bool.and_eq_true,List.all_eq_true] at h
 intro c hc
 have:=h.2 c hc
 simp only [qbj,q87,Bool.or_eq_true,Bool.and_eq_true,decide_eq_true_eq] at this
 omega
theorem qcq {l:List Int} (h:sok l=true):∀ c∈q2m l,44≤c.toNat:=by
 rw [q22 h]
 have hr:=q4p (q6x h)
 generalize q18 l=rs at hr
 unfold q29
 intro c hc
 have hd:∀ {n:Int},∀ c∈dec n,44≤c.toNat:=fun c hc=>by have:=q5n _ c hc;omega
 have:∀ rs:List (Int×Int),∀ c∈Lib.join (rs.map qy) [44],44≤c.toNat:=by
  intro rs
  induction rs with
  | nil=>intro c hc;simp [Lib.join,List.intercalate] at hc
  | cons r rs ih =>
   have h1:∀ c∈qy r,44≤c.toNat:=by
    intro c hc
    unfold qy at hc
    split at hc
    ·rcases List.mem_append.1 hc with hc | hc
     ·exact hd c hc
     ·rcases List.mem_cons.1 hc with rfl | hc
      ·decide
      ·exact hd c hc
    ·exact hd c hc
   cases rs with
   | nil=>rw [List.map_cons,List.map_nil,q16];exact h1
   | cons r2 rs =>
    rw [List.map_cons,List.map_cons,qu]
    intro c hc
    rcases List.mem_append.1 hc with hc | hc
    ·exact h1 c hc
    ·rcases List.mem_cons.1 hc with rfl | hc
     ·decide
     ·exact ih c hc
 exact this rs c hc
theorem qeu {l:List Int} (h:sok l=true):(q2m l).head?≠some 45:=by
 rw [q22 h]
 have hr:=q4p (q6x h)
 cases hq:q18 l with
 | nil=>rw [q29,List.map_nil,q6l];simp
 | cons r rs =>
  rw [hq] at hr
  have h0:=hr r List.mem_cons_self
  have h1:∀ t,(qy r++t).head?≠some 45:=by
   intro t e
   have hdd:=q5n r.1.toNat
   cases hd:Lib.decDigits r.1.toNat with
   | nil=>exact q7a _ hd
   | cons c u =>
    have hc:=hdd c (by rw [hd];exact List.mem_cons_self)
    unfold qy dec at e
    rw [hd] at e
    have:c=45:=by split at e<;>simpa using e
    subst this
    exact absurd hc.1 (by decide)
  cases rs with
  | nil=>rw [q8e];have:=h1 [];rwa [List.append_nil] at this
  | cons r2 rs=>rw [q7u (by simp)];exact h1 _
theorem qeg {o:OOp} (h:q14 o=true):q1s (q15 o)=(q1c o,true):=by
 have hm:=h
 unfold q14 at hm
 unfold q1s q15 q1c
 by_cases k1:o.kind=1
 ·rw [if_pos k1] at hm
  simp only [Bool.and_eq_true,decide_eq_true_eq,List.all_eq_true] at hm
  obtain ⟨⟨hs,hl⟩,hn⟩:=hm
  have hf:=q1l hs
  have ht:q5e o.spec.tag=true:=by simp only [qq,Bool.and_eq_true] at hs;exact hs.1.1.2
  have hth:o.spec.tag.data.toList.head?≠some 45:=by
   intro e
   cases hq:o.spec.tag.data.toList with
   | nil=>rw [hq] at e;simp at e
   | cons c r =>
    rw [hq] at e
    simp only [List.head?_cons,Option.some.injEq] at e
    have:=qb1 ht c (by rw [hq];exact List.mem_cons_self)
    rw [e] at this
    exact absurd this (by decide)
  simp only [k1,if_true,atR,List.getD_cons_zero,List.getD_cons_succ]
  rw [q2p (by omega) (by omega),q2p (by omega) (by omega),q2p (by omega) (by omega),q95 (by omega) (by omega),q2p (by omega) (by omega),q92 hth,qbr hn]
  have hw:decide ((if o.spec.whole=true then q26 else q53)=q26)=o.spec.whole:=by cases o.spec.whole<;>decide
  rw [hw]
 ·simp only [if_neg k1]
  rw [if_neg k1] at hm
  by_cases k2:o.kind=2
  ·rw [if_pos (.inl k2),Bool.and_eq_true] at hm
   simp only [q1r,Bool.and_eq_true,decide_eq_true_eq] at hm
   simp only [k2,if_true,true_or,atR,List.getD_cons_zero,List.getD_cons_succ]
   rw [if_neg (by decide),q2p (by omega) (by omega),qgw (by omega) (by omega)]
  ·by_cases k5:o.kind=5
   ·rw [if_pos (.inr k5),Bool.and_eq_true] at hm
    simp only [q1r,Bool.and_eq_true,decide_eq_true_eq] at hm
    have e1:¬ ((5:Int)=2):=by decide
    have e2:¬ ((5:Int)=3):=by decide
    have e3:¬ ((5:Int)=4):=by decide
    simp only [k5,e1,e2,e3,if_true,if_false,or_true,atR,List.getD_cons_zero,List.getD_cons_succ]
    rw [if_neg (by decide),if_neg (by decide),if_neg (by decide),if_neg (by decide),q2p (by omega) (by omega),qce (by omega) (by omega)]
   ·have k25:¬ (o.kind=2∨o.kind=5):=fun e=>e.elim k2 k5
    rw [if_neg k25] at hm
    by_cases k3:o.kind=3
    ·rw [if_pos k3] at hm
     have ht:=tm_iff2.1 hm
     have e1:¬ ((3:Int)=2):=by decide
     have e2:¬ ((3:Int)=5):=by decide
     simp only [k3,e1,e2,if_true,if_false,or_self,atR,List.getD_cons_zero,List.getD_cons_succ]
     rw [if_neg (by decide),if_neg (by decide),q95 (by omega) (by omega)]
    ·rw [if_neg k3] at hm
     by_cases k4:o.kind=4
     ·rw [if_pos k4,Bool.and_eq_true] at hm
      have ht:=tm_iff2.1 hm.1
      have e1:¬ ((4:Int)=2):=by decide
      have e2:¬ ((4:Int)=5):=by decide
      have e3:¬ ((4:Int)=3):=by decide
      simp only [k4,e1,e2,e3,if_true,if_false,or_self,atR,List.getD_cons_zero,List.getD_cons_succ]
      rw [if_neg (by decide),if_neg (by decide),if_neg (by decide),q95 (by omega) (by omega),q92 (qeu hm.2),qea hm.2]
     ·rw [if_neg k4] at hm;cases hm
theorem q25 {o:OOp} (h:q14 o=true):o.kind=1∨o.kind=2∨o.kind=3∨o.kind=4∨o.kind=5:=by
 unfold q14 at h
 split at h
 ·exact .inl ‹_›
 ·split at h
  ·rename_i e;rcases e with e | e<;>simp [e]
  ·split at h
   ·simp [*]
   ·split at h
    ·simp [*]
    ·cases h
theorem qew {o:OOp} (h:q14 o=true):q14 (q1c o)=true:=(qf4 (b:=q83 o) (by rw [qeo h])).1
theorem qaq {o:OOp} (h:q14 o=true):q15 (q1c o)=q15 o:=by
 unfold q1c
 rcases q25 h with e | e | e | e | e<;>simp [q15,e]
theorem qc8 {o:OOp} (h:q14 o=true):qd (q1c o)=qd o:=by rw [qd,qaq h];rfl
def kw (k:Int):List UInt8:=if k=1 then kwSubmit else if k=2 then kwDo else if k=3 then kwTick else if k=4 then kwLend else kwMark
def nW (k:Int):Nat:=if k=1 then 9 else if k=3 then 2 else 3
theorem q2j {o:OOp} (h:q14 o=true):∃ x t,q15 o=kw o.kind :: x :: t∧(q15 o).length=nW o.kind:=by
 unfold q15
 rcases q25 h with e | e | e | e | e<;>simp [e,kw,nW]
def geC (l:List UInt8):Prop:=∀ c∈l,44≤c.toNat
theorem qc2 {s:List UInt8} (h:geC s):geC (q1u s):=by
 unfold q1u;split
 ·unfold geC;decide
 ·exact h
theorem qcr (n:Int):geC (Lib.itoa n):=fun c hc=>by have:=q5t n c hc;omega
theorem qg8 {n first:Int} {names:List (List UInt8)} (hn:∀ w∈names,geC w):geC (q27 n first names):=by
 unfold q27
 split
 ·rename_i h
  have hk:(n-first).toNat<names.length:=by omega
  rw [List.getD_eq_getElem?_getD,List.getElem?_eq_getElem hk]
  exact hn _ (List.getElem_mem hk)
 ·exact qcr _
theorem qlx {l:List UInt8} {c:UInt8} (hc:c.toNat<44) (h:geC l):c∉l:=fun e=>by have:=h _ e;omega
theorem q8i {c:UInt8} (hc:44≤c.toNat):∀ xs:List (List UInt8),(∀ x∈xs,geC x)→geC (Lib.join xs [c])
 | [],_,y,hy=>by simp [Lib.join,List.intercalate] at hy
 | [x],h,y,hy=>by rw [q16] at hy;exact h x List.mem_cons_self y hy
 | x :: z :: t,h,y,hy=>by
  rw [qu] at hy
  rcases List.mem_append.1 hy with hy | hy
  ·exact h x List.mem_cons_self y hy
  ·rcases List.mem_cons.1 hy with rfl | hy
   ·exact hc
   ·exact q8i hc (z :: t) (fun w hw=>h w (List.mem_cons_of_mem _ hw)) y hy
theorem qgb (l:List Int):geC (q1z l):=qc2 <| q8i (by decide) _ fun x hx=>by
 obtain ⟨n,_,rfl⟩:=List.mem_map.1 hx
 exact qcr n
theorem qks:∀ w∈jobsT,geC w:=by unfold geC;decide
theorem qgr:∀ w∈healthT,geC w:=by unfold geC;decide
theorem qd1 {o:OOp} (h:q14 o=true):∀ w∈q15 o,geC w:=by
 have hm:=h
 unfold q14 at hm
 have hi:=qcr
 unfold q15
 rcases q25 h with e | e | e | e | e
 ·rw [if_pos e] at hm
  simp only [Bool.and_eq_true] at hm
  have ht:q5e o.spec.tag=true:=by have:=hm.1.1;simp only [qq,Bool.and_eq_true] at this;exact this.1.1.2
  have hd:=qc2 (fun c hc=>by have:=qb1 ht c hc;omega:geC o.spec.tag.data.toList)
  have hw:geC (if o.spec.whole=true then q26 else q53):=by cases o.spec.whole<;>(unfold geC;decide)
  simp only [e,if_true]
  intro w hm
  simp only [List.mem_cons,List.not_mem_nil,or_false] at hm
  rcases hm with rfl | rfl | rfl | rfl | rfl | rfl | rfl | rfl | rfl
  ·unfold geC;decide
  ·exact hi _
  ·exact hi _
  ·exact hi _
  ·exact hd
  ·exact hw
  ·exact hi _
  ·exact hi _
  ·exact qgb _
 ·simp only [e]
  intro w hm
  simp at hm
  rcases hm with rfl | rfl | rfl
  ·unfold geC;decide
  ·exact hi _
  ·exact qg8 qks
 ·simp only [e]
  intro w hm
  simp at hm
  rcases hm with rfl | rfl
  ·unfold geC;decide
  ·exact hi _
 ·simp only [e] at hm
  simp at hm
  simp only [e]
  intro w hm2
  simp at hm2
  rcases hm2 with rfl | rfl | rfl
  ·unfold geC;decide
  ·exact hi _
  ·exact qc2 (qcq hm.2)
 ·simp only [e]
  intro w hm
  simp at hm
  rcases hm with rfl | rfl | rfl
  ·unfold geC;decide
  ·exact hi _
  ·exact qg8 qgr
theorem qhq {o:OOp} (h:q14 o=true):∀ w∈q15 o,(32:UInt8)∉w:=fun w hw=>qlx (by decide) (qd1 h w hw)
theorem q1x {o:OOp} (h:q14 o=true):q9 32 (qd o)=q15 o:=by
 obtain ⟨x,t,e,_⟩:=q2j h
 exact q4u _ (by rw [e];simp) (qhq h)
theorem qc9 {o:OOp} (h:q14 o=true):∃ r,qd o=kw o.kind++32 :: r:=by
 obtain ⟨x,t,e,_⟩:=q2j h
 exact ⟨_,by rw [qd,e,qu]⟩
theorem q8t {o:OOp} (h:q14 o=true):List.count 32 (qd o)+1=nW o.kind:=by
 obtain ⟨x,t,_,e⟩:=q2j h
 rw [← e,← q1x h,q5z]
theorem qko (k:Int):(32:UInt8)∉kw k:=by
 unfold kw;(repeat' split)<;>decide
theorem qjb {a b:Int} (ha:a=1∨a=2∨a=3∨a=4∨a=5) (hb:b=1∨b=2∨b=3∨b=4∨b=5) (h:kw a=kw b):a=b:=by
 rcases ha with rfl | rfl | rfl | rfl | rfl<;>rcases hb with rfl | rfl | rfl | rfl | rfl<;>first | rfl | (exact absurd h (by decide))
theorem qev {o p:OOp} {r:List UInt8} (ho:q14 o=true) (hp:q14 p=true) (h:qd p=kw o.kind++32 :: r):p.kind=o.kind∧List.count 32 (qd p)=List.count 32 (qd o):=by
 have h1:q9 32 (qd p)=kw o.kind :: q9 32 r:=by rw [h,q11 _ _ (qko _)]
 obtain ⟨x,t,e,_⟩:=q2j hp
 rw [q1x hp,e,List.cons.injEq] at h1
 have hk:=qjb (q25 hp) (q25 ho) h1.1
 have c1:=q8t hp
 have c2:=q8t ho
 rw [hk] at c1
 exact ⟨hk,by omega⟩
theorem qfm {line:List UInt8} {o:OOp} (h:ql line=(o,0)):q14 o=true∧qd o=line:=by
 unfold ql at h
 split at h
 ·simp at h
 ·split at h
  ·simp at h
  ·split at h
   ·rename_i hh
    have:=congrArg Prod.fst h
    simp only at this
    rw [this] at hh
    exact hh
   ·simp at h
theorem q5h {line:List UInt8} (h:(ql line).2=0):q14 (ql line).1=true∧qd (ql line).1=line:=qfm (by rw [← h])
theorem qee {line:List UInt8} (h:(ql line).2≠0):(ql line).1=op0:=by
 unfold ql at h ⊢
 repeat' split
 all_goals first | rfl | (exfalso;simp_all)
theorem qac {c:UInt8} {m:Nat}:∀ xs:List (List UInt8),(∀ x∈xs,x.length≤m)→(Lib.join xs [c]).length≤(m+1) * xs.length
 | [],_=>by simp [Lib.join,List.intercalate]
 | [x],h=>by rw [q16];have:=h x List.mem_cons_self;simp only [List.length_cons,List.length_nil];omega
 | x :: y :: t,h=>by
  have h1:=h x List.mem_cons_self
  have h2:=qac (c:=c) (m:=m) (y :: t) fun z hz=>h z (List.mem_cons_of_mem _ hz)
  rw [qu,List.length_append,List.length_cons]
  simp only [List.length_cons,Nat.mul_add] at h2 ⊢
  omega
theorem q9v {s:List UInt8} {m:Nat} (h:s.length≤m) (hm:1≤m):(q1u s).length≤m:=by
 unfold q1u;split
 ·exact hm
 ·exact h
theorem qcu {n first:Int} {names:List (List UInt8)} (h0:0≤n) (h1:n≤9223372036854775807) (hn:∀ w∈names,w.length≤21):(q27 n first names).length≤21:=by
 unfold q27
 split
 ·rename_i h
  have hk:(n-first).toNat<names.length:=by omega
  rw [List.getD_eq_getElem?_getD,List.getElem?_eq_getElem hk]
  exact hn _ (List.getElem_mem hk)
 ·exact Lib.itoa_length_le n (by omega) h1
theorem q6q {o:OOp} (h:q14 o=true) (hs:o.set.length≤60):(qd o).length≤1000:=by
 have hm:=h
 unfold q14 at hm
 have hi:∀ n:Int,-9223372036854775808≤n→n≤9223372036854775807→(Lib.itoa n).length≤21:=fun n h0 h1=>Lib.itoa_length_le n h0 h1
 unfold qd q15
 rcases q25 h with e | e | e | e | e
 ·rw [if_pos e] at hm
  simp only [Bool.and_eq_true,decide_eq_true_eq,List.all_eq_true] at hm
  obtain ⟨⟨hr,hl⟩,hn⟩:=hm
  have hf:=q1l hr
  have ht:q5e o.spec.tag=true:=by simp only [qq,Bool.and_eq_true] at hr;exact hr.1.1.2
  have htl:o.spec.tag.data.toList.length≤16:=by
   simp only [q5e,Bool.and_eq_true,decide_eq_true_eq] at ht
   have:=ht.1
   rw [Array.length_toList]
   show o.spec.tag.size≤16
   omega
  have hw:(if o.spec.whole=true then q26 else q53).length≤5:=by cases o.spec.whole<;>decide
  have hc:(q1z o.needs).length≤352:=by
   refine q9v ?_ (by decide)
   have:=qac (c:=44) (m:=21) (o.needs.map Lib.itoa) fun x hx=>by
    obtain ⟨n,hm,rfl⟩:=List.mem_map.1 hx
    have:=hn n hm
    simp only [q1r,Bool.and_eq_true,decide_eq_true_eq] at this
    exact hi n (by omega) (by omega)
   rw [List.length_map] at this
   omega
  have hd:=q9v htl (by decide)
  have i1:=hi o.spec.nodes (by omega) (by omega)
  have i2:=hi o.spec.cores (by omega) (by omega)
  have i3:=hi o.spec.gpus (by omega) (by omega)
  have i4:=hi o.spec.long (by omega) (by omega)
  have i5:=hi o.spec.prio (by omega) (by omega)
  have k1:kwSubmit.length=6:=rfl
  simp only [e,if_true,qu,q16,List.length_append,List.length_cons]
  omega
 ·simp [e,q1r] at hm
  have i1:=hi o.id (by omega) (by omega)
  have i2:(q27 o.what 1 jobsT).length≤21:=qcu (by omega) (by omega) (by decide)
  have k1:kwDo.length=2:=rfl
  rw [if_neg (by omega),if_pos e]
  simp only [qu,q16,List.length_append,List.length_cons]
  omega
 ·rw [if_neg (by omega),if_neg (by omega),if_pos e] at hm
  have ht:=tm_iff2.1 hm
  have i1:=hi o.at_ (by omega) (by omega)
  have k1:kwTick.length=4:=rfl
  rw [if_neg (by omega),if_neg (by omega),if_pos e]
  simp only [qu,q16,List.length_append,List.length_cons]
  omega
 ·rw [if_neg (by omega),if_neg (by omega),if_neg (by omega),if_pos e,Bool.and_eq_true] at hm
  have ht:=tm_iff2.1 hm.1
  have i1:=hi o.at_ (by omega) (by omega)
  have i2:(q1u (q2m o.set)).length≤480:=by
   refine q9v ?_ (by decide)
   rw [q22 hm.2]
   have hr:=q4p (q6x hm.2)
   have hl:=q7m o.set
   have:=q9e ((q18 o.set).map qy) fun x hx=>by
    obtain ⟨⟨a,b⟩,hr2,rfl⟩:=List.mem_map.1 hx
    have:=hr _ hr2
    exact (q3u this.1 this.2.1 this.2.2).1
   rw [List.length_map] at this
   unfold q29
   omega
  have k1:kwLend.length=4:=rfl
  rw [if_neg (by omega),if_neg (by omega),if_neg (by omega),if_pos e]
  simp only [qu,q16,List.length_append,List.length_cons]
  omega
 ·simp [e,q1r] at hm
  have i1:=hi o.id (by omega) (by omega)
  have i2:(q27 o.what 0 healthT).length≤21:=qcu (by omega) (by omega) (by decide)
  have k1:kwMark.length=4:=rfl
  rw [if_neg (by omega),if_neg (by omega),if_neg (by omega),if_neg (by omega),if_pos e]
  simp only [qu,q16,List.length_append,List.length_cons]
  omega
theorem q5x {o:OOp} (h:q14 o=true) (hs:o.set.length≤60):ql (qd o)=(q1c o,0):=by
 have hl:=q6q h hs
 unfold ql
 rw [q1x h,qeg h]
 simp only
 rw [if_neg (by omega),if_neg (by simp),if_pos ⟨qew h,qc8 h⟩]
theorem qjn {r:List (List UInt8)} {k:Int} (hk:k=1∨k=2∨k=3∨k=4∨k=5) (h:atR r 0=kw k):(q1s r).2=true:=by
 unfold q1s
 rw [h]
 rcases hk with rfl | rfl | rfl | rfl | rfl<;>rfl
theorem qkt {r:List (List UInt8)} (h:(q1s r).2=true):∃ k,(k=1∨k=2∨k=3∨k=4∨k=5)∧atR r 0=kw k:=by
 unfold q1s at h
 split at h
 ·exact ⟨1,by simp,by assumption⟩
 ·split at h
  ·exact ⟨2,by simp,by assumption⟩
  ·split at h
   ·exact ⟨3,by simp,by assumption⟩
   ·split at h
    ·exact ⟨4,by simp,by assumption⟩
    ·split at h
     ·exact ⟨5,by simp,by assumption⟩
     ·cases h
theorem q90 {o p:OOp} {r:List UInt8} (ho:q14 o=true) (hp:q14 p=true) (hl:qd p=kw o.kind++32 :: r) (hc:List.count 32 (qd o)<List.count 32 (qd p)):False:=by
 have:=(qev ho hp hl).2
 omega
theorem qb8 {o:OOp} (h:q14 o=true) (hs:o.set.length≤60):(ql (qd o++[32])).2=3:=by
 have hl:=q6q h hs
 obtain ⟨r,hr⟩:=qc9 h
 unfold ql
 rw [List.length_append,List.length_singleton]
 rw [if_neg (by omega)]
 have e1:qd o++[32]=kw o.kind++32 :: (r++[32]):=by rw [hr];simp
 have h2:(q1s (q9 32 (qd o++[32]))).2=true:=by
  rw [e1,q11 _ _ (qko _)]
  exact qjn (q25 h) rfl
 rw [if_neg (by rw [h2];simp),if_neg]
 rintro ⟨hp,he⟩
 refine q90 h hp (he.trans e1) ?_
 rw [he,List.count_append]
 simp
theorem qbl {s:List UInt8} (hl:s.length<2048):(ql (32 :: s)).2=10:=by
 unfold ql
 rw [List.length_cons,if_neg (by omega),if_pos]
 have e:q9 32 (32 :: s)=[] :: q9 32 s:=q11 [] s (by simp)
 rw [e]
 cases hq:(q1s ([] :: q9 32 s)).2 with
 | false=>rfl
 | true =>
  obtain ⟨k,hk,e⟩:=qkt hq
  exfalso
  rcases hk with rfl | rfl | rfl | rfl | rfl<;>exact absurd (show ([]:List UInt8)=kw _ from e) (by decide)
theorem qli {a b:Int} (ha:a=1∨a=2∨a=3∨a=4∨a=5) (hb:b=1∨b=2∨b=3∨b=4∨b=5) {k:Nat} (hk:k<(kw a).length):(kw a).take k≠kw b:=by
 intro e
 have hl:=congrArg List.length e
 rw [List.length_take] at hl
 have hx:∀ n:Fin 6,(n.val<(kw a).length→(kw a).take n.val≠kw b):=by
  rcases ha with rfl | rfl | rfl | rfl | rfl<;>rcases hb with rfl | rfl | rfl | rfl | rfl<;>decide
 have h6:(kw a).length≤6:=by rcases ha with rfl | rfl | rfl | rfl | rfl<;>decide
 exact hx ⟨k,by omega⟩ hk e
theorem qa7 {o:OOp} (h:q14 o=true) (k:Nat):(ql ((qd o).take k++32 :: (qd o).drop k)).2≠0:=by
 intro hz
 obtain ⟨hp,he⟩:=q5h hz
 generalize (ql _).1=p at hp he
 obtain ⟨r,hr⟩:=qc9 h
 have hc:List.count 32 (qd p)=List.count 32 (qd o)+1:=by
  rw [he,List.count_append,List.count_cons_self,← Nat.add_assoc,← List.count_append,List.take_append_drop]
 by_cases hk:k<(kw o.kind).length
 ·have e1:(qd o).take k=(kw o.kind).take k:=by rw [hr,List.take_append_of_le_length (by omega)]
  have e2:q9 32 (qd p)=(kw o.kind).take k :: q9 32 ((qd o).drop k):=by
   rw [he,e1,q11]
   exact fun e=>qko _ (List.mem_of_mem_take e)
  obtain ⟨x,t,e3,_⟩:=q2j hp
  rw [q1x hp,e3,List.cons.injEq] at e2
  exact qli (q25 h) (q25 hp) hk e2.1.symm
 ·have e1:∃ r2,qd p=kw o.kind++32 :: r2:=by
   rw [he]
   by_cases e:k=(kw o.kind).length
   ·refine ⟨(qd o).drop k,?_⟩
    rw [hr,e,List.take_append_of_le_length (Nat.le_refl _),List.take_length]
   ·refine ⟨r.take (k-(kw o.kind).length-1)++32 :: (qd o).drop k,?_⟩
    have hk2:k=(kw o.kind).length+((k-(kw o.kind).length-1)+1):=by omega
    have:(qd o).take k=kw o.kind++32 :: r.take (k-(kw o.kind).length-1):=by
     rw [hr,List.take_append,List.take_of_length_le (by omega)]
     congr 1
     rw [show k-(kw o.kind).length=(k-(kw o.kind).length-1)+1 by omega,List.take_succ_cons]
     simp
    rw [this];simp
  obtain ⟨r2,e2⟩:=e1
  exact q90 h hp e2 (by omega)
def qjj (w:List UInt8):Prop:=∀ d r,w=48 :: d :: r→¬ (48≤d.toNat∧d.toNat≤57)
theorem q3i (n:Int):qjj (Lib.itoa n):=by
 intro d r e
 unfold Lib.itoa at e
 split at e
 ·simp only [List.cons.injEq] at e
  exact absurd e.1 (by decide)
 ·have:=qfo _ _ e
  cases this
theorem qbd {n first:Int} {names:List (List UInt8)} (hn:∀ w∈names,57<(w.getD 0 0).toNat):qjj (q27 n first names):=by
 unfold q27
 split
 ·rename_i h
  have hk:(n-first).toNat<names.length:=by omega
  rw [List.getD_eq_getElem?_getD,List.getElem?_eq_getElem hk]
  have:=hn _ (List.getElem_mem hk)
  intro d r e
  rw [Option.getD_some] at e
  rw [e,List.getD_cons_zero] at this
  exact absurd this (by decide)
 ·exact q3i n
theorem qct {n:Int} {t:List UInt8} (ht:∀ d r,t=d :: r→¬ (48≤d.toNat∧d.toNat≤57)):qjj (dec n++t):=by
 intro d r e
 unfold dec at e
 cases hd:Lib.decDigits n.toNat with
 | nil=>exact absurd hd (q7a _)
 | cons c u =>
  rw [hd] at e
  simp only [List.cons_append,List.cons.injEq] at e
  obtain ⟨e1,e2⟩:=e
  subst e1
  have:=qfo _ _ hd
  subst this
  exact ht d r e2
theorem qix {l:List Int} (h:sok l=true):qjj (q1u (q2m l)):=by
 unfold q1u
 split
 ·intro d r e;simp at e
 ·rw [q22 h]
  cases hq:q18 l with
  | nil=>intro d r e;simp [q29,Lib.join,List.intercalate] at e
  | cons x rs =>
   have h1:∀ t,(∀ d r,t=d :: r→¬ (48≤d.toNat∧d.toNat≤57))→qjj (qy x++t):=by
    intro t ht
    unfold qy
    split
    ·rw [List.append_assoc]
     refine qct fun d r e=>?_
     simp only [List.cons_append,List.cons.injEq] at e
     rw [← e.1];decide
    ·exact qct ht
   cases rs with
   | nil=>rw [q8e];have:=h1 [] (by simp);rwa [List.append_nil] at this
   | cons x2 rs =>
    rw [q7u (by simp)]
    refine h1 _ fun d r e=>?_
    simp only [List.cons.injEq] at e
    rw [← e.1];decide
theorem qe7 {o:OOp} (h:q14 o=true) (hk:o.kind≠1):∀ w∈q15 o,qjj w:=by
 have hm:=h
 unfold q14 at hm
 have hkw:∀ w,57<(w.getD 0 0:UInt8).toNat→qjj w:=fun w hw d r e=>by
  rw [e,List.getD_cons_zero] at hw
  exact absurd hw (by decide)
 unfold q15
 rcases q25 h with e | e | e | e | e
 ·exact absurd e hk
 ·simp only [e]
  intro w hm
  simp at hm
  rcases hm with rfl | rfl | rfl
  ·exact hkw _ (by decide)
  ·exact q3i _
  ·exact qbd (by decide)
 ·simp only [e]
  intro w hm
  simp at hm
  rcases hm with rfl | rfl
  ·exact hkw _ (by decide)
  ·exact q3i _
 ·simp only [e] at hm
  simp at hm
  simp only [e]
  intro w hm2
  simp at hm2
  rcases hm2 with rfl | rfl | rfl
  ·exact hkw _ (by decide)
  ·exact q3i _
  ·exact qix hm.2
 ·simp only [e]
  intro w hm
  simp at hm
  rcases hm with rfl | rfl | rfl
  ·exact hkw _ (by decide)
  ·exact q3i _
  ·exact qbd (by decide)
theorem qad (c x:UInt8) (r:List UInt8):q9 c (x :: r)=if x=c then [] :: q9 c r else match q9 c r with
  | []=>[[x]]
  | w :: ws=>(x :: w) :: ws:=by
 conv=>lhs;unfold q9
 try rfl
theorem q47 (c:UInt8):∀ (a b:List UInt8),q9 c (a++c :: b)=q9 c a++q9 c b
 | [],b=>q11 [] b (by simp)
 | x :: a,b=>by
  rw [List.cons_append,qad c x (a++c :: b),qad c x a,q47 c a b]
  split
  ·rfl
  ·cases hq:q9 c a with
   | nil=>exact absurd hq (q3t c a)
   | cons w ws=>rfl
theorem q7t {c x:UInt8} (h:x≠c) (r:List UInt8):∃ w ws,q9 c r=w :: ws∧q9 c (x :: r)=(x :: w) :: ws:=by
 cases hq:q9 c r with
 | nil=>exact absurd hq (q3t c r)
 | cons w ws =>
  refine ⟨w,ws,rfl,?_⟩
  unfold q9
  rw [if_neg h,hq]
theorem qlr {o:OOp} (h:q14 o=true) {a b:List UInt8} {d:UInt8} (hd:48≤d.toNat∧d.toNat≤57) (he:qd o=a++32 :: d :: b) (hz:(ql (a++32 :: 48 :: d :: b)).2=0):o.kind=1:=by
 obtain ⟨hp,hl⟩:=q5h hz
 generalize (ql _).1=p at hp hl
 refine Classical.byContradiction fun hk=>?_
 have hpk:p.kind=o.kind:=by
  have e1:q9 32 (qd o)=q9 32 a++q9 32 (d :: b):=by rw [he,q47]
  have e2:q9 32 (qd p)=q9 32 a++q9 32 (48 :: d :: b):=by rw [hl,q47]
  obtain ⟨x,t,e3,_⟩:=q2j h
  obtain ⟨y,u,e4,_⟩:=q2j hp
  rw [q1x h,e3] at e1
  rw [q1x hp,e4] at e2
  cases hq:q9 32 a with
  | nil=>exact absurd hq (q3t _ _)
  | cons w ws =>
   rw [hq] at e1 e2
   simp only [List.cons_append,List.cons.injEq] at e1 e2
   exact qjb (q25 hp) (q25 h) (e2.1.trans e1.1.symm)
 have hne:(48:UInt8)≠32:=by decide
 have hdn:d≠32:=fun e=>by rw [e] at hd;exact absurd hd.1 (by decide)
 obtain ⟨w1,ws1,s1,s2⟩:=q7t hdn b
 obtain ⟨w2,ws2,s3,s4⟩:=q7t hne (d :: b)
 rw [s2] at s3
 simp only [List.cons.injEq] at s3
 have e2:q15 p=q9 32 a++q9 32 (48 :: d :: b):=by rw [← q1x hp,hl,q47]
 have hm:(48 :: d :: w1:List UInt8)∈q15 p:=by
  rw [e2,s4,← s3.1]
  exact List.mem_append_right _ List.mem_cons_self
 exact qe7 hp (by rw [hpk];exact hk) _ hm d w1 rfl hd
def q2q:List (List UInt8)→Nat→List OOp→List OOp×Int×Int
 | [],_,out=>(out,0,0)
 | s :: t,i,out =>
  if 512≤i then ([],4,(i:Int)+1)
  else if s=[]∨s.head?=some 35 then q2q t (i+1) out
  else if (ql s).2≠0 then ([],(ql s).2,(i:Int)+1)
  else q2q t (i+1) (out++[(ql s).1])
def q73 (text:List UInt8):List OOp×Int×Int:=q2q (q9 10 text) 0 []
theorem qkr (k:Int):∃ c r,kw k=c :: r∧c≠35:=by
 unfold kw
 (repeat' split)<;>exact ⟨_,_,rfl,by decide⟩
theorem qfa {c x:UInt8}:∀ xs:List (List UInt8),x∈Lib.join xs [c]→x=c∨∃ w∈xs,x∈w
 | [],h=>by simp [Lib.join,List.intercalate] at h
 | [w],h=>by rw [q16] at h;exact .inr ⟨w,List.mem_cons_self,h⟩
 | w :: z :: t,h=>by
  rw [qu] at h
  rcases List.mem_append.1 h with h | h
  ·exact .inr ⟨w,List.mem_cons_self,h⟩
  ·rcases List.mem_cons.1 h with rfl | h
   ·exact .inl rfl
   ·rcases qfa (z :: t) h with h | ⟨v,hv,hx⟩
    ·exact .inl h
    ·exact .inr ⟨v,List.mem_cons_of_mem _ hv,hx⟩
theorem qf9 {o:OOp} (h:q14 o=true):(10:UInt8)∉qd o:=by
 intro hm
 rcases qfa _ hm with e | ⟨w,hw,hx⟩
 ·exact absurd e (by decide)
 ·exact qlx (by decide) (qd1 h w hw) hx
theorem qez {o:OOp} (h:q14 o=true) (hs:o.set.length≤60) :
  q73 ([35,32,120,10,10]++qd o++[10,35]++qd o++[10]++qd o)=([q1c o,q1c o],0,0):=by
 have hn:=qf9 h
 have e:q9 10 ([35,32,120,10,10]++qd o++[10,35]++qd o++[10]++qd o)=[[35,32,120],[],qd o,35 :: qd o,qd o]:=by
  have e1:([35,32,120,10,10]++qd o++[10,35]++qd o++[10]++qd o:List UInt8)=[35,32,120]++10 :: ([]++10 :: (qd o++10 :: ((35 :: qd o)++10 :: qd o))):=by simp
  rw [e1,q11 _ _ (by decide),q11 _ _ (by simp),q11 _ _ hn,q11 _ _ (by
   intro hm
   rcases List.mem_cons.1 hm with hm | hm
   ·exact absurd hm (by decide)
   ·exact hn hm),q3y _ hn]
 obtain ⟨r,hr⟩:=qc9 h
 obtain ⟨c,t,hc,h35⟩:=qkr o.kind
 have hok:¬ (qd o=[]∨(qd o).head?=some 35):=by
  rw [hr,hc]
  simp
  exact h35
 rw [q73,e]
 have hp:=q5x h hs
 rw [q2q,if_neg (by decide),if_pos (by simp),q2q,if_neg (by decide),if_pos (by simp),q2q,if_neg (by decide),if_neg hok,if_neg (by rw [hp];simp),q2q,if_neg (by decide),if_pos (by simp),q2q,if_neg (by decide),if_neg hok,if_neg (by rw [hp];simp),q2q,hp]
 rfl
theorem qnr {i:Int} (h:(Lit.int .u8 i).wf=true):0≤i∧i≤255:=by
 simp only [Lit.wf,Bool.and_eq_true,decide_eq_true_eq] at h
 exact ⟨h.1,h.2⟩
theorem qmb {i:Int} (h:(Lit.int .u16 i).wf=true):0≤i∧i≤65535:=by
 simp only [Lit.wf,Bool.and_eq_true,decide_eq_true_eq] at h
 exact ⟨h.1,h.2⟩
end Go.Av
namespace Go.Av
open Go.Proofs
instance ty1:TyI Tryz.prog 1 false 1:=⟨by kernel_rfl,by kernel_rfl⟩
instance ty2:TyI Tryz.prog 2 false 1:=⟨by kernel_rfl,by kernel_rfl⟩
instance ud2:UdI Tryz.prog 2 (.int .i64):=⟨by kernel_rfl⟩
instance ty3:TyI Tryz.prog 3 false 1:=⟨by kernel_rfl,by kernel_rfl⟩
instance by3:ByI Tryz.prog 3 8:=⟨by kernel_rfl⟩
instance ud3:UdI Tryz.prog 3 (.int .i64):=⟨by kernel_rfl⟩
instance zc3:ZcI Tryz.prog 3 [.int .i64 0]:=⟨.int .i64 0,by kernel_rfl,rfl,rfl⟩
instance ty4:TyI Tryz.prog 4 false 1:=⟨by kernel_rfl,by kernel_rfl⟩
instance ud4:UdI Tryz.prog 4 .bool:=⟨by kernel_rfl⟩
instance ty5:TyI Tryz.prog 5 false 1:=⟨by kernel_rfl,by kernel_rfl⟩
instance by5:ByI Tryz.prog 5 1:=⟨by kernel_rfl⟩
instance ud5:UdI Tryz.prog 5 (.int .u8):=⟨by kernel_rfl⟩
instance zc5:ZcI Tryz.prog 5 [.int .u8 0]:=⟨.int .u8 0,by kernel_rfl,rfl,rfl⟩
instance ty9:TyI Tryz.prog 9 false 1:=⟨by kernel_rfl,by kernel_rfl⟩
instance by9:ByI Tryz.prog 9 16:=⟨by kernel_rfl⟩
instance ud9:UdI Tryz.prog 9 .string:=⟨by kernel_rfl⟩
instance ni9:NiI Tryz.prog 9:=⟨.inr Yz⟩
instance zc9:ZcI Tryz.prog 9 [.str ⟨#[]⟩]:=⟨.string ⟨#[]⟩,by kernel_rfl,rfl,rfl⟩
instance qnz:UdI Tryz.prog 21 (.int .i32):=⟨by kernel_rfl⟩
instance qpd:TyI Tryz.prog 23 true 7:=⟨by kernel_rfl,by kernel_rfl⟩
instance qn2:FldI Tryz.prog 23 0 0 3:=⟨by kernel_rfl⟩
instance qne:FldI Tryz.prog 23 1 1 3:=⟨by kernel_rfl⟩
instance qng:FldI Tryz.prog 23 2 2 3:=⟨by kernel_rfl⟩
instance qn4:FldI Tryz.prog 23 3 3 9:=⟨by kernel_rfl⟩
instance qn6:FldI Tryz.prog 23 4 4 4:=⟨by kernel_rfl⟩
instance qn1:FldI Tryz.prog 23 5 5 2:=⟨by kernel_rfl⟩
instance qn9:FldI Tryz.prog 23 6 6 3:=⟨by kernel_rfl⟩
instance qp1:StI Tryz.prog 23 [(0,1),(1,1),(2,1),(3,1),(4,1),(5,1),(6,1)]:=⟨by kernel_rfl⟩
instance qp8:ZcI Tryz.prog 23 [.int .i64 0,.int .i64 0,.int .i64 0,.str ⟨#[]⟩,.bool false,.int .i64 0,.int .i64 0]:=⟨.agg #[.int .i64 0,.int .i64 0,.int .i64 0,.string ⟨#[]⟩,.bool false,.int .i64 0,.int .i64 0],by kernel_rfl,rfl,rfl⟩
instance qog:TyI Tryz.prog 24 false 1:=⟨by kernel_rfl,by kernel_rfl⟩
instance qph:SlI Tryz.prog 24 3:=⟨by kernel_rfl⟩
instance qob:NiI Tryz.prog 24:=⟨.inl ⟨3,by kernel_rfl⟩⟩
instance qof:TyI Tryz.prog 26 true 13:=⟨by kernel_rfl,by kernel_rfl⟩
instance qp5:ByI Tryz.prog 26 144:=⟨by kernel_rfl⟩
instance qnc:FldI Tryz.prog 26 0 0 3:=⟨by kernel_rfl⟩
instance qnd:FldI Tryz.prog 26 1 1 23:=⟨by kernel_rfl⟩
instance qmx:FldI Tryz.prog 26 2 8 24:=⟨by kernel_rfl⟩
instance qn3:FldI Tryz.prog 26 3 9 3:=⟨by kernel_rfl⟩
instance qmz:FldI Tryz.prog 26 4 10 3:=⟨by kernel_rfl⟩
instance qmv:FldI Tryz.prog 26 5 11 2:=⟨by kernel_rfl⟩
instance qnf:FldI Tryz.prog 26 6 12 24:=⟨by kernel_rfl⟩
instance qor:StI Tryz.prog 26 [(0,1),(1,7),(8,1),(9,1),(10,1),(11,1),(12,1)]:=⟨by kernel_rfl⟩
instance qq5:ZcI Tryz.prog 26 [.int .i64 0,.int .i64 0,.int .i64 0,.int .i64 0,.str ⟨#[]⟩,.bool false,.int .i64 0,.int .i64 0,.nsl,.int .i64 0,.int .i64 0,.int .i64 0,.nsl]:=⟨.agg #[.int .i64 0,.int .i64 0,.int .i64 0,.int .i64 0,.string ⟨#[]⟩,.bool false,.int .i64 0,.int .i64 0,.slice none 0 0,.int .i64 0,.int .i64 0,.int .i64 0,.slice none 0 0],by kernel_rfl,rfl,rfl⟩
instance qq6:UdI Tryz.prog 27 (.int .u16):=⟨by kernel_rfl⟩
instance qo2:SlI Tryz.prog 36 26:=⟨by kernel_rfl⟩
instance qpq:NiI Tryz.prog 36:=⟨.inl ⟨26,by kernel_rfl⟩⟩
instance qoa:SlI Tryz.prog 43 5:=⟨by kernel_rfl⟩
instance qon:NiI Tryz.prog 43:=⟨.inl ⟨5,by kernel_rfl⟩⟩
instance qoq:SlI Tryz.prog 47 9:=⟨by kernel_rfl⟩
instance qpg:NiI Tryz.prog 47:=⟨.inl ⟨9,by kernel_rfl⟩⟩
instance qo5:TyI Tryz.prog 60 false 1:=⟨by kernel_rfl,by kernel_rfl⟩
instance qp2:UdI Tryz.prog 60 (.int .u64):=⟨by kernel_rfl⟩
instance qpe:SlI Tryz.prog 72 9:=⟨by kernel_rfl⟩
instance qop:SlI Tryz.prog 86 88:=⟨by kernel_rfl⟩
instance qo9:NiI Tryz.prog 86:=⟨.inl ⟨88,by kernel_rfl⟩⟩
instance qoy:TyI Tryz.prog 88 true 2:=⟨by kernel_rfl,by kernel_rfl⟩
instance qok:ByI Tryz.prog 88 16:=⟨by kernel_rfl⟩
instance qpv:ArI Tryz.prog 88 2 3:=⟨by kernel_rfl⟩
instance qot:ZcI Tryz.prog 88 [.int .i64 0,.int .i64 0]:=⟨.agg #[.int .i64 0,.int .i64 0],by kernel_rfl,rfl,rfl⟩
instance qo4:TyI Tryz.prog 95 true 4:=⟨by kernel_rfl,by kernel_rfl⟩
instance qo8:ArI Tryz.prog 95 4 60:=⟨by kernel_rfl⟩
instance qq2:ZcI Tryz.prog 95 [.int .u64 0,.int .u64 0,.int .u64 0,.int .u64 0]:=⟨.agg #[.int .u64 0,.int .u64 0,.int .u64 0,.int .u64 0],by kernel_rfl,rfl,rfl⟩
instance fn5:FnI Tryz.prog 5:=⟨by kernel_rfl⟩
instance fn6:FnI Tryz.prog 6:=⟨by kernel_rfl⟩
instance fn7:FnI Tryz.prog 7:=⟨by kernel_rfl⟩
instance fn8:FnI Tryz.prog 8:=⟨by kernel_rfl⟩
instance fn9:FnI Tryz.prog 9:=⟨by kernel_rfl⟩
instance qnu:FnI Tryz.prog 10:=⟨by kernel_rfl⟩
instance qnv:FnI Tryz.prog 11:=⟨by kernel_rfl⟩
instance qq4:FnI Tryz.prog 12:=⟨by kernel_rfl⟩
instance qpi:FnI Tryz.prog 13:=⟨by kernel_rfl⟩
instance qom:FnI Tryz.prog 14:=⟨by kernel_rfl⟩
instance qoz:FnI Tryz.prog 15:=⟨by kernel_rfl⟩
instance qpx:FnI Tryz.prog 16:=⟨by kernel_rfl⟩
instance qpu:FnI Tryz.prog 17:=⟨by kernel_rfl⟩
instance qpw:FnI Tryz.prog 18:=⟨by kernel_rfl⟩
instance qos:FnI Tryz.prog 19:=⟨by kernel_rfl⟩
instance qoc:FnI Tryz.prog 20:=⟨by kernel_rfl⟩
instance qnt:FnI Tryz.prog 21:=⟨by kernel_rfl⟩
instance qo7:FnI Tryz.prog 22:=⟨by kernel_rfl⟩
instance qpt:FnI Tryz.prog 23:=⟨by kernel_rfl⟩
instance qpz:FnI Tryz.prog 24:=⟨by kernel_rfl⟩
instance qny:FnI Tryz.prog 25:=⟨by kernel_rfl⟩
instance qp0:FnI Tryz.prog 26:=⟨by kernel_rfl⟩
instance qo1:FnI Tryz.prog 27:=⟨by kernel_rfl⟩
instance qp4:FnI Tryz.prog 28:=⟨by kernel_rfl⟩
instance qpy:FnI Tryz.prog 29:=⟨by kernel_rfl⟩
instance qoe:FnI Tryz.prog 32:=⟨by kernel_rfl⟩
instance qpn:FnI Tryz.prog 36:=⟨by kernel_rfl⟩
instance qnx:FnI Tryz.prog 37:=⟨by kernel_rfl⟩
instance qpj:FnI Tryz.prog 38:=⟨by kernel_rfl⟩
instance qq3:FnI Tryz.prog 39:=⟨by kernel_rfl⟩
instance qpl:FnI Tryz.prog 40:=⟨by kernel_rfl⟩
instance qo3:FnI Tryz.prog 41:=⟨by kernel_rfl⟩
instance qoh:FnI Tryz.prog 42:=⟨by kernel_rfl⟩
instance qo6:FnI Tryz.prog 43:=⟨by kernel_rfl⟩
instance qow:FnI Tryz.prog 44:=⟨by kernel_rfl⟩
instance qq1:FnI Tryz.prog 45:=⟨by kernel_rfl⟩
instance qoi:FnI Tryz.prog 46:=⟨by kernel_rfl⟩
instance qox:FnI Tryz.prog 47:=⟨by kernel_rfl⟩
instance qp7:FnI Tryz.prog 48:=⟨by kernel_rfl⟩
instance qpa:FnI Tryz.prog 49:=⟨by kernel_rfl⟩
instance qov:FnI Tryz.prog 50:=⟨by kernel_rfl⟩
instance qp6:FnI Tryz.prog 51:=⟨by kernel_rfl⟩
instance qo0:FnI Tryz.prog 56:=⟨by kernel_rfl⟩
instance qpc:FnI Tryz.prog 59:=⟨by kernel_rfl⟩
instance qoo:FnI Tryz.prog 60:=⟨by kernel_rfl⟩
instance qpf:FnI Tryz.prog 61:=⟨by kernel_rfl⟩
instance qou:FnI Tryz.prog 62:=⟨by kernel_rfl⟩
instance qp9:FnI Tryz.prog 63:=⟨by kernel_rfl⟩
instance qol:FnI Tryz.prog 65:=⟨by kernel_rfl⟩
instance qpo:FnI Tryz.prog 66:=⟨by kernel_rfl⟩
instance qps:FnI Tryz.prog 67:=⟨by kernel_rfl⟩
instance qpm:FnI Tryz.prog 68:=⟨by kernel_rfl⟩
instance qns:FnI Tryz.prog 69:=⟨by kernel_rfl⟩
instance qpk:FnI Tryz.prog 70:=⟨by kernel_rfl⟩
instance qoj:FnI Tryz.prog 80:=⟨by kernel_rfl⟩
instance qpb:FnI Tryz.prog 82:=⟨by kernel_rfl⟩
instance qod:FnI Tryz.prog 86:=⟨by kernel_rfl⟩
instance qpp:FnI Tryz.prog 87:=⟨by kernel_rfl⟩
instance qq0:FnI Tryz.prog 88:=⟨by kernel_rfl⟩
instance qp3:FnI Tryz.prog 89:=⟨by kernel_rfl⟩
instance qpr:FnI Tryz.prog 96:=⟨by kernel_rfl⟩
instance qnw:FnI Tryz.prog 98:=⟨by kernel_rfl⟩
instance qnl:FnI Tryz.prog 100:=⟨by kernel_rfl⟩
instance qnn:FnI Tryz.prog 104:=⟨by kernel_rfl⟩
instance qnp:FnI Tryz.prog 105:=⟨by kernel_rfl⟩
instance qnj:FnI Tryz.prog 112:=⟨by kernel_rfl⟩
instance qnm:FnI Tryz.prog 113:=⟨by kernel_rfl⟩
instance qnq:FnI Tryz.prog 114:=⟨by kernel_rfl⟩
theorem mixed:Tryz.prog.follows .mixedOrders=true:=by kernel_rfl
abbrev lets:ByteArray:=⟨#[97,98,99,100,101,102,103,104,105,106,107,108,109,110,111,112,113,114,115,116,117,118,119,120,121,122,48,49,50,51,52,53,54,55,56,57]⟩
theorem q7n (s:ByteArray) (c:Int) (H:q8):AC Tryz.prog 100 [.str s,.int .u8 c] H (Ret (.int .i64 (Lib.indexByte s.data.toList c.toNat.toUInt8)) H):=by
 refine AC.body (N:=8) [.tmp 4] Tryz.func100 rfl rfl rfl (Nat.le_of_ble_eq_true rfl) fun B hB=>?_
 refine Z5 ?_
 refine Z9 ?_
 refine ao1 (by decide) (q7z Tryz.func110 Yz Yz Yz Yz rfl rfl) ?_
 exact Zd
theorem q32 (s:ByteArray) (c:Int) (H:q8):AC Tryz.prog 113 [.str s,.int .u8 c] H (Ret (.int .i64 (Lib.indexByte s.data.toList c.toNat.toUInt8)) H):=by
 refine AC.body (N:=8) [.tmp 4] Tryz.func113 rfl rfl rfl (Nat.le_of_ble_eq_true rfl) fun B hB=>?_
 refine Z5 ?_
 refine Z9 ?_
 refine q10 (q7n _ _ _) rfl (by decide) ?_
 exact Zd
theorem q8a (c:Int) (H:q8):AC Tryz.prog 114 [.int .i32 c] H (Ret (.bool (Utf8.valid c)) H):=by
 refine AC.body (N:=17) [.tmp 2] Tryz.func114 rfl rfl rfl (Nat.le_of_ble_eq_true rfl) fun B hB=>?_
 refine Zg ?_
 refine qm 3 (.bool (decide (0≤c)&&decide (c<55296))) ?_ ?_
 ·refine Z8 ?_
  refine Zh ?_
  refine Zi ?_
  refine q7 rfl rfl (fun hg2=>?_) (fun hg2=>?_)
  ·refine Zl ?_
   refine Zn ?_
   exact Zo
  ·refine Zt ?_
   exact Zo
 refine Z1 ?_
 refine q5 rfl (fun hc=>?_) (fun hc=>?_)
 ·refine Zg ?_
  rw [show Utf8.valid c=true by simp [Utf8.valid];simp at hc;omega]
  exact Zc
 ·refine Z1 ?_
  refine qm 10 (.bool (decide (57343<c)&&decide (c≤1114111))) ?_ ?_
  ·refine Z8 ?_
   refine Zu ?_
   refine Zi ?_
   refine q7 rfl rfl (fun hg2=>?_) (fun hg2=>?_)
   ·refine Zj ?_
    refine Zw ?_
    exact Zo
   ·refine Zt ?_
    exact Zo
  refine Z1 ?_
  refine q5 rfl (fun hc=>?_) (fun hc=>?_)
  ·refine Zg ?_
   rw [show Utf8.valid c=true by simp [Utf8.valid];simp at hc;omega]
   exact Zc
  ·refine Zg ?_
   rw [show Utf8.valid c=false by simp [Utf8.valid];simp at *;omega]
   exact Zc
theorem qdn:∀ i:Nat,i<36→(lets.get! i).toNat<128:=by decide +kernel
theorem qii:∀ i:Nat,i<36→lets[i]?=some (lets.get! i):=by decide +kernel
theorem q7i:lets.size=36:=by decide +kernel
def ixl (c:Int):Int:=if c<128 then Lib.indexByte lets.data.toList c.toNat.toUInt8 else -1
theorem qlp {c:Int} (h:0≤c):decide (0≤ixl c)=q87 c:=by
 unfold ixl
 by_cases h1:c<128
 ·rw [if_pos h1]
  obtain ⟨n,rfl⟩:∃ n:Nat,c=n:=⟨c.toNat,by omega⟩
  have:∀ n:Nat,n<128→decide (0≤Lib.indexByte lets.data.toList ((n:Int).toNat.toUInt8))=q87 n:=by decide +kernel
  exact this n (by omega)
 ·rw [if_neg h1]
  simp [q87]
  omega
theorem q86 {l:List UInt8} {c:UInt8} (h:c∉l):Lib.indexByte l c = -1:=by
 induction l with
 | nil=>rfl
 | cons b l ih =>
  simp only [List.mem_cons,not_or] at h
  unfold Lib.indexByte
  rw [ih h.2,if_neg (by simpa using fun e=>h.1 e.symm)]
  rfl
theorem qgv {b:UInt8} (h:128≤b.toNat) (l h':Nat):Lib.indexByte (lets.extract l h').data.toList b = -1:=by
 refine q86 fun hm=>?_
 have hm2:b∈lets.data.toList:=by
  rw [ByteArray.data_extract] at hm
  rw [Array.toList_extract,List.extract_eq_take_drop] at hm
  exact List.mem_of_mem_drop (List.mem_of_mem_take hm)
 have:∀ x∈lets.data.toList,x.toNat<128:=by decide +kernel
 have:=this b hm2
 omega
set_option maxHeartbeats 0 in
theorem q5p (c:Int) (hc0:0≤c) (hc1:c≤1114111) (H:q8):AC Tryz.prog 105 [.str lets,.int .i32 c] H (Ret (.int .i64 (ixl c)) H):=by
 refine AC.body (N:=187) [.tmp 4] Tryz.func105 rfl rfl rfl (Nat.le_of_ble_eq_true rfl) fun B hB=>?_
 refine Z2 ?_
 refine Zb ?_
 refine qm 160 (.bool (decide (c<128))) ?_ ?_
 ·refine Z8 ?_
  refine Zh ?_
  refine Zi ?_
  refine q7 rfl rfl (fun hg2=>?_) (fun hg2=>?_)
  ·refine Zl ?_
   refine Zn ?_
   exact Zx
  ·refine Zt ?_
   exact Zo
 refine Z1 ?_
 refine q5 rfl (fun hc=>?_) (fun hc=>?_)
 ·simp at hc
  refine Z9 ?_
  refine ao1 (by decide) (qh rfl (show IntKind.u8.wrap c=c by simp [IntKind.wrap,IntKind.signed,IntKind.bits];omega)) ?_
  refine q10 (q32 _ _ _) rfl (by decide) ?_
  refine Z4 ?_
  try dsimp only
  refine Z1 ?_
  rw [show Lib.indexByte lets.data.toList c.toNat.toUInt8=ixl c by rw [ixl,if_pos hc]]
  exact Zc
 have hc128:128≤c:=by simp at hc;omega
 rw [show ixl c = -1 by rw [ixl,if_neg (by omega)]]
 refine Zy ?_
 refine Z10 ?_
 refine q5 rfl (fun hc=>?_) (fun hc=>?_)
 ·refine qas ?_
  refine q7o (s:=lets) rfl (by decide) (by decide) (by decide) (by decide) (by decide) (by decide) (by decide) (fun _=>True) (fun _=>[]) trivial Sub.nil ?_ ?_
  ·intro pos r B' hp _ hB'
   rw [q7i] at hp
   have hlow:=qdn pos hp
   rw [q8d lets pos hlow]
   refine Z2 ?_
   refine Z11 ?_
   refine Z11 ?_
   refine Z12 ?_
   try dsimp only
   refine Z14 ?_
   refine q5 rfl (fun hc=>?_) (fun hc=>?_)
   ·simp at hc;omega
   ·refine Z1 ?_
    exact ⟨trivial,Y3,rfl⟩
  ·intro pos r hp _
   exact Z15
 ·refine Zy ?_
  refine q10 (q8a _ _) rfl (by decide) ?_
  refine Z16 ?_
  refine Zf ?_
  refine q5 rfl (fun hc=>?_) (fun hc=>?_)
  ·exact Z15
  ·have hv:Utf8.valid c=true:=by simpa using hc
   obtain ⟨h2,h4,hb⟩:=qbm hc128 hv
   obtain ⟨m,hm⟩:∃ m,(Utf8.encode c).data.toList.length=m+1:=⟨_,(Nat.succ_pred (by omega:(Utf8.encode c).data.toList.length≠0)).symm⟩
   have hsz:(Utf8.encode c).size=m+1:=by show (Utf8.encode c).data.size=m+1;rw [← Array.length_toList,hm]
   obtain ⟨bl,hbl,hbm⟩:∃ bl,(Utf8.encode c)[m]?=some bl∧bl∈(Utf8.encode c).data.toList:=by
    have hlt:m<(Utf8.encode c).size:=by omega
    refine ⟨(Utf8.encode c)[m],getElem?_pos (Utf8.encode c) m hlt,?_⟩
    rw [ByteArray.getElem_eq_getElem_data]
    exact Array.getElem_mem_toList _
   have hb128:=hb bl hbm
   have hlow:=qdn m (by omega)
   have hlm:=qii m (by omega)
   refine Zy ?_
   refine ao1 (by decide) (qge rfl) ?_
   refine Z18 ?_
   refine Z7 ?_
   refine Z19 ?_
   refine ao1 (by decide) (q81 (r:=(m:Int)) rfl rfl (by rw [hsz,show ((m+1:Nat):Int)-1=(m:Int) by omega];exact qb (by omega) (by omega))) ?_
   refine Z4 ?_
   refine Zy ?_
   refine Z4 ?_
   refine Z5 ?_
   refine Z1a ?_
   refine qz (G:=Unit) (fun _=>True) (fun _=>[(0,.str lets),(7,.str (Utf8.encode c)),(8,.int .i64 (m:Int)),(9,.int .i64 (m:Int))]) (fun _=>H++[]) (fun _=>0) () trivial Y3 (Fit.refl _ _) ?_
   rintro _ _
   refine Zy ?_
   refine Z6 ?_
   refine Z19 ?_
   refine Z1b ?_
   refine q5 rfl (fun hc=>?_) (fun hc=>?_)
   ·refine Z1d ?_
    refine Z1e ?_
    refine Z1f ?_
    refine aq0 2 rfl Ys (by decide) (fun _=>q4c rfl rfl (by omega) hlm) ?_
    refine Z1g ?_
    refine Z1h ?_
    refine aq0 5 rfl Ys (by decide) (fun _=>q4c rfl rfl (by omega) hbl) ?_
    refine aq0 6 rfl Ys (by decide) (fun _=>qjq rfl rfl) ?_
    refine Z1i ?_
    refine Z1 ?_
    refine q5 rfl (fun hc=>?_) (fun hc=>?_)
    ·refine Z1d ?_
     refine Z1e ?_
     refine Z1f ?_
     refine aq0 2 rfl Ys (by decide) (fun _=>q24 rfl rfl (qb (by omega) (by omega))) ?_
     refine aq0 3 rfl Ys (by decide) (fun _=>q8p (l:=m+1) rfl (.some rfl rfl) .none (by rw [q7i];omega) (Nat.le_refl _)) ?_
     refine Z1j ?_
     refine Z1k ?_
     refine aq0 6 rfl Ys (by decide) (fun _=>q4c rfl rfl (by omega) hbl) ?_
     refine q89 7 rfl Ys (by decide) (fun _=>V2.call (q32 (lets.extract (m+1) lets.size) (bl.toNat:Int) _) rfl) ?_
     refine aq0 8 rfl Ys (by decide) (fun _=>qn (v:=.int _ _) rfl) ?_
     refine Z1i ?_
     rw [show ((bl.toNat:Int).toNat.toUInt8)=bl by simp,qgv hb128]
     refine Z1l ?_
     refine q5 rfl (fun hc=>?_) (fun hc=>?_)
     ·exact Z15
     ·simp at hc
    ·simp at hc
     omega
   ·simp [q7i] at hc
    omega
theorem q4e (c:Int) (h0:0≤c) (h1:c≤1114111) (H:q8):AC Tryz.prog 89 [.str lets,.int .i32 c] H (Ret (.bool (q87 c)) H):=by
 refine AC.body (N:=9) [.tmp 4] Tryz.func89 rfl rfl rfl (Nat.le_of_ble_eq_true rfl) fun B hB=>?_
 refine Z1n ?_
 refine Z9 ?_
 refine q10 (q5p _ Yy Yy _) rfl (by decide) ?_
 refine Z1o ?_
 refine Zf ?_
 rw [← qlp h0]
 exact Zc
theorem qc4 (c:Int) (h0:0≤c) (h1:c≤1114111) (H:q8):AC Tryz.prog 88 [.int .i32 c] H (Ret (.bool (!q87 c)) H):=by
 refine AC.body (N:=6) [.tmp 2] Tryz.func88 rfl rfl rfl (Nat.le_of_ble_eq_true rfl) fun B hB=>?_
 refine Z1n ?_
 refine Zy ?_
 refine q10 (q4e _ Yy Yy _) rfl (by decide) ?_
 refine Z16 ?_
 refine Zf ?_
 exact Zc
theorem qjz {s:ByteArray} {k:Nat} (h:k<s.size):∃ b:UInt8,s[k]?=some b∧s.data.toList[k]?=some b∧s.get! k=b:=by
 refine ⟨s[k],getElem?_pos s k h,?_,?_⟩
 ·rw [Array.getElem?_toList];exact getElem?_pos s.data k h
 ·show s.get! k=_
  simp [ByteArray.get!,getElem!_pos,h]
  rfl
theorem ql9 {s:ByteArray} {k:Nat} {b:UInt8} (h:s.get! k=b):q87 ((Utf8.decode s k).1:Int)=qbj b∧(Utf8.decode s k).1≤1114111∧(qbj b=true→(Utf8.decode s k).2=1):=by
 by_cases hb:b.toNat<128
 ·have:=q8d s k (by rw [h];exact hb)
  rw [this,h]
  exact ⟨rfl,by simp only;omega,fun _=>rfl⟩
 ·have:=qbo s k (by rw [h];omega)
  have hn:qbj b=false:=by simp [qbj,q87];omega
  refine ⟨?_,this.2,fun h=>by rw [hn] at h;cases h⟩
  rw [hn]
  simp [q87]
  omega
theorem q5w (s:ByteArray) (H:q8):AC Tryz.prog 112 [.str s,.fn (.func 88) [] [],.bool true] H (Ret (.int .i64 (ixf (fun b=>!qbj b) s.data.toList)) H):=by
 refine AC.body (N:=21) [.tmp 6] Tryz.func112 rfl rfl rfl (Nat.le_of_ble_eq_true rfl) fun B hB=>?_
 refine Z5 ?_
 refine q6s ?_
 refine qas ?_
 refine q7o (s:=s) rfl (by decide) (by decide) (by decide) (by decide) (by decide) (by decide) (by decide) (fun k=>k≤s.size∧∀ b∈s.data.toList.take k,(!qbj b)=false) (fun _=>[(1,.fn (.func 88) [] []),(2,.bool true)]) ⟨Nat.zero_le _,by simp⟩ Y3 ?_ ?_
 ·rintro k r B' hp ⟨hk,hno⟩ hB'
  obtain ⟨b,h1,h2,h3⟩:=qjz hp
  obtain ⟨d1,d2,d3⟩:=ql9 h3
  generalize Utf8.decode s k=q at d1 d2 d3
  refine Z2 ?_
  refine Z11 ?_
  refine Z11 ?_
  refine Z12 ?_
  refine Z2 ?_
  refine Z1p ?_
  refine Z8 ?_
  refine qkx (qc4 (q.1:Int) (by omega) (by omega) _) rfl rfl (by decide) ?_
  refine Zi ?_
  refine ao1 (by decide) (qmc rfl rfl) ?_
  refine qc ?_
  rw [d1]
  refine Z1 ?_
  refine q5 rfl (fun hc=>?_) (fun hc=>?_)
  ·have hb:(!qbj b)=true:=by simpa using hc
   refine Zy ?_
   refine Zb ?_
   rw [q6t (p:=fun b=>!qbj b) h2 hb hno]
   exact Zc
  ·have hb:(!qbj b)=false:=by simpa using hc
   have hq:=d3 (by simpa using hb)
   refine Z1 ?_
   rw [hq]
   refine ⟨⟨by omega,?_⟩,Y3,rfl⟩
   rw [qe h2]
   intro y hy
   rcases List.mem_append.1 hy with h | h
   ·exact hno y h
   ·simp only [List.mem_singleton] at h
    subst h
    exact hb
 ·rintro k r hp ⟨hk,hno⟩
  have:k=s.size:=by omega
  subst this
  rw [← q3z,List.take_length] at hno
  rw [q6p (p:=fun b=>!qbj b) hno]
  exact Z15
theorem q5r (s:ByteArray) (H:q8):AC Tryz.prog 104 [.str s,.fn (.func 88) [] []] H (Ret (.int .i64 (ixf (fun b=>!qbj b) s.data.toList)) H):=by
 refine AC.body (N:=8) [.tmp 4] Tryz.func104 rfl rfl rfl (Nat.le_of_ble_eq_true rfl) fun B hB=>?_
 refine Z5 ?_
 refine Z7 ?_
 refine Z1p ?_
 refine q10 (q5w _ _) rfl (by decide) ?_
 exact Zd
theorem q4g (s:ByteArray) (H:q8):AC Tryz.prog 87 [.str s,.fn (.func 88) [] []] H (Ret (.bool (s.data.toList.any fun b=>!qbj b)) H):=by
 refine AC.body (N:=9) [.tmp 4] Tryz.func87 rfl rfl rfl (Nat.le_of_ble_eq_true rfl) fun B hB=>?_
 refine Z1n ?_
 refine Z7 ?_
 refine Z1p ?_
 refine q10 (q5r _ _) rfl (by decide) ?_
 refine Z1o ?_
 refine Zf ?_
 rw [← q8b]
 exact Zc
theorem qgh (s:ByteArray) (H:q8):AC Tryz.prog 68 [.str s] H (Ret (.bool (q5e s)) H):=by
 rw [show q5e s=(decide ((s.size:Int)≤16)&&!(s.data.toList.any fun b=>!qbj b)) by simp [q5e,List.all_eq_not_any_not]]
 refine AC.body (N:=11) [.tmp 2] Tryz.func68 rfl rfl rfl (Nat.le_of_ble_eq_true rfl) fun B hB=>?_
 refine Zg ?_
 refine qm 2 (.bool (decide ((s.size:Int)≤16)&&!(s.data.toList.any fun b=>!qbj b))) ?_ ?_
 ·refine Z6 ?_
  refine Z19 ?_
  refine Zh ?_
  refine Zi ?_
  refine q7 rfl rfl (fun hg3=>?_) (fun hg3=>?_)
  ·refine Z1q ?_
   refine qip rfl rfl (by decide) (V2.call (q4g _ _) rfl) ?_
   refine Z1r ?_
   refine Zn ?_
   exact Z1s
  ·refine Z1u ?_
   exact Zo
 exact Z1v
abbrev eI (i:Int):List AV:=[.int .i64 i]
theorem q71 (n a b:Int) (H:q8):AC Tryz.prog 67 [.int .i64 n,.int .i64 a,.int .i64 b] H (Ret (.bool (decide (a≤n)&&decide (n≤b))) H):=by
 refine AC.body (N:=15) [.tmp 6] Tryz.func67 rfl rfl rfl (Nat.le_of_ble_eq_true rfl) fun B hB=>?_
 refine Zg ?_
 refine qm 6 (.bool (decide (a≤n)&&decide (n≤b))) ?_ ?_
 ·refine Z1w ?_
  refine Z1x ?_
  refine q7 rfl rfl (fun hg3=>?_) (fun hg3=>?_)
  ·refine Zj ?_
   refine Zj ?_
   refine Zw ?_
   exact Zo
  ·refine Z1u ?_
   exact Zo
 exact Z1v
theorem q9s (n a b:Int) (H:q8):AC Tryz.prog 69 [.int .i64 n,.int .i64 a,.int .i64 b] H (Ret (.bool (decide (a≤n)&&decide (n≤b))) H):=by
 refine AC.body (N:=15) [.tmp 6] Tryz.func69 rfl rfl rfl (Nat.le_of_ble_eq_true rfl) fun B hB=>?_
 refine Zg ?_
 refine qm 6 (.bool (decide (a≤n)&&decide (n≤b))) ?_ ?_
 ·refine Z1w ?_
  refine Z1x ?_
  refine q7 rfl rfl (fun hg3=>?_) (fun hg3=>?_)
  ·refine Zj ?_
   refine Zj ?_
   refine Zw ?_
   exact Zo
  ·refine Z1u ?_
   exact Zo
 exact Z1v
theorem qf6 (s:Spec) (H:q8):AC Tryz.prog 44 [.agg (qga s)] H (Ret (.bool (qq s)) H):=by
 refine AC.body (N:=49) [.tmp 2] Tryz.func44 rfl rfl rfl (Nat.le_of_ble_eq_true rfl) fun B hB=>?_
 refine Z2 ?_
 refine Z1y ?_
 refine Z1m ?_
 refine Z1z ?_
 refine Z1 ?_
 refine qm 3 (.bool (qfu s)) ?_ ?_
 ·refine Z22 ?_
  refine q10 (q71 _ _ _ _) rfl (by decide) ?_
  refine Zi ?_
  refine q7 rfl rfl (fun hg3=>?_) (fun hg3=>?_)
  ·refine Z24 ?_
   refine Z25 ?_
   refine Z26 ?_
   refine q7 rfl rfl (fun hg8=>?_) (fun hg8=>?_)
   ·refine Z24 ?_
    refine Z25 ?_
    refine Zn ?_
    exact qc (Out.mk (by (refine congrArg AV.bool ?_;(simp only [qfu] at *;(simp_all;done)))) Y5)
   ·refine Z1u ?_
    exact Z27
  ·refine Z1t ?_
   refine Z28 ?_
   refine Z1u ?_
   exact Z27
 refine Z1 ?_
 refine qm 4 (.bool (qho s)) ?_ ?_
 ·refine Z20 ?_
  refine Z29 ?_
  refine Zi ?_
  refine q7 rfl rfl (fun hg2=>?_) (fun hg2=>?_)
  ·refine Z2b ?_
   refine Z2d ?_
   refine Z2a ?_
   refine Zn ?_
   exact Z2e
  ·refine Z24 ?_
   refine Z2f ?_
   refine Z28 ?_
   refine q7 rfl rfl (fun hg7=>?_) (fun hg7=>?_)
   ·refine Z2b ?_
    refine Z2a ?_
    refine Zn ?_
    exact Z2e
   ·refine Z24 ?_
    refine Z2f ?_
    refine Zs ?_
    exact qc (Out.mk (by (refine congrArg AV.bool ?_;(simp only [qho] at *;(simp_all;omega)))) Y5)
 refine Z1 ?_
 refine qm 2 (.bool (qq s)) ?_ ?_
 ·refine Zi ?_
  refine Zi ?_
  refine q7 rfl rfl (fun hg1=>?_) (fun hg1=>?_)
  ·refine q12 rfl rfl (by decide) (qf (v:=.bool _) rfl) ?_
   refine Z26 ?_
   refine q7 rfl rfl (fun hg4=>?_) (fun hg4=>?_)
   ·refine Z23 ?_
    refine q12 rfl rfl (by decide) (qp (v:=.str _) rfl (lk rfl rfl) rfl rfl rfl) ?_
    refine qip rfl rfl (by decide) (V2.call (qgh _ _) rfl) ?_
    refine Z26 ?_
    refine q7 rfl rfl (fun hg9=>?_) (fun hg9=>?_)
    ·refine Z24 ?_
     refine qip rfl rfl (by decide) (V2.call (q9s _ _ _ _) rfl) ?_
     refine Z26 ?_
     refine q7 rfl rfl (fun hg14=>?_) (fun hg14=>?_)
     ·refine Z24 ?_
      refine Z25 ?_
      refine Zn ?_
      exact Z2g
     ·refine Z1u ?_
      exact qc (Out.mk (by (refine congrArg AV.bool ?_;(simp only [qq] at *;(simp_all;omega)))) Y5)
    ·refine Z1t ?_
     refine Z28 ?_
     refine Z1u ?_
     exact Z2g
   ·refine Z1t ?_
    refine Z2h ?_
    refine Z28 ?_
    refine Z1u ?_
    exact Z2g
  ·refine Zp ?_
   refine Z2h ?_
   refine Z2h ?_
   refine Z28 ?_
   refine Z1u ?_
   exact Z2g
 exact Z1v
structure Asks3 where
 n:Int
 c:Int
 g:Int
def qh7 (s:Spec):List Value:=[.int .i64 s.nodes,.int .i64 s.cores,.int .i64 s.gpus,.string s.tag,.bool s.whole,.int .i64 s.long,.int .i64 s.prio]
theorem qei (a b:Spec) (w:World):(Op.equalIn 10000 23 (.agg (qh7 a).toArray) (.agg (qh7 b).toArray)).run Tryz.prog w = .ok (decide (a=b)) w:=by
 have hS:Tryz.prog.underlying 23=some (.struct (Tryz.prog.fieldsOf 23)):=by kernel_rfl
 have hp:Tryz.prog.stoodInHeld 23=false:=by kernel_rfl
 rw [show (10000:Nat)=9999+1 from rfl,run_equalIn_agg w 9999 23 _ _ hS hp]
 have u3:=Tryz.underlying3
 have a3:=Tryz.isAgg3
 have z3:=Tryz.sizeOf3
 simp only [qh7,Program.fieldsOf,Tryz.underlying23]
 go_simp
 have ht:a.tag.toList=b.tag.toList↔a.tag=b.tag:=by have:=qh4 a.tag b.tag;rw [Bool.eq_iff_iff] at this;simpa using this
 simp only [ht]
 cases a;cases b
 simp only [Spec.mk.injEq]
 (repeat' split)<;>simp_all
theorem q7f {P:Program} {N:Nat} {env:Env} {H:q8} {ty:TypeId} {t e:TypeId} {x y:Operand} {id g i j m n:Nat} {k:IntKind} {sz:Nat} {agg:Bool} {o:AObj} [ArI P t m e] [TyI P e agg sz] (hx:aev env x = .pt id g i j) (hid:H[id]?=some o) (hg:o.gen=g)
  (hy:aev env y = .int k (n:Int)) (h1:n<m):V1 P N (.indexAddr t x y) ty env H (.pt id g i (j+n * sz)):=q2g (agg:=agg) (e:=e) hx hid hg hy (by omega) (by omega)
theorem p64 {k:Nat} (h:k<64):2 ^ k<18446744073709551616:=Nat.pow_lt_pow_right (a:=2) (n:=64) (by decide) h
def KD:Know:=⟨3,Lib.deBruijn64tab.map fun n:Nat=>Value.int .u8 (n:Int)⟩
abbrev q3d (i:Int):List AV:=[.int .i64 i]
theorem qa5 (n:Nat) (l:List Int):∀ r∈l.map q3d,AV.bels n r=true:=q2s (e:=q3d) (fun _=>rfl) l
theorem qhm (l:List Int):∀ r∈l.map q3d,r.length=1:=q46 (e:=q3d) (n:=1) (fun _=>rfl) l
theorem qi2 (n:Nat) (w:Nat→Nat):AV.bels n (eWn w)=true:=by rw [AV.bels_iff];intro v hv;simp only [eWn,List.mem_map] at hv;obtain ⟨i,_,rfl⟩:=hv;rfl
theorem qgo (w:Nat→Nat):(eWn w).length=4:=by simp [eWn]
theorem eW0 (l:List Int):eWn (wd (qa6 l 0))=[.int .u64 0,.int .u64 0,.int .u64 0,.int .u64 0]:=by
 rw [qg2];simp [eWn,qk0,List.range_succ]
def pof (l:List Int):Nat→Nat:=wd (qa6 l (okn l))
theorem qld (l:List Int) (hl:l.length≤9223372036854775807) (H:q8):AC Tryz.prog 56 [.pl (l.map q3d)] H (Ret (.tup [.agg (eWn (pof l)),.bool (sok l)]) H):=by
 refine AC.body (N:=34) [.cell 2 95,.tmp 3] Tryz.func56 rfl rfl rfl (Nat.le_of_ble_eq_true rfl) fun B hB=>?_
 refine Z2 ?_
 refine Z2i ?_
 refine Z1m ?_
 refine Z2j ?_
 refine Z2 ?_
 refine Z2i ?_
 refine qc ?_
 try dsimp only [put,List.length_cons,List.length_nil,Nat.reduceAdd,List.cons_append,List.nil_append]
 refine Z5 ?_
 refine Z2l ?_
 refine Z2o ?_
 refine Z1a ?_
 refine qz (G:=Nat) (fun k=>k≤l.length∧∀ i,i<k→okB l i=true) (fun k=>[(2,.pt (Lid H.length 0) 0 0 0),(4,.pt (Lid H.length 1) 0 0 0),(5,.int .i64 (qgm l k)),(8,.pl (l.map q3d)),(9,.int .i64 (l.length:Int)),(10,.int .i64 (k:Int))]) (fun k=>H++[⟨0,4,[[.int .u64 0,.int .u64 0,.int .u64 0,.int .u64 0]]⟩,⟨0,4,[eWn (wd (qa6 l k))]⟩]) (fun k=>l.length-k) 0 ⟨Nat.zero_le _,fun i hi=>by omega⟩ Y3 (.inl (by rw [eW0])) ?_
 rintro k ⟨hk,hno⟩
 refine Z2p ?_
 refine q5 rfl (fun hc=>?_) (fun hc=>?_)
 ·have hlt:k<l.length:=by simpa using hc
  obtain ⟨x,hx,hxl⟩:=q1n hlt
  have hr:=qv q3d hx
  have hok:=qif hx hno
  refine Z2r ?_
  refine Z2s ?_
  refine Zb ?_
  refine qm 20 (.bool (!okB l k)) ?_ ?_
  ·refine Z1w ?_
   refine Zh ?_
   refine Zi ?_
   refine q7 rfl rfl (fun hg3=>?_) (fun hg3=>?_)
   ·refine Z2b ?_
    refine Zm ?_
    exact qc (Out.mk (by (refine congrArg AV.bool ?_;(rw [hok] at *;simp only [Bool.not_not] at *;(simp_all;done)))) Y5)
   ·refine Zj ?_
    refine Z2t ?_
    refine Zr ?_
    exact qc (Out.mk (by (refine congrArg AV.bool ?_;(rw [hok] at *;simp only [Bool.not_not] at *;(simp_all;omega)))) Y5)
  refine Z1 ?_
  refine q5 rfl (fun hc=>?_) (fun hc=>?_)
  ·refine Z2v ?_
   refine Z2w ?_
   refine Z1m ?_
   refine Z2x ?_
   refine Z1 ?_
   rw [qha hlt Yt,show wd (qa6 l k)=pof l by rw [pof,qln hlt hno Yt]]
   exact Z2y
  ·have hokk:okB l k=true:=by simpa using hc
   obtain ⟨h0,h256⟩:=q3p hx hokk
   obtain ⟨n,rfl⟩:∃ n:Nat,x=n:=⟨x.toNat,by omega⟩
   have hn4:n / 64<4:=by omega
   have hp:2 ^ (n % 64)<18446744073709551616:=p64 (by omega)
   have hcell:(eWn (wd (qa6 l k)))[0+n / 64 * 1]?=some (.int .u64 ((wd (qa6 l k) (n / 64):Nat):Int)):=by rw [Nat.zero_add,Nat.mul_one];exact qkg _ hn4
   have hlast:qgm l (k+1)=(n:Int):=by rw [qgm,if_neg (by omega),Nat.add_sub_cancel,hx];rfl
   have qf8:(eWn (wd (qa6 l k))).take (0+n / 64 * 1)++[AV.int .u64 ((wd (qa6 l k) (n / 64) ||| 2 ^ (n % 64):Nat):Int)]++(eWn (wd (qa6 l k))).drop (0+n / 64 * 1+1)=eWn (wd (qa6 l (k+1))):=by
    rw [Nat.zero_add,Nat.mul_one,qjw _ hn4,qfj hx]
    refine qfk fun j _=>?_
    rw [qlj]
    split<;>simp_all
   refine Zy ?_
   refine Zb ?_
   refine q9r mixed (some 9) 1 ?_
   refine Z2z ?_
   refine aq0 1 rfl Ys (by decide) (fun _=>qmu (r:=((n / 64:Nat):Int)) rfl rfl (by omega) (qb (n:=((n / 64:Nat):Int)) (by omega) (by omega))) ?_
   refine aqr 2 rfl Ys (by decide) (fun G hG=>q7f rfl (lk rfl hG) rfl rfl hn4) ?_
   refine aqr 3 rfl Ys (by decide) (fun G hG=>qp (v:=.int .u64 _) rfl (lk rfl hG) rfl rfl hcell) ?_
   refine Z1h ?_
   refine aq0 5 rfl Ys (by decide) (fun _=>qkd (r:=((n % 64:Nat):Int)) rfl rfl (by omega) rfl) ?_
   refine aq0 6 rfl Ys (by decide) (fun _=>qmp (r:=((2 ^ (n % 64):Nat):Int)) rfl rfl (by omega) (by rw [show min ((n % 64:Nat):Int).toNat IntKind.u64.bits=n % 64 by show min (n % 64) 64=_;omega,Int.one_mul];rw [show ((2:Int) ^ (n % 64))=((2 ^ (n % 64):Nat):Int) by simp];exact q4d _ hp)) ?_
   refine aq0 7 rfl Ys (by decide) (fun _=>qmy (r:=((wd (qa6 l k) (n / 64) ||| 2 ^ (n % 64):Nat):Int)) rfl rfl (qlg _ _ (qma _ _) hp)) ?_
   refine aqr 8 rfl Ys (by decide) (fun G hG=>q7f rfl (lk rfl hG) rfl rfl hn4) ?_
   refine aqs 9 rfl Ys Yi Yw (q49 (sz:=1) (v:=.int .u64 _) (r':=eWn (wd (qa6 l (k+1)))) rfl rfl rfl rfl rfl rfl rfl rfl (by show _≤4;omega) qf8) ?_
   refine Z30 ?_
   try dsimp only [put,List.set_cons_zero,List.set_cons_succ]
   refine Z2 ?_
   refine Z31 ?_
   refine Z32 ?_
   refine ⟨k+1,by omega,⟨by omega,fun i hi=>?_⟩,by rw [hlast];exact Y3,.refl _ _⟩
   rcases Nat.lt_or_eq_of_le (Nat.le_of_lt_succ hi) with h | h
   ·exact hno i h
   ·subst h;exact hokk
 ·have:k=l.length:=by simp at hc;omega
  subst this
  refine Z2v ?_
  refine Z2w ?_
  refine Z1m ?_
  refine Z2x ?_
  refine Z1 ?_
  rw [qdb hno,show wd (qa6 l l.length)=pof l by rw [pof,qjh hno]]
  exact Z2y
end Go.Av
namespace Go.Av
section
variable {P : Program} {N : Nat} {B : Base} {ops : Array Oper} {a : Option Nat} {C : q8 → Prop} {F : Env → q8 → Prop} {Q : q4j}
variable {fuel : Nat} {listed : Array Bool} {env : Env} {H H0 L : q8} {op : Op} {ty : TypeId} {pos : String} {after : Array Edge} {v : AV} {id : Nat} {l : List Oper}
end
end Go.Av
namespace Go.Av
open Go.Proofs
theorem qav (l:List Int) (hl:l.length≤9223372036854775807) (H:q8):AC Tryz.prog 32 [.pl (l.map q3d)] H (Ret (.bool (sok l)) H):=by
 refine AC.body (N:=11) [.tmp 2] Tryz.func32 rfl rfl rfl (Nat.le_of_ble_eq_true rfl) fun B hB=>?_
 refine Z1n ?_
 refine Z2l ?_
 refine q10 (qld _ Yy _) rfl (by decide) ?_
 refine Z34 ?_
 refine Z35 ?_
 refine Z2i ?_
 refine Z2w ?_
 refine Z1m ?_
 try dsimp only [List.length_nil,put,List.nil_append,List.set_cons_zero]
 refine Z2 ?_
 refine Zi ?_
 refine Zf ?_
 exact Zc
theorem qke {α:Type} {a b:List α} {k:Nat} {x:α} (hx:a[k]?=some x) (hy:b[k]?=some x) (h:a.take k=b.take k):a.take (k+1)=b.take (k+1):=by
 rw [qe hx,qe hy,h]
theorem qk5 {α:Type} {a b:List α} (hn:a.length=b.length) (h:a.take a.length=b.take a.length):a=b:=by
 rw [List.take_length,hn,List.take_length] at h;exact h
theorem qm9 {α:Type} {a b:List α} {k:Nat} {x y:α} (hx:a[k]?=some x) (hy:b[k]?=some y) (h:x≠y):a≠b:=by
 rintro rfl;rw [hx] at hy;exact h (Option.some.inj hy)
theorem q8y (a b:List Int) (ha:a.length≤1000000) (H:q8):AC Tryz.prog 25 [.pl (a.map q3d),.pl (b.map q3d)] H (Ret (.bool (decide (a=b))) H):=by
 refine AC.body (N:=26) [.tmp 4] Tryz.func25 rfl rfl rfl (Nat.le_of_ble_eq_true rfl) fun B hB=>?_
 refine Z1n ?_
 refine Z2l ?_
 refine Z2m ?_
 refine Z36 ?_
 refine Z37 ?_
 refine Za ?_
 refine q5 rfl (fun hc=>?_) (fun hc=>?_)
 ·have hn:a.length≠b.length:=by simp at hc;omega
  rw [show decide (a=b)=false by simp;intro e;exact hn (congrArg List.length e)]
  exact Z38
 have hn:a.length=b.length:=by simp at hc;omega
 refine Z5 ?_
 refine Z1a ?_
 refine qz (G:=Nat) (fun k=>k≤a.length∧a.take k=b.take k) (fun k=>[(0,.pl (a.map q3d)),(1,.pl (b.map q3d)),(5,.int .i64 (k:Int))]) (fun _=>H++[]) (fun k=>a.length-k) 0 ⟨Nat.zero_le _,by simp⟩ Y3 (Fit.refl _ _) ?_
 rintro k ⟨hk,he⟩
 refine Zy ?_
 refine Z36 ?_
 refine Z1b ?_
 refine q5 rfl (fun hc=>?_) (fun hc=>?_)
 ·have hlt:k<a.length:=by simpa using hc
  obtain ⟨x,hx,_⟩:=q1n hlt
  obtain ⟨y,hy,_⟩:=q1n (l:=b) (k:=k) (by omega)
  have hr:=qv q3d hx
  have hr1:=qv q3d hy
  refine Z1d ?_
  refine Z39 ?_
  refine Z1f ?_
  refine Z3a ?_
  refine aqp 3 rfl Ys (by decide) (fun G=>q21 (v:=.int _ _) rfl hr rfl) ?_
  refine Z3b ?_
  refine Z1k ?_
  refine Z3c ?_
  refine aqp 7 rfl Ys (by decide) (fun G=>q21 (v:=.int _ _) rfl hr1 rfl) ?_
  refine aq0 8 rfl Ys (by decide) (fun _=>qjq rfl rfl) ?_
  refine Z1i ?_
  refine Z1 ?_
  refine q5 rfl (fun hc=>?_) (fun hc=>?_)
  ·rw [show decide (a=b)=false by simp;exact qm9 hx hy Yt]
   exact Z38
  ·have hxy:x=y:=by simpa using hc
   subst hxy
   refine Zy ?_
   refine Z31 ?_
   refine Zb ?_
   exact ⟨k+1,by omega,⟨by omega,qke hx hy he⟩,Y3,.refl _ _⟩
 ·have:k=a.length:=by simp at hc;omega
  subst this
  rw [show decide (a=b)=true by simp;exact qk5 hn he]
  exact Z38
end Go.Av
namespace Go.Av
section
variable {P : Program} {N : Nat} {B : Base} {ops : Array Oper} {a : Option Nat} {C : q8 → Prop} {F : Env → q8 → Prop} {Q : q4j}
variable {op : Op} {ty : TypeId} {pos : String} {after : Array Edge}
inductive Anc (ops : Array Oper) (listed : Array Bool) (i : Nat) : Nat → Prop
 | here:Anc ops listed i i
 | step {m:Nat} {om:Oper} {e:Edge}:listed.getD m true=false→ops[m]?=some om→e∈om.after→Region.binds .any e=true→Anc ops listed i e.on→Anc ops listed i m
def qls (ops:Array Oper) (a:Option Nat) (i:Nat) (listed:Array Bool):Prop:=∀ a',a=some a'→∀ oa,ops[a']?=some oa→∃ e∈oa.after,Region.binds .any e=true∧Anc ops listed i e.on
theorem qaf {listed:Array Bool} {m:Nat} (h1:listed.getD m false=true) (h2:listed.getD m true=false):False:=by
 rcases Nat.lt_or_ge m listed.size with h' | h'
 ·simp [h'] at h1 h2;rw [h1] at h2;cases h2
 ·simp [Array.getElem?_eq_none h'] at h1
theorem Anc.put {listed:Array Bool} {i j m:Nat} {oj:Oper} (hoj:ops[j]?=some oj) (hall:∀ e∈oj.after,Region.binds .any e=true→listed.getD e.on false=true) (hnot:∀ e∈oj.after,Region.binds .any e=true→e.on≠i) (h:Anc ops listed i m):Anc ops (listed.setIfInBounds j true) i m:=by
 induction h with
 | here=>exact .here
 | @step m om e hm hom he hb h ih =>
  refine .step ?_ hom he hb ih
  have:j≠m:=by
   rintro rfl
   rw [hoj] at hom
   obtain rfl:=Option.some.inj hom
   have h1:=hall e he hb
   have h2:=hnot e he hb
   cases h with
   | here=>exact h2 rfl
   | step h3=>exact qaf h1 h3
  rw [getD_set_ne true this];exact hm
theorem q9l {i:Nat} {oi:Oper} {v:AV} (hi:ops[i]?=some oi) (hdi:∀ t,oi.dst=some t→DN t N) (hai:a≠some i) :
  ∀ (fuel:Nat) (listed:Array Bool) (env:Env) (H:q8),qls ops a i listed→listed.size=ops.size →
   (∀ j oj,ops[j]?=some oj→j≠i→listed.getD j true=false→(∀ e∈oj.after,Region.binds .any e=true→e.on≠i)→oi.apart ops oj=true) →
   i∈Region.ready .any ops listed→Yet a listed→Quiet P N ops C oi env v →
   AAny P N B ops a C F fuel (listed.setIfInBounds i true) (Av.put env oi.dst v) H→AAny P N B ops a C F (fuel+1) listed env H:=by
 have qf8:∀ (listed:Array Bool) (j:Nat),a≠some j→Yet a (listed.setIfInBounds j true)=Yet a listed:=fun listed j hj=>by
  unfold Yet
  cases a with
  | none=>rfl
  | some a=>simp only;rw [getD_set_ne true (fun e=>hj (by rw [e]))]
 intro fuel
 induction fuel with
 | zero =>
  intro listed env H _ hsz _ hr ha hq h
  have hC:C H:=h.1 Yl
  refine ⟨fun _=>hC,fun h0=>Yn,fun j hj=>?_⟩
  by_cases hji:j=i
  ·subst hji;exact hq.at_ hi hdi hC h
  ·have:=ready_mono hj hji
   rw [h.2.1] at this
   cases this
 | succ fuel ih =>
  intro listed env H hwait hsz hfree hr ha hq h
  have hC:C H:=h.1 Yl
  refine ⟨fun _=>hC,fun h0=>Yn,fun j hj=>?_⟩
  by_cases hji:j=i
  ·subst hji;exact hq.at_ hi hdi hC h
  ·have h1:=h.2.2 j (ready_mono hj hji)
   obtain ⟨hjun,oj,hoj,hall⟩:=mem_ready.1 hj
   have hnot:∀ e∈oj.after,Region.binds .any e=true→e.on≠i:=fun e he hb heq=>by
    have h1:=hall e he hb
    have h0:=(mem_ready.1 hr).1
    rw [heq] at h1
    rcases Nat.lt_or_ge i listed.size with h' | h'
    ·simp [h'] at h0 h1;rw [h0] at h1;cases h1
    ·simp [Array.getElem?_eq_none h'] at h1
   have hja:a≠some j:=by
    rintro rfl
    obtain ⟨e,he,hb,hm⟩:=hwait j rfl oj hoj
    generalize hx:e.on=x at hm
    cases hm with
    | here=>exact hnot e he hb hx
    | step h3=>exact qaf (hall e he hb) (by rw [hx];exact h3)
   have hwait':qls ops a i (listed.setIfInBounds j true):=by
    intro a' ha' oa hoa
    obtain ⟨e,he,hb,hm⟩:=hwait a' ha' oa hoa
    exact ⟨e,he,hb,hm.put hoj hall hnot⟩
   have hap:=hfree j oj hoj hji hjun hnot
   obtain ⟨p1,p2,p3⟩:=Oper.apart_spec hap
   have hfree':∀ k ok,ops[k]?=some ok→k≠i→(listed.setIfInBounds j true).getD k true=false →
     (∀ e∈ok.after,Region.binds .any e=true→e.on≠i)→oi.apart ops ok=true:=fun k ok hk hki hun hno=>by
    refine hfree k ok hk hki ?_ hno
    by_cases hjk:j=k
    ·subst hjk;exact hjun
    ·rw [getD_set_ne true hjk] at hun;exact hun
   obtain ⟨o,ho,hd,h2⟩:=h1
   rw [hoj] at ho
   obtain rfl:=Option.some.inj ho
   have step:∀ x H',AAny P N B ops a C F fuel ((listed.setIfInBounds i true).setIfInBounds j true) (Av.put (Av.put env oi.dst v) oj.dst x) H'→AAny P N B ops a C F (fuel+1) (listed.setIfInBounds j true) (Av.put env oj.dst x) H':=by
    intro x H' hx
    refine ih (listed.setIfInBounds j true) (Av.put env oj.dst x) H' hwait' (by simpa using hsz) hfree' (ready_mono hr (Ne.symm hji)) (by rw [qf8 _ _ hja];exact ha) (hq.put p3 fun t ht=>(hd t ht).2) ?_
    rw [Array.setIfInBounds_comm _ _ hji]
    exact AAny.eqv _ _ _ _ _ (Eqv.comm env v x p2) hx
   refine ⟨oj,hoj,hd,?_⟩
   rcases h2 with ⟨k1,V,k2,k3⟩ | ⟨k1,k2⟩
   ·exact .inl ⟨k1.put p1,V,by rw [q6k ops oj env oi.dst v p1 fun t ht=>(hdi t ht).2] at k2;exact k2,fun x H' hx=>step x H' (k3 x H' hx)⟩
   ·exact .inr ⟨k1.put p1,step _ _ k2⟩
def qm2 (ops:Array Oper) (listed:Array Bool) (i:Nat):Nat→List Nat→Bool
 | m,[]=>m == i
 | m,x :: l=>!(listed.getD m true)&&(match ops[m]? with
   | some om=>om.after.toList.any fun e=>Region.binds .any e&&e.on == x
   | none=>false)&&qm2 ops listed i x l
theorem qb9 {listed:Array Bool} {i:Nat}:∀ (l:List Nat) (m:Nat),qm2 ops listed i m l=true→Anc ops listed i m
 | [],m,h=>by simp only [qm2,beq_iff_eq] at h;subst h;exact .here
 | x :: l,m,h=>by
  simp only [qm2,Bool.and_eq_true,Bool.not_eq_true'] at h
  obtain ⟨⟨h1,h2⟩,h3⟩:=h
  cases hm:ops[m]? with
  | none=>rw [hm] at h2;cases h2
  | some om =>
   rw [hm] at h2
   simp only [List.any_eq_true,Bool.and_eq_true,beq_iff_eq] at h2
   obtain ⟨e,he,hb,ho⟩:=h2
   subst ho
   exact .step h1 hm (by simpa using he) hb (qb9 l _ h3)
def qh8 (ops:Array Oper) (listed:Array Bool) (a:Nat) (l:List Nat) (i:Nat):Bool :=
 (Region.ready .any ops listed).contains i&&Region.free .any ops listed i&&decide (listed.size=ops.size) &&
  (i != a&&!(listed.getD a true)&&qm2 ops listed i a l)
theorem qno {fuel:Nat} {listed:Array Bool} {env:Env} {H H0:q8} {v:AV} {d a:Nat} {L0:q8} (l:List Nat) (i:Nat) (hi:ops[i]?=some ⟨some d,op,ty,pos,after,none⟩) (hB:qh8 ops listed a l i=true) (hd:DN d N) (h1:∀ G,V1 P N op ty (renv ⟨some d,op,ty,pos,after,none⟩ env) (H0++(L0++G)) v)
  (h:AAny P N B ops (some a) (Pre H0 L0) F fuel (listed.setIfInBounds i true) ((d,v) :: env) H):AAny P N B ops (some a) (Pre H0 L0) F (fuel+1) listed env H:=by
 simp only [qh8,Bool.and_eq_true,decide_eq_true_eq,bne_iff_ne,Bool.not_eq_true'] at hB
 obtain ⟨⟨⟨h2,h3⟩,h5⟩,⟨h6,h7⟩,h8⟩:=hB
 refine q9l hi Yo (fun e=>h6 (Option.some.inj e).symm) fuel listed env H ?_ h5 (Region.free_spec hi h3) (by simpa using h2) h7 (.inl ⟨rfl,by rintro H ⟨G,rfl⟩;exact (h1 G).toV2 _ _ _ _⟩) h
 intro a' ha oa hoa
 obtain rfl:=Option.some.inj ha
 cases qb9 _ _ h8 with
 | here=>exact absurd rfl h6
 | step h9 h10 h11 h12 h13 =>
  rw [hoa] at h10
  obtain rfl:=Option.some.inj h10
  exact ⟨_,h11,h12,h13⟩
end
end Go.Av
namespace Go.Av
open Go.Proofs
theorem qe3 {H:q8} {id:Nat} {o:AObj} (h:H[id]?=some o):H.set id o=H:=by
 obtain ⟨h1,h2⟩:=List.getElem?_eq_some_iff.1 h
 subst h2
 exact List.set_getElem_self h1
theorem qe6 {P:Program} {B:Base} {rs:List ResultVar} {R:AOut→q8→Prop} {vs:List AV} {v:AV} {env:Env} {H L M:q8} {args:List AV} (hB:Begun B H args) (h:ResVs P env (M++L) rs vs) (hv:ql1 vs=v) (hR:R (.ret v) M) (hb:v.bel H.length=true) (hl:M.length=H.length) (hM:HBel H.length M):Ends P B rs R .ret env (M++L) :=
 ⟨vs,M,h,.inr ⟨L,rfl,by rw [hB.len,hl];exact Nat.le_refl _,by rw [hv,hl];exact hb,by rw [hl];exact hM⟩,by rw [hv];exact hR⟩
theorem q2e (l:List UInt8):∀ r∈l.map q1o,r.length=1:=q46 (e:=q1o) (n:=1) (fun _=>rfl) l
theorem ql0 (x:Nat) (h:x<256):IntKind.u8.wrap (x:Int)=(x:Int):=by rw [IntKind.wrap_u8];omega
theorem q8g {x:Nat} (h:x<256):q1o (UInt8.ofNat x)=[.int .u8 (x:Int)]:=by unfold q1o;rw [q9y h]
theorem qw (n:Nat) (l:List UInt8):∀ r∈l.map q1o,AV.bels n r=true:=q2s (e:=q1o) (fun _=>rfl) l
theorem qmh:∀ n:Nat,n<256→IntKind.u8.wrap ((BitVec.ofInt IntKind.u8.bits (n:Int) ||| BitVec.ofInt IntKind.u8.bits (128:Int)).toNat:Int)=((n % 128+128:Nat):Int):=by decide +kernel
set_option maxHeartbeats 0 in
theorem q1v (bs:List UInt8) (n:Nat) (hn:n<18446744073709551616) (H:q8) (id g:Nat) (hbs:bs.length≤1000000) (hid:H[id]?=some ⟨g,1,bs.map q1o⟩):AC Tryz.prog 48 [.sl id g 0 bs.length bs.length,.int .u64 (n:Int)] H
  (Ret (.sl id (g+(q19 n).length) 0 (bs.length+(q19 n).length) (bs.length+(q19 n).length)) (H.set id ⟨g+(q19 n).length,1,(bs++q19 n).map q1o⟩)):=by
 have hlt:id<H.length:=(List.getElem?_eq_some_iff.1 hid).1
 have hl10:=q1i hn
 refine AC.body (N:=20) [.tmp 4] Tryz.func48 rfl rfl rfl (Nat.le_of_ble_eq_true rfl) fun B hB=>?_
 refine Z3g ?_
 refine qz (G:=List UInt8×Nat) (fun s=>s.1++q19 s.2=q19 n∧s.2<18446744073709551616) (fun s=>[(0,.sl id (g+s.1.length) 0 (bs.length+s.1.length) (bs.length+s.1.length)),(1,.int .u64 (s.2:Int))]) (fun s=>H.set id ⟨g+s.1.length,1,(bs++s.1).map q1o⟩++[]) (fun s=>s.2) ([],n) ⟨rfl,hn⟩ Y3 (.inl (by rw [List.length_nil,Nat.add_zero,List.append_nil bs,qe3 hid])) ?_
 rintro ⟨pre,m⟩ ⟨hpre,hm⟩
 simp only at hpre hm ⊢
 have hpl:pre.length≤10:=by
  have:=congrArg List.length hpre
  rw [List.length_append] at this
  omega
 have hF:(H.set id ⟨g+pre.length,1,(bs++pre).map q1o⟩)[id]?=some ⟨g+pre.length,1,(bs++pre).map q1o⟩:=List.getElem?_set_self hlt
 refine Z3h ?_
 refine qc ?_
 have htake:((bs++pre).map q1o).take (bs.length+pre.length)=(bs++pre).map q1o:=List.take_of_length_le (by simp)
 refine Z1 ?_
 refine q5 rfl (fun hc=>?_) (fun hc=>?_)
 ·have h1:¬ m<128:=by simp at hc;omega
  refine Z3k ?_
  refine ao1 (by decide) (qh (r:=((m % 256:Nat):Int)) rfl (by rw [IntKind.wrap_u8];omega)) ?_
  refine ao1 (by decide) (qmy (r:=((m % 128+128:Nat):Int)) rfl rfl (by rw [qmh _ (by omega)];congr 2;omega)) ?_
  refine ao2 Yq (q4k (sz:=1) (v:=.int .u8 ((m % 128+128:Nat):Int)) rfl (by decide) (by decide) rfl rfl rfl rfl rfl) ?_
  refine ao2 Yq (q3m (bs.length+pre.length+1) rfl hF rfl rfl (Src.pl (ys:=[q1o (UInt8.ofNat (m % 128+128))]) Yg (q2e [_])) rfl Yv Yu Yu Yv) ?_
  refine Z3m ?_
  refine Z3n ?_
  rw [List.set_set,htake]
  refine Zy ?_
  refine ao1 (by decide) (ql5 (r:=((m / 128:Nat):Int)) rfl rfl (by omega) (by rw [show ((2:Int) ^ min (7:Int).toNat IntKind.u64.bits)=((128:Nat):Int) from rfl,Int.fdiv_eq_ediv_of_nonneg _ (by omega)];exact (Int.natCast_ediv _ _).symm)) ?_
  refine Zb ?_
  refine ⟨(pre++[UInt8.ofNat (m % 128+128)],m / 128),by simp only;omega,⟨?_,by simp only;omega⟩,?_,.inl ?_⟩
  ·simp only
   rw [← hpre,qa0 h1,List.append_assoc]
   rfl
  ·simp only [List.length_append,List.length_cons,List.length_nil,← Nat.add_assoc]
   exact Y3
  ·simp only [List.length_append,List.length_cons,List.length_nil,← Nat.add_assoc,List.map_append,List.map_cons,List.map_nil,List.append_assoc]
 ·have h1:m<128:=by simp at hc;omega
  refine Z3k ?_
  refine ao1 (by decide) (qh (r:=(m:Int)) rfl (ql0 _ (by omega))) ?_
  refine ao2 Yq (q4k (sz:=1) (v:=.int .u8 (m:Int)) rfl (by decide) (by decide) rfl rfl rfl rfl rfl) ?_
  refine ao2 Yq (q3m (bs.length+pre.length+1) rfl hF rfl rfl (Src.pl (ys:=[q1o (UInt8.ofNat m)]) Yg (q2e [_])) rfl Yv Yu Yu Yv) ?_
  refine Z3m ?_
  refine Z3n ?_
  rw [List.set_set,htake]
  refine Z1 ?_
  rw [q7d h1] at hpre
  have hnl:(q19 n).length=pre.length+1:=by rw [← hpre];simp
  refine qe6 hB (q56 rfl .nil) rfl ⟨?_,?_⟩ ?_ (by simp) (HBel.set hB.heap _ _ (fun r hr=>qw _ (bs++pre++[UInt8.ofNat m]) r (by rw [List.map_append];exact hr)))
  ·rw [hnl];rfl
  ·rw [hnl,← hpre,← List.append_assoc,List.map_append (l₁:=bs++pre)];rfl
  ·exact decide_eq_true hlt
abbrev q8f (x:Nat×Nat):List AV:=[.int .i64 (x.1:Int),.int .i64 (x.2:Int)]
theorem qi0 (n:Nat) (l:List (Nat×Nat)):∀ r∈l.map q8f,AV.bels n r=true:=q2s (e:=q8f) (fun _=>rfl) l
theorem qgn (l:List (Nat×Nat)):∀ r∈l.map q8f,r.length=2:=q46 (e:=q8f) (n:=2) (fun _=>rfl) l
set_option maxHeartbeats 0 in
theorem qfq (l:List Int) (hs:sok l=true) (H:q8):AC Tryz.prog 51 [.pl (l.map q3d)] H (Ret (.pl ((rs (inl l) 0).map q8f)) H):=by
 have hl256:=qki hs
 refine AC.body (N:=42) [.tmp 2] Tryz.func51 rfl rfl rfl (Nat.le_of_ble_eq_true rfl) fun B hB=>?_
 refine Z3f ?_
 refine Z3g ?_
 refine q2z (k:=0) 3 2 rfl (by decide) rfl ?_
 rw [List.nil_append]
 refine qi ?_
 refine Z2k ?_
 refine Z2o ?_
 refine Z1a ?_
 refine qz (G:=Nat×Nat) (fun s=>s.1≤l.length) (fun s=>[(0,.pl (l.map q3d)),(3,.sl (Lid H.length 0) s.2 0 (rt (inl l) (bd l s.1)).length (rt (inl l) (bd l s.1)).length),(6,.pl (l.map q3d)),(7,.int .i64 (l.length:Int)),(8,.int .i64 (s.1:Int))]) (fun s=>H++[⟨s.2,2,(rt (inl l) (bd l s.1)).map q8f⟩]) (fun s=>l.length-s.1) (0,0) (Nat.zero_le _) Y3 (.inl rfl) ?_
 rintro ⟨i,g⟩ hil
 simp only at hil ⊢
 have hql:=qj2 (inl l) (bd l i)
 refine Z2p ?_
 refine q5 rfl (fun hc=>?_) (fun hc=>?_)
 ·have hi:i<l.length:=by simp at hc;omega
  obtain ⟨n,hn,hn256⟩:=q2u hs hi
  have hr:=qv q3d hn
  have hstep:=qh5 hs hn
  have hbd:=q4w hn
  generalize hout:rt (inl l) (bd l i)=out at hql hstep
  have hbnd:bd l i≤256:=by
   rcases Nat.eq_zero_or_pos i with e | e
   ·subst e;simp [bd]
   ·obtain ⟨p,hp,hp2⟩:=q2u hs (i:=i-1) (by omega)
    have e1:=q4w hp
    rw [show i-1+1=i by omega] at e1
    omega
  obtain ⟨p,hp⟩:∃ p:Int,0<i→l[i-1]?=some p∧0≤p∧p<256:=by
   by_cases h0:0<i
   ·obtain ⟨p,hp,hp2⟩:=q2u hs (i:=i-1) (by omega)
    exact ⟨p,fun _=>⟨hp,by omega,by omega⟩⟩
   ·exact ⟨0,fun h=>absurd h h0⟩
  have hq1:decide ((0:Int)<(i:Int))=true→(l.map q3d)[i-1]?=some (q3d p):=fun h=>qv q3d (hp (by have:=of_decide_eq_true h;omega)).1
  have hcnd:0<i→(l[i-1]?=some ((n:Int)-1)↔(n:Int)=p+1):=fun h=>by
   rw [(hp h).1]
   constructor
   ·intro e;have:=Option.some.inj e;omega
   ·intro e;congr 1;omega
  refine Zy ?_
  refine Z2q ?_
  refine Z2s ?_
  refine Z3 ?_
  refine Zb ?_
  refine qm 24 (.bool (decide (0<i∧l[i-1]?=some ((n:Int)-1)))) ?_ ?_
  ·refine Z8 ?_
   refine Z3o ?_
   refine Zi ?_
   refine q7 rfl rfl (fun hg2=>?_) (fun hg2=>?_)
   ·refine Zj ?_
    refine Z3p ?_
    refine Zj ?_
    refine q12 rfl rfl (by decide) (q81 (r:=((i-1:Nat):Int)) rfl rfl (by have:=of_decide_eq_true hg2;rw [show (i:Int)-1=((i-1:Nat):Int) by omega];exact qb (by omega) (by omega))) ?_
    refine q12 rfl rfl (by decide) (qx (n:=i-1) rfl rfl (hq1 hg2) rfl) ?_
    refine q12 rfl rfl (by decide) (q21 (v:=.int .i64 p) rfl (hq1 hg2) rfl) ?_
    refine q12 rfl rfl (by decide) (q24 (r:=p+1) rfl rfl (by have:=hp (by have:=of_decide_eq_true hg2;omega);exact qb (by omega) (by omega))) ?_
    refine Z3q ?_
    refine Zm ?_
    exact Z3r
   ·refine Z3s ?_
    refine Z3s ?_
    refine Zr ?_
    exact Z3r
  refine Z1 ?_
  refine q5 rfl (fun hc=>?_) (fun hc=>?_)
  ·have hcd:0<i∧l[i-1]?=some ((n:Int)-1):=of_decide_eq_true hc
   obtain ⟨q,a,m,hq,ham⟩:=qfw hs hn hcd
   rw [hout] at hq
   subst hq
   rw [if_pos hcd,qr] at hstep
   have hrow:((q++[(a,m)]).map q8f)[0+q.length]?=some (q8f (a,m)):=by simp
   refine Z1 ?_
   refine q5f mixed (some 10) 1 ?_
   refine Z3t ?_
   refine Z3u ?_
   refine aq0 1 rfl Ys (by decide) (fun _=>qf (v:=.sl _ _ _ _ _) rfl) ?_
   refine aqp 2 rfl Ys (by decide) (fun G=>qj0 rfl (lk rfl rfl) rfl) ?_
   refine aq0 3 rfl Ys (by decide) (fun _=>q81 (r:=((q.length:Nat):Int)) rfl rfl (by rw [show (((q++[(a,m)]).length:Nat):Int)-1=((q.length:Nat):Int) by simp];exact qb (by omega) (by simp at hql;omega))) ?_
   refine aqp 4 rfl Ys (by decide) (fun G=>q3s rfl (lk rfl rfl) rfl rfl rfl (by simp)) ?_
   refine aqp 5 rfl Ys (by decide) (fun G=>q2g rfl (lk rfl rfl) rfl rfl (by omega) (by omega)) ?_
   refine aqp 6 rfl Ys (by decide) (fun G=>qp rfl (lk rfl rfl) rfl hrow rfl) ?_
   refine aq0 7 rfl Ys (by decide) (fun _=>q24 (r:=((m+1:Nat):Int)) rfl rfl (by rw [show (m:Int)+1=((m+1:Nat):Int) by omega];exact qb (by omega) (by omega))) ?_
   refine qno [9,8] 8 rfl Ys (by decide) (fun G=>q3s rfl (lk rfl rfl) rfl rfl rfl (by simp)) ?_
   refine aqp 9 rfl Ys (by decide) (fun G=>q2g rfl (lk rfl rfl) rfl rfl (by omega) (by omega)) ?_
   refine aqs 10 rfl Ys Ym Yw (q49 (sz:=1) (v:=.int _ _) (r':=q8f (a,m+1)) rfl rfl rfl rfl hrow rfl rfl rfl (Nat.le_refl 2) rfl) ?_
   refine Z30 ?_
   refine Z2x ?_
   rw [show ((q++[(a,m)]).map q8f).set (0+q.length) (q8f (a,m+1))=(q++[(a,m+1)]).map q8f by simp]
   refine Z2 ?_
   refine Z3v ?_
   refine Z32 ?_
   exact ⟨(i+1,g),by simp only;omega,by simp only;omega,by simp only [hbd,hstep,List.length_append,List.length_cons,List.length_nil];exact Y3,.inl (by simp only [hbd,hstep])⟩
  ·have hcd:¬ (0<i∧l[i-1]?=some ((n:Int)-1)):=of_decide_eq_false hc
   rw [if_neg hcd] at hstep
   refine Z3k ?_
   refine ao1 (by decide) (V1.up (qek (cs:=[.int _ _,.int _ _]) rfl)) ?_
   refine ao2 Yq (q4k (sz:=2) (v:=.agg (q8f (n,0))) (cs:=q8f (n,0)) rfl (by decide) (by decide) rfl rfl rfl rfl rfl) ?_
   refine ao2 Yq (q5c rfl rfl rfl rfl rfl (Src.pl (ys:=[q8f (n,0)]) rfl (qgn [_])) rfl (by simp) (by simp) Yx Yx) ?_
   refine Z3m ?_
   try dsimp only [List.length_cons,List.length_nil,Nat.reduceAdd,AV.up,put,List.set_cons_zero]
   rw [show (out.map q8f).take out.length=out.map q8f from List.take_of_length_le (by simp)]
   refine Z2 ?_
   refine Z3v ?_
   refine Z32 ?_
   exact ⟨(i+1,g+1),by simp only;omega,by simp only;omega,by simp only [hbd,hstep,List.length_append,List.length_cons,List.length_nil];exact Y3,.inl (by simp only [hbd,hstep,List.map_append,List.map_cons,List.map_nil])⟩
 ·have hi:i=l.length:=by simp at hc;omega
  subst hi
  rw [qgd hs]
  refine Z3j ?_
  refine Z3m ?_
  refine Z1a ?_
  refine qt (ys:=(rs (inl l) 0).map q8f) 2 rfl rfl rfl rfl Y7 (by simp) (qi0 0 _) ?_
  refine q4m ?_
  exact Zc
theorem qji (n:Nat) (bs:List UInt8) (g:Nat):∀ o∈[AObj.mk g 1 (bs.map q1o)],∀ r∈o.rows,AV.bels n r=true:=by
 intro o ho r hr
 simp only [List.mem_singleton] at ho
 subst ho
 exact qw _ _ r hr
set_option maxHeartbeats 0 in
theorem qid (l:List Int) (hl:l.length≤1000000) (H:q8):AC Tryz.prog 29 [.pl (l.map q3d)] H (Ret (.tup [.pl ((q6c l).1.map q1o),.int .i64 (q6c l).2]) H):=by
 have hl2:l.length≤9223372036854775807:=by omega
 refine AC.body (N:=43) [.tmp 2,.tmp 3] Tryz.func29 rfl rfl rfl (Nat.le_of_ble_eq_true rfl) fun B hB=>?_
 refine Z3w ?_
 refine Z2l ?_
 refine Z3x ?_
 refine Z3y ?_
 refine q5 rfl (fun hc=>?_) (fun hc=>?_)
 ·have hs:sok l=false:=by simpa using hc
  rw [show q6c l=([],1) by rw [q6c,if_pos hs]]
  refine Z3w ?_
  try dsimp only
  exact Z42
 have hs:sok l=true:=by simpa using hc
 rw [show q6c l=(q7x l,0) by rw [q6c,if_neg (by rw [hs];simp)]]
 have hlen:=q9w l
 have hok:=qjd (inl l)
 have hrl:=qdp (inl l) 256 0 rfl
 have hspec:q7x l=([2]++q19 (rs (inl l) 0).length)++q5d 0 (rs (inl l) 0):=rfl
 refine Z2l ?_
 refine q10 (qfq _ Yy _) rfl (by decide) ?_
 refine Z43 ?_
 refine qc ?_
 try dsimp only
 clear hc
 generalize hq:rs (inl l) 0=q at hok hrl hspec
 have hn10:=q1i (n:=q.length) (by omega)
 refine Z2 ?_
 refine Z44 ?_
 refine Z36 ?_
 refine ao1 (by decide) (qh (r:=(q.length:Int)) rfl (by (rw [List.length_map];exact q4d q.length (by omega)))) ?_
 refine ao2 Yq (V2.callo3 (k:=0) (q1v [2] q.length (by omega) _ (Lid H.length 0) 0 (by simp) (lk rfl rfl)) rfl rfl) ?_
 refine Z3m ?_
 try dsimp only [List.length_cons,List.length_nil,Nat.reduceAdd,put,AV.cells,List.nil_append,List.cons_append,List.set_cons_zero]
 refine Z5 ?_
 refine Z2l ?_
 refine Z2o ?_
 refine Z1a ?_
 refine qz (G:=Nat×Nat×List UInt8) (fun s=>s.1≤q.length∧s.2.2++q5d s.2.1 (q.drop s.1)=q7x l∧q4z (s.1 == 0) s.2.1 (q.drop s.1)∧1≤s.2.2.length) (fun s=>[(5,.sl (Lid H.length 0) (s.2.2.length-1) 0 s.2.2.length s.2.2.length),(6,.int .i64 (s.2.1:Int)),(19,.pl (q.map q8f)),(20,.int .i64 (q.length:Int)),(21,.int .i64 (s.1:Int))]) (fun s=>H++[⟨s.2.2.length-1,1,s.2.2.map q1o⟩]) (fun s=>q.length-s.1) (0,0,[2]++q19 q.length) ⟨Nat.zero_le _,hspec.symm,hok,by simp⟩ (by simp only [List.length_append,List.length_cons,List.length_nil,Nat.add_sub_cancel_left,Nat.zero_add];exact Y3) (.inl (by simp only [List.length_append,List.length_cons,List.length_nil,Nat.add_sub_cancel_left,Nat.zero_add];rfl)) ?_
 rintro ⟨i,last,bs⟩ ⟨hi,hbs,hro,hb1⟩
 simp only at hi hbs hro hb1 ⊢
 have hbl:bs.length≤6000:=by
  have:=congrArg List.length hbs
  rw [List.length_append] at this
  omega
 refine Z2p ?_
 refine q5 rfl (fun hc=>?_) (fun hc=>?_)
 ·have hil:i<q.length:=by simp at hc;omega
  obtain ⟨⟨a,m⟩,ham,_⟩:=q1n hil
  have hr:=qv q8f ham
  have hdrop:q.drop i=(a,m) :: q.drop (i+1):=by
   rw [List.drop_eq_getElem_cons hil]
   congr 1
   rw [List.getElem?_eq_getElem hil] at ham
   exact Option.some.inj ham
  rw [hdrop] at hbs hro
  obtain ⟨k1,k2,k3,k4⟩:=hro
  rw [q5d,← List.append_assoc,← List.append_assoc] at hbs
  have hna:=q1i (n:=a-last) (by omega)
  have hnm:=q1i (n:=m) (by omega)
  generalize hb2:bs++q19 (a-last)=bs2 at hbs
  have hl2:bs2.length=bs.length+(q19 (a-last)).length:=by rw [← hb2,List.length_append]
  have c1:=fun H' id hid=>q1v bs (a-last) (by omega) H' id (bs.length-1) (by omega) hid
  rw [hb2,← hl2,show bs.length-1+(q19 (a-last)).length=bs2.length-1 by omega] at c1
  generalize hb3:bs2++q19 m=bs3 at hbs
  have hl3:bs3.length=bs2.length+(q19 m).length:=by rw [← hb3,List.length_append]
  have c2:=fun H' id hid=>q1v bs2 m (by omega) H' id (bs2.length-1) (by omega) hid
  rw [hb3,← hl3,show bs2.length-1+(q19 m).length=bs3.length-1 by omega] at c2
  refine Z2r ?_
  refine ao1 (by decide) (q93 rfl hr rfl) ?_
  refine ao2 Yq (q52 (sz:=2) rfl (by decide) rfl) ?_
  refine ao2 Yw (q4a (sz:=2) rfl rfl rfl rfl rfl rfl rfl rfl (Nat.le_of_ble_eq_true rfl)) ?_
  refine qc ?_
  refine Z45 ?_
  refine Z1 ?_
  refine Z46 ?_
  refine Z3u ?_
  refine aqr 1 rfl Ys (by decide) (fun G hG=>q2g rfl (lk rfl hG) rfl rfl (by omega) (by omega)) ?_
  refine Z47 ?_
  refine aq0 3 rfl Ys (by decide) (fun _=>qf (v:=.int _ _) rfl) ?_
  refine aq0 4 rfl Ys (by decide) (fun _=>q81 (r:=((a-last:Nat):Int)) rfl rfl (by rw [show (a:Int)-(last:Int)=((a-last:Nat):Int) by omega];exact qb (by omega) (by omega))) ?_
  refine aq0 5 rfl Ys (by decide) (fun _=>qh (r:=((a-last:Nat):Int)) rfl (q4d _ (by omega))) ?_
  refine aqr 7 rfl Ys (by decide) (fun G hG=>q2g rfl (lk rfl hG) rfl rfl (by omega) (by omega)) ?_
  refine aqr 8 rfl Ys (by decide) (fun G hG=>qp (v:=.int _ _) rfl (lk rfl hG) rfl rfl rfl) ?_
  refine aq0 9 rfl Ys (by decide) (fun _=>qh (r:=(m:Int)) rfl (q4d _ (by omega))) ?_
  refine aqs 6 rfl Ys Yi Yq (V2.callo3 (k:=0) (c1 _ (Lid H.length 0) (lk rfl rfl)) rfl rfl) ?_
  refine aqs 10 rfl Ys Yi Yq (V2.callo3 (k:=0) (c2 _ (Lid H.length 0) (lk rfl rfl)) rfl rfl) ?_
  refine aq0 11 rfl Ys (by decide) (fun _=>qn (v:=.sl _ _ _ _ _) rfl) ?_
  refine Z48 ?_
  refine Z2x ?_
  refine Z2 ?_
  refine Z49 ?_
  refine Z21 ?_
  refine Z49 ?_
  refine Z21 ?_
  refine ao1 (by decide) (q24 (r:=((a+m:Nat):Int)) rfl rfl (by rw [show (a:Int)+(m:Int)=((a+m:Nat):Int) by omega];exact qb (by omega) (by omega))) ?_
  refine Z4 ?_
  try dsimp only
  refine Z2 ?_
  refine Z3v ?_
  refine Z32 ?_
  exact ⟨(i+1,a+m,bs3),by simp only;omega,⟨by simp only;omega,hbs,by simpa using k4,by simp only;omega⟩,Y3,Fit.loc hB rfl Y1 (qji _ _ _)⟩
 ·have hie:i=q.length:=by simp at hc;omega
  subst hie
  rw [List.drop_length,q5d,List.append_nil] at hbs
  subst hbs
  refine Z4a ?_
  refine Z4b ?_
  refine qt (ys:=(q7x l).map q1o) 2 rfl rfl rfl rfl Y7 (by simp) (qw 0 _) ?_
  exact Z41
theorem qd9 {P:Program} {N:Nat} {env:Env} {H0 L:q8} {ty t t' e:TypeId} {x y:Operand} {n k g sz bytes:Nat} {agg:Bool} {zs:List AV} {α:Type} {en:α→List AV} {bs cs:List α} [hu:SlI P t e] [NiI P t'] [TyI P e agg sz] [hz:ZcI P e zs] [ByI P e bytes]
  (hx:aev env x = .sl (Lid n k) g 0 bs.length bs.length) (hn:H0.length=n) (hk:L[k]?=some ⟨g,sz,bs.map en⟩) (hy:Src P N env (H0++L) y sz (cs.map en)) (hz':zs.length=sz) (h63:bs.length+cs.length≤9223372036854775807) (hb:(bs.length+cs.length) * bytes≤140737488355328) :
  V2 P N (.call { callee:=.builtin .append,args:=#[x,y],argTypes:=#[t,t'] }) ty env (H0++L) (.sl (Lid n k) (g+1) 0 (bs++cs).length (bs++cs).length) (H0++L.set k ⟨g+1,sz,(bs++cs).map en⟩):=by
 have:=q6g (P:=P) (N:=N) (env:=env) (ty:=ty) (t:=t) (t':=t') (e:=e) (agg:=agg) (zs:=zs) (bytes:=bytes) (o:=⟨g,sz,bs.map en⟩) hx hn hk rfl rfl hy hz' (by simp) (by simpa using h63) (by simpa using hb)
 rw [show (bs.map en).take bs.length=bs.map en from List.take_of_length_le (by simp),← List.map_append,List.length_map,← List.length_append] at this
 exact this
theorem qfi (w:Bool):[wb w].map q1o=[[.int .u8 (if w then 1 else 0)]]:=by cases w<;>rfl
theorem qfy (bs:List UInt8) (w:Bool) (H:q8) (id g:Nat) (hbs:bs.length≤1000000) (hid:H[id]?=some ⟨g,1,bs.map q1o⟩):AC Tryz.prog 49 [.sl id g 0 bs.length bs.length,.bool w] H
  (Ret (.sl id (g+1) 0 (bs.length+1) (bs.length+1)) (H.set id ⟨g+1,1,(bs++[wb w]).map q1o⟩)):=by
 have hlt:id<H.length:=(List.getElem?_eq_some_iff.1 hid).1
 have htake:(bs.map q1o).take bs.length=bs.map q1o:=List.take_of_length_le (by simp)
 have hF:=hid
 refine AC.body (N:=12) [.tmp 4] Tryz.func49 rfl rfl rfl (Nat.le_of_ble_eq_true rfl) fun B hB=>?_
 refine Z3f ?_
 refine Z2 ?_
 refine Zi ?_
 refine Za ?_
 refine q5 rfl (fun hc=>?_) (fun hc=>?_)
 ·have hw:w=true:=by simpa using hc
  subst hw
  refine Z3j ?_
  refine ao2 Yq (q4k (sz:=1) (v:=.int .u8 1) rfl (by decide) (by decide) rfl rfl rfl rfl rfl) ?_
  refine ao2 Yq (q3m (bs.length+1) rfl hF rfl rfl (Src.pl (ys:=[[.int .u8 1]]) rfl Ya) rfl Yv Yu Yu Yv) ?_
  refine Z3m ?_
  refine Z3n ?_
  rw [htake]
  refine Z1 ?_
  refine qe6 hB (q56 rfl .nil) rfl ⟨rfl,by rw [List.map_append,qfi];rfl⟩ (decide_eq_true hlt) (by simp) ?_
  exact HBel.set hB.heap _ _ (fun r hr=>qw _ (bs++[1]) r (by rw [List.map_append];exact hr))
 ·have hw:w=false:=by simpa using hc
  subst hw
  refine Z3j ?_
  refine ao2 Yq (q4k (sz:=1) (v:=.int .u8 0) rfl (by decide) (by decide) rfl rfl rfl rfl rfl) ?_
  refine ao2 Yq (q3m (bs.length+1) rfl hF rfl rfl (Src.pl (ys:=[[.int .u8 0]]) rfl Ya) rfl Yv Yu Yu Yv) ?_
  refine Z3m ?_
  refine Z3n ?_
  rw [htake]
  refine Z1 ?_
  refine qe6 hB (q56 rfl .nil) rfl ⟨rfl,by rw [List.map_append,qfi];rfl⟩ (decide_eq_true hlt) (by simp) ?_
  exact HBel.set hB.heap _ _ (fun r hr=>qw _ (bs++[0]) r (by rw [List.map_append];exact hr))
theorem qbk (bs:List UInt8) (p:Int) (hp:-1000≤p∧p≤1000) (H:q8) (id g:Nat) (hbs:bs.length≤1000000) (hid:H[id]?=some ⟨g,1,bs.map q1o⟩):AC Tryz.prog 50 [.sl id g 0 bs.length bs.length,.int .i64 p] H
  (Ret (.sl id (g+(q19 (zig p)).length) 0 (bs.length+(q19 (zig p)).length) (bs.length+(q19 (zig p)).length)) (H.set id ⟨g+(q19 (zig p)).length,1,(bs++q19 (zig p)).map q1o⟩)):=by
 have hlt:id<H.length:=(List.getElem?_eq_some_iff.1 hid).1
 have hz:zig p<18446744073709551616:=by unfold zig;split<;>omega
 have c1:=q1v bs (zig p) hz (H++[]) id g hbs (by rw [List.append_nil];exact hid)
 rw [List.set_append_left _ _ hlt] at c1
 have hbel:HBel H.length H→HBel H.length (H.set id ⟨g+(q19 (zig p)).length,1,(bs++q19 (zig p)).map q1o⟩):=fun h=>HBel.set h _ _ (fun r hr=>qw _ _ r hr)
 refine AC.body (N:=19) [.tmp 4] Tryz.func50 rfl rfl rfl (Nat.le_of_ble_eq_true rfl) fun B hB=>?_
 refine Z3f ?_
 refine Z1l ?_
 refine q5 rfl (fun hc=>?_) (fun hc=>?_)
 ·have h0:p<0:=by simpa using hc
  have e:(zig p:Int)=0-2 * p-1:=by unfold zig;rw [if_pos h0];omega
  refine Z3k ?_
  refine ao1 (by decide) (qmk rfl (qb (by omega) (by omega))) ?_
  refine ao1 (by decide) (qh (r:=-p) rfl Yj) ?_
  refine ao1 (by decide) (qk8 (r:=-(2 * p)) rfl rfl Yj) ?_
  refine ao1 (by decide) (q81 (r:=(zig p:Int)) rfl rfl Yj) ?_
  refine Z4c ?_
  refine Z3l ?_
  refine Za ?_
  exact qe6 hB (q56 rfl .nil) rfl ⟨rfl,rfl⟩ (decide_eq_true hlt) (by simp) (hbel hB.heap)
 ·have h0:0≤p:=by simp at hc;omega
  have e:(zig p:Int)=2 * p:=by unfold zig;rw [if_neg (by omega)];omega
  refine Z3k ?_
  refine ao1 (by decide) (qh (r:=p) rfl Yj) ?_
  refine ao1 (by decide) (qk8 (r:=(zig p:Int)) rfl rfl Yj) ?_
  refine Z4c ?_
  refine Z3l ?_
  refine Za ?_
  exact qe6 hB (q56 rfl .nil) rfl ⟨rfl,rfl⟩ (decide_eq_true hlt) (by simp) (hbel hB.heap)
def q7w (ns:List Nat):List UInt8:=ns.flatMap q19
theorem qfv {ns:List Nat} {k n:Nat} (h:ns[k]?=some n):q7w (ns.take (k+1))=q7w (ns.take k)++q19 n:=by
 rw [qe h,q7w,List.flatMap_append]
 simp [q7w]
theorem qcz:∀ (ns:List Nat),(∀ n∈ns,n<18446744073709551616)→(q7w ns).length≤10 * ns.length
 | [],_=>Nat.le_refl _
 | n :: ns,h=>by
  have h1:=q1i (h n (by simp))
  have h2:=qcz ns fun m hm=>h m (by simp [hm])
  simp only [q7w,List.flatMap_cons,List.length_append,List.length_cons] at h2 ⊢
  omega
theorem q7c {s:Spec} (h:qq s=true):-1000≤s.prio∧s.prio≤1000∧s.tag.size≤16:=by
 simp only [qq,q5e,Bool.and_eq_true,decide_eq_true_eq] at h
 omega
set_option maxHeartbeats 0 in
theorem qgq (s:Spec) (H:q8):AC Tryz.prog 27 [.agg (qga s)] H (Ret (.tup [.pl ((q3v s).1.map q1o),.int .i64 (q3v s).2]) H):=by
 refine AC.body (N:=46) [.tmp 2,.tmp 3] Tryz.func27 rfl rfl rfl (Nat.le_of_ble_eq_true rfl) fun B hB=>?_
 refine Z2 ?_
 refine Z1y ?_
 refine Z3d ?_
 refine Z4 ?_
 refine Z1z ?_
 refine Z2v ?_
 refine Z4d ?_
 refine Z3y ?_
 refine q5 rfl (fun hc=>?_) (fun hc=>?_)
 ·have hs:qq s=false:=by simpa using hc
  rw [show q3v s=([],1) by rw [q3v,if_pos hs]]
  refine Z3w ?_
  try dsimp only
  exact Z42
 have hs:qq s=true:=by simpa using hc
 clear hc
 rw [show q3v s=(q13 s,0) by rw [q3v,if_neg (by rw [hs];simp)]]
 obtain ⟨hp1,hp2,htag⟩:=q7c hs
 have hf:=q1l hs
 have hlen:=q78 hs
 refine Z2 ?_
 refine Z44 ?_
 refine Z3m ?_
 refine Z4e ?_
 generalize hns:[s.nodes.toNat,s.cores.toNat,s.gpus.toNat,s.tag.size]=ns
 have hn4:ns.length=4:=by rw [← hns];rfl
 have hsm:∀ n∈ns,n<1000:=by rw [← hns];intro n hn;simp at hn;omega
 have hrows:[[AV.int .i64 s.nodes],[.int .i64 s.cores],[.int .i64 s.gpus],[.int .i64 (s.tag.size:Int)]]=ns.map fun n:Nat=>[AV.int .i64 (n:Int)]:=by
  rw [← hns,List.map_cons,List.map_cons,List.map_cons,List.map_cons,List.map_nil,Int.toNat_of_nonneg (by omega),Int.toNat_of_nonneg (by omega),Int.toNat_of_nonneg (by omega)]
 refine Z4f ?_
 refine Z22 ?_
 refine Z22 ?_
 refine Z20 ?_
 refine ao1 (by decide) (qp (v:=.str _) rfl (lk rfl rfl) rfl rfl rfl) ?_
 refine Z19 ?_
 refine ao2 Yq (qe0 (sz:=1) [[.int .i64 s.nodes],[.int .i64 s.cores],[.int .i64 s.gpus],[.int .i64 (s.tag.size:Int)]] rfl (by decide) (by decide) (by decide) rfl rfl (by simp) rfl (by intro r hr;simp at hr;rcases hr with rfl | rfl | rfl | rfl<;>rfl)) ?_
 refine Z2o ?_
 try dsimp only [List.length_cons,List.length_nil,Nat.reduceAdd,put]
 rw [hrows]
 refine Z1a ?_
 refine qz (G:=Nat) (fun k=>k≤4) (fun k=>[(1,.pt (Lid H.length 0) 0 0 0),(4,.sl (Lid H.length 1) (q7w (ns.take k)).length 0 (1+(q7w (ns.take k)).length) (1+(q7w (ns.take k)).length)),(20,.pl (ns.map fun n:Nat=>[AV.int .i64 (n:Int)])),(21,.int .i64 4),(22,.int .i64 (k:Int))]) (fun k=>H++[⟨0,7,[qga s]⟩,⟨(q7w (ns.take k)).length,1,([1]++q7w (ns.take k)).map q1o⟩]) (fun k=>4-k) 0 (by omega) Y3 (.inl rfl) ?_
 intro k hk
 have hpl:(q7w (ns.take k)).length≤40:=by
  have:=qcz (ns.take k) fun n hn=>by have:=hsm n (List.mem_of_mem_take hn);omega
  have h2:(ns.take k).length≤4:=by rw [List.length_take];omega
  omega
 refine Z2 ?_
 refine Zu ?_
 refine qc ?_
 refine Z4g ?_
 refine Z1 ?_
 refine q5 rfl (fun hc=>?_) (fun hc=>?_)
 ·have hk4:k<4:=by simp at hc;omega
  obtain ⟨n,hn,_⟩:=q1n (l:=ns) (k:=k) (by omega)
  have hnm:=List.mem_of_getElem? hn
  have hn1:=hsm n hnm
  have hr:(ns.map fun n:Nat=>[AV.int .i64 (n:Int)])[k]?=some [.int .i64 (n:Int)]:=qv (fun n:Nat=>[AV.int .i64 (n:Int)]) hn
  have c1:=fun H' id hid=>q1v ([1]++q7w (ns.take k)) n (by omega) H' id (q7w (ns.take k)).length Yx hid
  have hstep:=qfv hn
  rw [show (([1]:List UInt8)++q7w (ns.take k)).length=1+(q7w (ns.take k)).length by simp;omega,List.append_assoc,← hstep,Nat.add_assoc] at c1
  have hl2:(q7w (ns.take k)).length+(q19 n).length=(q7w (ns.take (k+1))).length:=by rw [hstep,List.length_append]
  rw [hl2] at c1
  refine Z2r ?_
  refine Z2s ?_
  refine Z4 ?_
  refine Z3k ?_
  refine ao1 (by decide) (qh (r:=(n:Int)) rfl (q4d _ (by omega))) ?_
  refine Z4h ?_
  refine Z3m ?_
  try dsimp only [put,List.cons_append,List.nil_append,List.set_cons_succ,List.set_cons_zero]
  refine Z4j ?_
  exact ⟨k+1,by omega,by omega,Y3,.inl rfl⟩
 ·have hk4:k=4:=by simp at hc;omega
  subst hk4
  have htk:ns.take 4=ns:=List.take_of_length_le (by omega)
  rw [htk] at hpl ⊢
  generalize hb0:[1]++q7w ns=b0
  have hb0l:b0.length=1+(q7w ns).length:=by rw [← hb0];simp;omega
  rw [← hb0l]
  generalize hg0:(q7w ns).length=g0 at hpl hb0l
  have hb1l:(b0++s.tag.data.toList).length=b0.length+s.tag.size:=by rw [List.length_append,q3z]
  generalize hb2:b0++s.tag.data.toList++[wb s.whole]=b2
  have hb2l:b2.length=(b0++s.tag.data.toList).length+1:=by rw [← hb2,List.length_append];rfl
  generalize hb3:b2++q19 s.long.toNat=b3
  have hb3l:b3.length=b2.length+(q19 s.long.toNat).length:=by rw [← hb3,List.length_append]
  have hlong:=q1i (n:=s.long.toNat) (by omega)
  generalize hb4:b3++q19 (zig s.prio)=b4
  have hb4l:b4.length=b3.length+(q19 (zig s.prio)).length:=by rw [← hb4,List.length_append]
  have hspec:b4=q13 s:=by
   rw [← hb4,← hb3,← hb2,← hb0,← hns,q13]
   simp [q7w]
  have c2:=fun H' id hid=>qfy (b0++s.tag.data.toList) s.whole H' id (g0+1) (by omega) hid
  rw [hb2,← hb2l] at c2
  have c3:=fun H' id hid=>q1v b2 s.long.toNat (by omega) H' id (g0+1+1) (by omega) hid
  rw [hb3,← hb3l] at c3
  have c4:=fun H' id hid=>qbk b3 s.prio ⟨hp1,hp2⟩ H' id (g0+1+1+(q19 s.long.toNat).length) (by omega) hid
  rw [hb4,← hb4l] at c4
  have hsrc:∀ (P:Program) (N:Nat) (env:Env) (G:q8) (x:Operand),aev env x = .str s.tag→Src P N env G x 1 (s.tag.data.toList.map q1o):=fun P N env G x hx=>Src.str hx
  refine Z1 ?_
  refine Z4k ?_
  refine Z3u ?_
  refine Z4l ?_
  refine aqr 2 rfl Ys (by decide) (fun G hG=>qp (v:=.str _) rfl (lk rfl hG) rfl rfl rfl) ?_
  refine aqr 4 rfl Ys (by decide) (fun G hG=>qg rfl (lk rfl hG) rfl (by decide)) ?_
  refine aqr 5 rfl Ys (by decide) (fun G hG=>qp (v:=.bool _) rfl (lk rfl hG) rfl rfl rfl) ?_
  refine aqs 3 rfl Ys Yi Yq (qd9 (bs:=b0) (cs:=s.tag.data.toList) (en:=q1o) rfl rfl (by rw [← hb0];rfl) (hsrc _ _ _ _ _ rfl) rfl (by rw [q3z];omega) (by rw [q3z];omega)) ?_
  refine aqs 6 rfl Ys Yi Yq (V2.callo3 (k:=1) (c2 _ (Lid H.length 1) (lk rfl rfl)) rfl rfl) ?_
  refine aq0 7 rfl Ys (by decide) (fun _=>qn (v:=.sl _ _ _ _ _) rfl) ?_
  refine Z48 ?_
  refine Z4m ?_
  refine Z1 ?_
  refine Z4k ?_
  refine Z3u ?_
  refine Z4l ?_
  refine Z47 ?_
  refine aq0 3 rfl Ys (by decide) (fun _=>qh (r:=(s.long.toNat:Int)) rfl Yj) ?_
  refine Z4n ?_
  refine Z4o ?_
  refine aqs 4 rfl Ys Yi Yq (V2.callo3 (k:=1) (c3 _ (Lid H.length 1) (lk rfl rfl)) rfl rfl) ?_
  refine aqs 7 rfl Ys Yi Yq (V2.callo3 (k:=1) (c4 _ (Lid H.length 1) (lk rfl rfl)) rfl rfl) ?_
  refine Z4p ?_
  refine aq0 9 rfl Ys (by decide) (fun _=>qn (v:=.int _ _) rfl) ?_
  refine Z48 ?_
  refine Z4m ?_
  refine Z1a ?_
  rw [hspec]
  refine qt (ys:=(q13 s).map q1o) 2 rfl rfl rfl rfl Y7 (by simp) (qw 0 _) ?_
  exact Z41
end Go.Av
namespace Go.Av
open Go.Proofs Go.RowKit
def KP:Know:=⟨0,Lib.pow10Tab.map fun n:Int=>Value.int .u64 n⟩
structure Errs where
 syn:Value
 rng:Value
 synI:∃ te pe,syn = .iface te pe
 rngI:∃ te pe,rng = .iface te pe
def KY (E:Errs):Know:=⟨4,[E.syn]⟩
def KR (E:Errs):Know:=⟨5,[E.rng]⟩
def KS (E:Errs):q55:=[(KT,KD),(KT+1,KP),(KT+2,KY E),(KT+3,KR E)]
theorem qb2 (s:List UInt8) (c:UInt8) (H:q8):AC Tryz.prog 66 [.str (bs s),.str (bs [c])] H (Ret (.int .i64 (Lib.indexByte s c)) H):=AC.kit fun S w cargs hH hv=>by
 obtain ⟨u,u',rfl,h1,h2⟩:=qf1 hv
 cases h1;cases h2
 refine ⟨.int .i64 (Lib.indexByte s c),(Tryz.strings_Index_one (bs s) c w).mono ?_,fun w' _=>.int⟩
 rintro e w' ⟨rfl,rfl⟩
 exact ⟨by rw [q1w],Below.refl _ _⟩
theorem qeq (s:List UInt8) (c:UInt8) (H:q8):AC Tryz.prog 86 [.str (bs s),.str (bs [c])] H (Ret (.int .i64 (Lib.indexByte s c)) H):=AC.kit fun S w cargs hH hv=>by
 obtain ⟨u,u',rfl,h1,h2⟩:=qf1 hv
 cases h1;cases h2
 refine ⟨.int .i64 (Lib.indexByte s c),(Tryz.stringslite_Index_one (bs s) c w).mono ?_,fun w' _=>.int⟩
 rintro e w' ⟨rfl,rfl⟩
 exact ⟨by rw [q1w],Below.refl _ _⟩
theorem qao (s:List UInt8) (c:UInt8) (H:q8):AC Tryz.prog 65 [.str (bs s),.str (bs [c])] H (Ret (.int .i64 ((Lib.countByte s c:Nat):Int)) H):=AC.kit fun S w cargs hH hv=>by
 obtain ⟨u,u',rfl,h1,h2⟩:=qf1 hv
 cases h1;cases h2
 refine ⟨.int .i64 ((Lib.countByte s c:Nat):Int),(Tryz.strings_Count_one (bs s) c w).mono ?_,fun w' _=>.int⟩
 rintro e w' ⟨rfl,rfl⟩
 exact ⟨by rw [q1w],Below.refl _ _⟩
theorem qhz {id g n:Nat} {xs:List (List UInt8)} {H:q8} (hid:H[id]?=some ⟨g,1,(xs.map bs).map qd6⟩) (hl:xs.length≤1000000) (hj:(Lib.join xs [44]).length≤1000000):AC Tryz.prog 22 [.sl id g 0 xs.length n,.str (bs [44])] H (Ret (.str (bs (Lib.join xs [44]))) H):=AC.kit fun S w cargs hH hv=>by
 obtain ⟨u,u',rfl,h1,h2⟩:=qf1 hv
 cases h2
 have h1':VR (own S) w S (.sl id g 0 (xs.map bs).length n) u:=by rw [List.length_map];exact h1
 refine ⟨.string (bs (Lib.join xs [44])),?_,fun w' _=>.str⟩
 rcases qb6 hH hid h1' with ⟨e,a,c,rfl⟩ | ⟨b,c,rfl,k1,k2,k3⟩
 ·obtain rfl:xs=[]:=by simpa using e
  refine (Tryz.strings_Join_none a c (bs [44]) w).mono ?_
  rintro e w' ⟨rfl,rfl⟩
  exact ⟨by rw [q6l],Below.refl _ _⟩
 ·have e1:(xs.map bs).map (fun x:ByteArray=>x.data.toList)=xs:=by
   rw [List.map_map]
   refine (List.map_congr_left fun x _=>?_).trans (List.map_id _)
   exact q1w x
  refine (Tryz.strings_Join b 0 c (xs.map bs) (bs [44]) w k3 k1 (by rw [List.length_map];omega) k2 (by rw [e1,q1w];omega)).mono ?_
  rintro e w' ⟨rfl,hb⟩
  exact ⟨by rw [e1,q1w],hb⟩
theorem qd0 (E:Errs) (n:Int) (h0:0≤n) (h1:n<256) (H:q8):ACL Tryz.prog (KS E) 14 [.int .i64 n] H (Ret (.str (bs (dec n))) H):=ACL.kit fun S w cargs hk hH hv=>by
 obtain ⟨u,rfl,h2⟩:=qax hv
 cases h2
 have hkn:Kn KP S w:=hk (KT+1,KP) Y10
 refine (Tryz.strconv_Itoa n (by omega) (by omega) w (hkn.tabIs Yz rfl)).mono ?_
 rintro e w' ⟨rfl,k,os,rfl⟩
 refine ⟨_,rfl,Lib.below_grow _ _ (Nat.le_refl _) _ _,?_⟩
 rw [show Lib.itoa n=dec n by rw [Lib.itoa,if_neg (by omega)];rfl]
 exact .str
theorem qcw (E:Errs) (s:List UInt8) (hs:s.length≤1000000):∃ (v:Int) (x:AV),((x = .nifc∧atI s=some v)∨(∃ t,x = .ifc t .junk)∧atI s=none)∧∀ H,ACL Tryz.prog (KS E) 59 [.str (bs s)] H (Ret (.tup [.int .i64 v,x]) H):=by
 rcases h:Lib.atoiAll s with v | _ | _
 ·
  refine ⟨v,.nifc,.inl ⟨rfl,by rw [atI,h]⟩,fun H=>ACL.kit fun S w cargs hk hH hv=>?_⟩
  obtain ⟨u,rfl,h2⟩:=qax hv
  cases h2
  refine (Tryz.strconv_Atoi_ok (bs s) Yr v Yp w).mono ?_
  rintro e w' ⟨rfl,hw⟩
  refine ⟨_,rfl,?_,?_⟩
  ·rcases hw with rfl | ⟨t,rfl⟩
   ·exact Below.refl _ _
   ·exact Lib.bytesWorld_below _ _ _
  ·exact .tup rfl fun j v u hv hu=>by
    match j,hv,hu with
    | 0,hv,hu=>cases hv;cases hu;exact .int
    | 1,hv,hu=>cases hv;cases hu;exact .nifc
 ·
  refine ⟨0,.ifc 132 .junk,.inr ⟨⟨_,rfl⟩,by rw [atI,h]⟩,fun H=>ACL.kit fun S w cargs hk hH hv=>?_⟩
  obtain ⟨u,rfl,h2⟩:=qax hv
  cases h2
  have hkn:Kn (KY E) S w:=hk (KT+2,KY E) Y10
  refine (Tryz.strconv_Atoi_syntax (bs s) Yr Yp E.syn w (hkn.2.2.1 0 _ rfl) (.inr E.synI)).mono ?_
  rintro e w' ⟨N,rfl,_,_,hb⟩
  refine ⟨_,rfl,hb,.tup rfl fun j v u hv hu=>?_⟩
  match j,hv,hu with
  | 0,hv,hu=>cases hv;cases hu;exact .int
  | 1,hv,hu=>cases hv;cases hu;exact .ifc .junk
 ·
  refine ⟨Lib.atoiSat s,.ifc 132 .junk,.inr ⟨⟨_,rfl⟩,by rw [atI,h]⟩,fun H=>ACL.kit fun S w cargs hk hH hv=>?_⟩
  obtain ⟨u,rfl,h2⟩:=qax hv
  cases h2
  have hkn:Kn (KR E) S w:=hk (KT+3,KR E) Y10
  refine (Tryz.strconv_Atoi_range (bs s) Yr Yp E.rng w (hkn.2.2.1 0 _ rfl) (.inr E.rngI)).mono ?_
  rintro e w' ⟨N,rfl,_,_,hb⟩
  refine ⟨_,rfl,hb,.tup rfl fun j v u hv hu=>?_⟩
  match j,hv,hu with
  | 0,hv,hu=>cases hv;cases hu;rw [q1w];exact .int
  | 1,hv,hu=>cases hv;cases hu;exact .ifc .junk
end Go.Av
namespace Go.Av
section
variable {P : Program} {N : Nat} {B : Base} {Q : q4j} {env : Env} {H H0 L : q8} {ty : TypeId} {ops : Array Oper} {rest : List Oper}
end
section
variable {P : Program} {N : Nat} {B : Base} {Q : q4j} {env : Env} {H : q8}
end
section
variable {P : Program} {N : Nat} {env : Env} {H : q8} {ty : TypeId}
theorem q1p {t:TypeId} {x:Operand} {lo hi:Option Operand} {s q:List UInt8} {l h:Nat} [UdI P t .string] (hx:aev env x = .str (bs s)) (hl:Bd env lo 0 l) (hh:Bd env hi s.length h) (h1:l≤h) (h2:h≤s.length) (hq:(s.take h).drop l=q) :
  V1 P N (.slice t x lo hi Option.none) ty env H (.str (bs q)):=by
 have:=q8p (P:=P) (N:=N) (H:=H) (ty:=ty) (t:=t) (l:=l) (h:=h) hx hl (by rw [q4o];exact hh) h1 (by rw [q4o];exact h2)
 rwa [qlt,hq] at this
theorem qbs {x:Operand} {t:TypeId} {s:List UInt8} [UdI P t .string] (hx:aev env x = .str (bs s)):V1 P N (.call { callee:=.builtin .len,args:=#[x],argTypes:=#[t] }) ty env H (.int .i64 (s.length:Int)):=by
 have:=qe2 (P:=P) (N:=N) (H:=H) (ty:=ty) (t:=t) hx
 rwa [q4o] at this
theorem q7g {t:TypeId} {x y:Operand} {k:IntKind} {n:Nat} {s:List UInt8} {c:UInt8} [UdI P t .string] (hx:aev env x = .str (bs s)) (hy:aev env y = .int k (n:Int)) (hv:s[n]?=some c):V1 P N (.index t x y) ty env H (.int .u8 (c.toNat:Int)) :=
 q4c hx hy (by omega) (by rw [Int.toNat_natCast,qlb];exact hv)
theorem q2v {x y:Operand} {t t':TypeId} {p q:List UInt8} (hx:aev env x = .str (bs p)) (hy:aev env y = .str (bs q)) (hn:p.length+q.length≤1000000000):V1 P N (.binOp .add t x y t') ty env H (.str (bs (p++q))):=by
 have:=qme (P:=P) (N:=N) (H:=H) (ty:=ty) (t:=t) (t':=t') hx hy (by rw [q4o,q4o];omega)
 rwa [qm8] at this
theorem q3w {x y:Operand} {t t':TypeId} {p q:List UInt8} (hx:aev env x = .str (bs p)) (hy:aev env y = .str (bs q)):V1 P N (.binOp .eql t x y t') ty env H (.bool (decide (p=q))):=by
 have:=qlw (P:=P) (N:=N) (H:=H) (ty:=ty) (t:=t) (t':=t') hx hy
 rwa [show decide (bs p=bs q)=decide (p=q) from decide_eq_decide.2 qj3] at this
theorem qj6 {x y:Operand} {t t':TypeId} {p q:List UInt8} (hx:aev env x = .str (bs p)) (hy:aev env y = .str (bs q)):V1 P N (.binOp .neq t x y t') ty env H (.bool (!decide (p=q))):=by
 have:=qla (P:=P) (N:=N) (H:=H) (ty:=ty) (t:=t) (t':=t') hx hy
 rwa [show decide (bs p=bs q)=decide (p=q) from decide_eq_decide.2 qj3] at this
end
end Go.Av
namespace Go.Av
open Go.Proofs Go.RowKit
def q6b (s:List UInt8):List UInt8:=if s.contains 45 then (s.dropWhile (· != 45)).tail else []
theorem qir (s:List UInt8) (hs:s.length≤1000000) (H:q8):AC Tryz.prog 98 [.str (bs s),.str (bs [45])] H (Ret (.tup [.str (bs (q1y s)),.str (bs (q6b s)),.bool (s.contains 45)]) H):=by
 by_cases h:(45:UInt8)∈s
 ·have hlt:=qht h
  have ht:=q9z (c:=45) (l:=s)
  have hd:=q51 (c:=45) (l:=s)
  have hc0:s.contains 45=true:=by simpa using h
  rw [q6b,hc0,if_pos rfl,q1y]
  refine AC.body (N:=23) [.tmp 4,.tmp 5,.tmp 6] Tryz.func98 rfl rfl rfl (Nat.le_of_ble_eq_true rfl) fun B hB=>?_
  refine Z4q ?_
  refine Z17 ?_
  refine Z1m ?_
  refine Z4r ?_
  refine Z4s ?_
  refine Z4t ?_
  rw [q6i h]
  refine Z4u ?_
  refine q5 rfl (fun hc=>?_) (fun hc=>?_)
  ·refine Z1d ?_
   refine Z1e ?_
   refine Z1f ?_
   refine aq0 2 rfl Ys (by decide) (fun _=>q1p (q:=s.takeWhile (· != 45)) rfl Bd.none (Bd.some rfl rfl) (Nat.zero_le _) (by omega) (by rw [List.drop_zero];exact ht)) ?_
   refine Z1g ?_
   refine Z1h ?_
   refine aq0 5 rfl Ys (by decide) (fun _=>qf (v:=.str _) rfl) ?_
   refine aq0 6 rfl Ys (by decide) (fun _=>qbs rfl) ?_
   refine aq0 7 rfl Ys (by decide) (fun _=>q24 (r:=(((s.takeWhile (· != 45)).length+1:Nat):Int)) rfl rfl (by rw [show ((s.takeWhile (· != 45)).length:Int)+(([45]:List UInt8).length:Int)=(((s.takeWhile (· != 45)).length+1:Nat):Int) by simp];exact qb (by omega) (by omega))) ?_
   refine aq0 8 rfl Ys (by decide) (fun _=>q1p (q:=(s.dropWhile (· != 45)).tail) rfl (Bd.some rfl rfl) Bd.none (by omega) (Nat.le_refl _) Yh) ?_
   refine aq0 9 rfl Ys (by decide) (fun _=>qn (v:=.str _) rfl) ?_
   refine aq0 10 rfl Ys (by decide) (fun _=>qn (v:=.str _) rfl) ?_
   refine aq0 11 rfl Ys (by decide) (fun _=>qn (v:=.bool _) rfl) ?_
   refine Z1i ?_
   refine Z4v ?_
   refine Z1 ?_
   exact Z4w
  ·simp at hc
 ·have hc0:s.contains 45=false:=by simpa using h
  rw [q6b,hc0,if_neg (by simp),show q1y s=s from q68 h]
  refine AC.body (N:=23) [.tmp 4,.tmp 5,.tmp 6] Tryz.func98 rfl rfl rfl (Nat.le_of_ble_eq_true rfl) fun B hB=>?_
  refine Z4q ?_
  refine Z17 ?_
  refine Z1m ?_
  refine Z4r ?_
  refine Z4s ?_
  refine Z4t ?_
  rw [qdk h]
  refine Z4u ?_
  refine q5 rfl (fun hc=>?_) (fun hc=>?_)
  ·simp at hc
  ·refine Z7 ?_
   refine Z17 ?_
   refine Z17 ?_
   refine Zf ?_
   exact Z4w
theorem qjg (s:List UInt8) (hs:s.length≤1000000) (H:q8):AC Tryz.prog 82 [.str (bs s),.str (bs [45])] H (Ret (.tup [.str (bs (q1y s)),.str (bs (q6b s)),.bool (s.contains 45)]) H):=by
 refine AC.body (N:=13) [.tmp 4,.tmp 5,.tmp 6] Tryz.func82 rfl rfl rfl (Nat.le_of_ble_eq_true rfl) fun B hB=>?_
 refine Z4q ?_
 refine Z17 ?_
 refine Z1m ?_
 refine Z4r ?_
 refine q10 (qir _ Yy _) rfl (by decide) ?_
 refine Z4x ?_
 refine Z4x ?_
 refine Z35 ?_
 refine Z17 ?_
 refine Z17 ?_
 refine Zf ?_
 exact Z4w
abbrev eS (s:List UInt8):List AV:=[.str (bs s)]
theorem qdv (n:Nat) (l:List (List UInt8)):∀ r∈l.map eS,AV.bels n r=true:=q2s (e:=eS) (fun _=>rfl) l
theorem qjc (l:List (List UInt8)):∀ r∈l.map eS,r.length=1:=q46 (e:=eS) (n:=1) (fun _=>rfl) l
structure GSp where
 ps:List (List UInt8)
 r:List UInt8
set_option maxHeartbeats 0 in
theorem qbg (s:List UInt8) (hs:s.length≤100000) (H:q8):AC Tryz.prog 43 [.str (bs s),.str (bs [44]),.int .i64 0,.int .i64 (-1)] H (Ret (.pl ((qk s).map eS)) H):=by
 have hcl:=qhy s
 have c1:=fun H=>qao s 44 H
 generalize hcn:Lib.countByte s 44=c at hcl c1
 refine AC.body (N:=66) [.tmp 8] Tryz.func43 rfl rfl rfl (Nat.le_of_ble_eq_true rfl) fun B hB=>?_
 refine Z3f ?_
 refine Z14 ?_
 refine q5 rfl (fun hc=>?_) (fun hc=>?_)
 ·simp at hc
 refine Z7 ?_
 refine Z4y ?_
 refine Za ?_
 refine q5 rfl (fun hc=>?_) (fun hc=>?_)
 ·simp at hc
 refine Z1l ?_
 refine q5 rfl (fun hc=>?_) (fun hc=>?_)
 ·refine Z4r ?_
  refine Z4z ?_
  refine Z50 ?_
  refine Z4t ?_
  refine Zy ?_
  refine Z52 ?_
  refine Z31 ?_
  refine Z53 ?_
  refine Z4 ?_
  refine Zy ?_
  refine Z54 ?_
  refine Z3m ?_
  refine Z55 ?_
  refine Zy ?_
  refine Z56 ?_
  refine Z4 ?_
  refine Z5 ?_
  refine Z1a ?_
  refine qz (G:=GSp) (fun g=>qk s=g.ps++qk g.r∧g.ps.length+Lib.countByte g.r 44=c∧g.r.length≤s.length) (fun g=>[(0,.str (bs g.r)),(1,.str (bs [44])),(2,.int .i64 0),(3,.int .i64 (c:Int)),(9,.sl (Lid H.length 0) 0 0 (c+1) (c+1)),(10,.int .i64 (g.ps.length:Int))]) (fun g=>H++[⟨0,1,g.ps.map eS++List.replicate (c+1-g.ps.length) [.str ByteArray.empty]⟩]) (fun g=>c-g.ps.length) ⟨[],s⟩ ⟨rfl,by simpa using hcn,Nat.le_refl _⟩ Y3 (.inl rfl) ?_
  rintro ⟨ps,r⟩ ⟨i1,i2,i3⟩
  simp only at i1 i2 i3 ⊢
  refine Z57 ?_
  refine Z1b ?_
  refine q5 rfl (fun hc=>?_) (fun hc=>?_)
  ·have hlt:ps.length<c:=by simpa using hc
   have hm:(44:UInt8)∈r:=count_mem.1 (by omega)
   have hat:=qht hm
   have ht:=q9z (c:=44) (l:=r)
   have hd:=q51 (c:=44) (l:=r)
   have hsp:=q8x hm
   have hcnt:=qbe hm
   have hdl:=q2d (c:=44) r
   have hrow:(ps.map eS++List.replicate (c+1-ps.length) [AV.str ByteArray.empty])[0+ps.length]?=some [.str ByteArray.empty]:=by
    rw [Nat.zero_add,List.getElem?_append_right (by simp),List.length_map,Nat.sub_self,List.getElem?_replicate,if_pos (by omega)]
   refine Z4r ?_
   refine ao2 Yq (V2.call (qb2 r 44 _) rfl) ?_
   refine Z4t ?_
   rw [q6i hm]
   refine Z1l ?_
   refine q5 rfl (fun hc=>?_) (fun hc=>?_)
   ·simp at hc;omega
   refine Z3k ?_
   refine Z6 ?_
   refine Z1w ?_
   refine ao1 (by decide) (q24 (r:=((r.takeWhile (· != 44)).length:Int)) rfl rfl (by rw [Int.add_zero];exact qb (by omega) (by omega))) ?_
   refine ao1 (by decide) (q1p (q:=r.takeWhile (· != 44)) rfl Bd.none (Bd.some rfl rfl) (Nat.zero_le _) (by omega) (by rw [List.drop_zero];exact ht)) ?_
   refine Z58 ?_
   refine ao2 Yw (q49 (sz:=1) (v:=.str _) (r':=eS (r.takeWhile (· != 44))) rfl rfl rfl rfl hrow rfl rfl rfl (by show _≤1;omega) rfl) ?_
   refine qc ?_
   refine Z2x ?_
   refine Z9 ?_
   refine Z52 ?_
   refine ao1 (by decide) (q24 (r:=(((r.takeWhile (· != 44)).length+1:Nat):Int)) rfl rfl (by rw [show ((r.takeWhile (· != 44)).length:Int)+(([44]:List UInt8).length:Int)=(((r.takeWhile (· != 44)).length+1:Nat):Int) by simp];exact qb (by omega) (by omega))) ?_
   refine ao1 (by decide) (q1p (q:=(r.dropWhile (· != 44)).tail) rfl (Bd.some rfl rfl) Bd.none (by omega) (Nat.le_refl _) Yh) ?_
   refine Z18 ?_
   refine Z4v ?_
   refine Zy ?_
   refine Z59 ?_
   refine Zb ?_
   refine ⟨⟨ps++[r.takeWhile (· != 44)],(r.dropWhile (· != 44)).tail⟩,by simp only [List.length_append,List.length_cons,List.length_nil];omega,⟨by simp only;rw [i1,hsp];simp,by simp only [List.length_append,List.length_cons,List.length_nil];omega,by simp only;omega⟩,by simp only [List.length_append,List.length_cons,List.length_nil];exact Y3,.inl ?_⟩
   simp only [List.length_append,List.length_cons,List.length_nil,List.map_append,List.map_cons,List.map_nil,Nat.zero_add]
   rw [List.set_append_right _ _ (by simp),List.length_map,Nat.sub_self,show c+1-ps.length=(c+1-(ps.length+1))+1 by omega,List.replicate_succ]
   simp
  ·have hpl:ps.length=c:=by simp at hc;omega
   have hno:(44:UInt8)∉r:=fun h=>by have:=count_mem.2 h;omega
   have hrow:(ps.map eS++List.replicate (c+1-ps.length) [AV.str ByteArray.empty])[0+ps.length]?=some [.str ByteArray.empty]:=by
    rw [Nat.zero_add,List.getElem?_append_right (by simp),List.length_map,Nat.sub_self,List.getElem?_replicate,if_pos (by omega)]
   have hfin:(ps.map eS++List.replicate (c+1-ps.length) [AV.str ByteArray.empty]).set (0+ps.length) (eS r)=(qk s).map eS:=by
    rw [i1,q59 r hno,Nat.zero_add,List.set_append_right _ _ (by simp),List.length_map,Nat.sub_self,show c+1-ps.length=0+1 by omega,List.replicate_succ]
    simp
   have hlen:((qk s).map eS).length=c+1:=by rw [i1,q59 r hno];simp;omega
   refine Z3k ?_
   refine Z6 ?_
   refine Z58 ?_
   refine Z5a ?_
   refine qc ?_
   refine Z2x ?_
   rw [hfin]
   refine Z3k ?_
   refine Z5b ?_
   refine Z5c ?_
   refine Z3m ?_
   refine Z5d ?_
   refine Z1a ?_
   refine qt (ys:=(qk s).map eS) 8 rfl rfl rfl rfl (by rw [List.drop_zero,List.take_of_length_le (by rw [hlen];omega)]) (by rw [hlen];omega) (qdv 0 _) ?_
   refine q4m ?_
   exact Zc
 ·simp at hc
theorem qfr (s:List UInt8) (hs:s.length≤100000) (H:q8):AC Tryz.prog 24 [.str (bs s),.str (bs [44])] H (Ret (.pl ((qk s).map eS)) H):=by
 refine AC.body (N:=8) [.tmp 4] Tryz.func24 rfl rfl rfl (Nat.le_of_ble_eq_true rfl) fun B hB=>?_
 refine Z3f ?_
 refine Z4r ?_
 refine q10 (qbg _ Yy _) rfl (by decide) ?_
 refine Z43 ?_
 exact Z5e
theorem qi5 {a b:Int} (h0:0≤a) (h1:b<256):(rng a b).length≤256:=by rw [q9p];omega
def qhh (s:List UInt8):List Int×Bool:=match qcj s with
 | none=>([],false)
 | some l=>(l,true)
theorem qc7 (s:List UInt8):(q1y s).length≤s.length:=by
 unfold q1y;exact (List.takeWhile_sublist _).length_le
theorem qf7 (s:List UInt8):(q6b s).length≤s.length:=by
 unfold q6b
 split
 ·exact q2d s
 ·exact Nat.zero_le _
set_option maxHeartbeats 0 in
theorem qjl (E:Errs) (s:List UInt8) (hs:s.length≤1000000) (H:q8):ACL Tryz.prog (KS E) 63 [.str (bs s)] H (Ret (.tup [.pl ((qhh s).1.map q3d),.bool (qhh s).2]) H):=by
 have hfl:=qc7 s
 have hbl:=qf7 s
 have hll:(q3l s).length≤s.length:=by
  unfold q3l
  split
  ·exact q2d s
  ·exact hfl
 obtain ⟨a,x,hx,ca⟩:=qcw E (q1y s) (by omega)
 obtain ⟨b,y,hy,cb⟩:=qcw E (q3l s) (by omega)
 refine ACL.body (N:=62) [.tmp 2,.tmp 3] Tryz.func63 rfl rfl rfl (Nat.le_of_ble_eq_true rfl) fun B hB=>?_
 try dsimp only [KS,q8j]
 refine Z3e ?_
 refine Z1m ?_
 refine Z7 ?_
 refine q10 (qjg _ Yy _) rfl (by decide) ?_
 refine Z5f ?_
 refine Z4x ?_
 refine Z35 ?_
 refine Z17 ?_
 refine Z17 ?_
 refine Z1m ?_
 refine Z2 ?_
 refine Zi ?_
 refine Z16 ?_
 refine qc ?_
 refine Z5g ?_
 refine q2r ([(KT,KD.av),(KT+1,KP.av),(KT+2,(KY E).av),(KT+3,(KR E).av),(2,.nsl),(3,.bool false),(4,.str (bs (q1y s))),(5,.str (bs (q3l s)))]) (H++[]) ?_ ?_
 ·refine Z1 ?_
  refine q5 rfl (fun hc=>?_) (fun hc=>?_)
  ·have hn:s.contains 45=false:=by simpa using hc
   refine qi ?_
   refine Z6 ?_
   refine Z18 ?_
   refine q4b ?_ (.inl rfl)
   rw [show q3l s=q1y s by rw [q3l,hn];rfl]
   exact Y3
  ·have hn:s.contains 45=true:=by simpa using hc
   refine Z1 ?_
   refine q4b ?_ (.inl rfl)
   rw [show q3l s=q6b s by rw [q3l,q6b,hn];rfl]
   exact Y3
 have hbad:∀ (h:qcj s=none),qhh s=([],false):=fun h=>by rw [qhh,h]
 rcases hx with ⟨rfl,ha⟩ | ⟨⟨t,rfl⟩,ha⟩
 ·rcases hy with ⟨rfl,hb⟩ | ⟨⟨t,rfl⟩,hb⟩
  ·have hp:qcj s=if a<0∨b<a∨256≤b then none else some (rng a b):=by rw [qcj,ha,hb]
   refine Z5j ?_
   refine Z5l ?_
   refine Z5m ?_
   refine Z7 ?_
   refine Z5n ?_
   refine Z5h ?_
   refine Z5l ?_
   refine Z5o ?_
   refine qm 50 (.bool (decide (a<0∨b<a∨256≤b))) ?_ ?_
   ·refine Z5p ?_
    refine Z5q ?_
    refine Zi ?_
    refine q7 rfl rfl (fun hg2=>?_) (fun hg2=>?_)
    ·refine Z5r ?_
     refine Z2c ?_
     refine Z2d ?_
     refine Zm ?_
     exact Z5s
    ·refine Z5t ?_
     refine q12 rfl rfl (by decide) (qde Yz rfl rfl) ?_
     refine Z28 ?_
     refine q7 rfl rfl (fun hg6=>?_) (fun hg6=>?_)
     ·refine Z5r ?_
      refine Z2d ?_
      refine Zm ?_
      exact Z5s
     ·refine Zl ?_
      refine Z28 ?_
      refine q7 rfl rfl (fun hg10=>?_) (fun hg10=>?_)
      ·refine Z2b ?_
       refine Z2d ?_
       refine Zm ?_
       exact Z5u
      ·refine Zj ?_
       refine Zl ?_
       refine Z28 ?_
       refine q7 rfl rfl (fun hg15=>?_) (fun hg15=>?_)
       ·refine Z2b ?_
        refine Zm ?_
        exact Z5u
       ·refine Zj ?_
        refine Z2t ?_
        refine Zr ?_
        exact Z5u
   refine Z1 ?_
   refine q5 rfl (fun hc=>?_) (fun hc=>?_)
   ·rw [hbad (by rw [hp,if_pos Yt])]
    refine Z3e ?_
    refine Z1m ?_
    try dsimp only
    exact Z42
   ·have hc2:¬ (a<0∨b<a∨256≤b):=by simpa using hc
    rw [if_neg hc2] at hp
    rw [show qhh s=(rng a b,true) by rw [qhh,hp]]
    refine Z3f ?_
    try dsimp only
    refine Z1a ?_
    refine q2z (k:=0) 11 1 rfl (by decide) rfl ?_
    refine qi ?_
    refine Z8 ?_
    refine Z4 ?_
    refine Z5v ?_
    refine Z1a ?_
    refine qz (G:=Nat) (fun k=>a+(k:Int)≤b+1) (fun k=>[(3,.bool false),(9,.int .i64 b),(11,.sl (Lid H.length 0) k 0 k k),(12,.int .i64 (a+(k:Int)))]) (fun k=>H++[⟨k,1,(rng a (a+(k:Int)-1)).map q3d⟩]) (fun k=>257-k) 0 (by omega) (by rw [show a+((0:Nat):Int)=a by omega];exact Y3) (.inl (by rw [show a+((0:Nat):Int)-1=a-1 by omega,qgi (a:=a) (b:=a-1) (by omega)];rfl)) ?_
    intro k hk
    have hkl:(rng a (a+(k:Int)-1)).length=k:=by rw [q9p];omega
    refine Z57 ?_
    refine Zh ?_
    refine Za ?_
    refine q5 rfl (fun hc=>?_) (fun hc=>?_)
    ·have hab:a+(k:Int)≤b:=by simpa using hc
     refine Z3k ?_
     refine Z44 ?_
     refine ao2 Yq (q5c rfl rfl rfl rfl rfl (qiz rfl rfl rfl rfl rfl rfl) rfl Yu (by simp;done) Yu Yu) ?_
     refine Z3m ?_
     refine Z5w ?_
     refine Zy ?_
     refine ao1 (by decide) (q24 (r:=a+((k+1:Nat):Int)) rfl rfl (by rw [show a+(k:Int)+1=a+((k+1:Nat):Int) by omega];exact qb (by omega) (by omega))) ?_
     refine Zb ?_
     refine ⟨k+1,by omega,by omega,Y3,Fit.loc hB (G:=[⟨0,1,[[.int .i64 (a+(k:Int))]]⟩]) ?_ Y1 ?_⟩
     ·rw [show a+((k+1:Nat):Int)-1=(a+(k:Int)-1)+1 by omega,qdt (by omega),List.take_of_length_le (by simp [hkl])]
      simp
     ·intro o ho r hr
      simp only [List.mem_singleton] at ho
      subst ho
      exact qa5 _ _ r hr
    ·have hab:a+(k:Int)=b+1:=by simp at hc;omega
     refine Z4a ?_
     refine Z1m ?_
     refine Z1a ?_
     refine qt (ys:=(rng a b).map q3d) 2 rfl rfl rfl rfl (by rw [List.drop_zero,hab,show b+1-1=b by omega,List.take_of_length_le (by rw [List.length_map,q9p];omega)]) (by rw [List.length_map,q9p];omega) (qa5 0 _) ?_
     exact Z41
  ·have hp:qcj s=none:=by rw [qcj,ha,hb]
   rw [hbad hp]
   refine Z5j ?_
   refine Z5l ?_
   refine Z5m ?_
   refine Z7 ?_
   refine Z5n ?_
   refine Z5h ?_
   refine Z5y ?_
   refine Z5o ?_
   refine qm 50 (.bool true) ?_ ?_
   ·refine Z5p ?_
    refine Z5q ?_
    refine Zi ?_
    refine q7 rfl rfl (fun hg2=>?_) (fun hg2=>?_)
    ·refine Z5r ?_
     refine Z2c ?_
     refine Z2d ?_
     exact Z5z
    ·refine Z60 ?_
     refine q12 rfl rfl (by decide) (qgu Yz rfl rfl) ?_
     refine Z28 ?_
     refine q7 rfl rfl (fun hg6=>?_) (fun hg6=>?_)
     ·refine Z5r ?_
      refine Z2d ?_
      exact Z5z
     ·refine Zl ?_
      refine Z28 ?_
      refine q7 rfl rfl (fun hg10=>?_) (fun hg10=>?_)
      ·refine Z2b ?_
       refine Z2d ?_
       exact Z5z
      ·refine Zj ?_
       refine Zl ?_
       refine Z28 ?_
       refine q7 rfl rfl (fun hg15=>?_) (fun hg15=>?_)
       ·refine Z2b ?_
        exact Z5z
       ·refine Zj ?_
        refine Z2t ?_
        refine Zr ?_
        exact qc (Out.mk (by (refine congrArg AV.bool ?_;(clear hp hbad hB hfl hbl hll ca cb ha hb;(simp at *;done)))) Y5)
   refine Z1 ?_
   refine q5 rfl (fun hc=>?_) (fun hc=>?_)
   ·refine Z3e ?_
    refine Z1m ?_
    exact Z42
   ·simp at hc
 ·have hp:qcj s=none:=by rw [qcj,ha]
  rw [hbad hp]
  rcases hy with ⟨rfl,hb⟩ | ⟨⟨t,rfl⟩,hb⟩
  all_goals skip
  ·refine Z5j ?_
   refine Z5y ?_
   refine Z5m ?_
   refine Z7 ?_
   refine Z5n ?_
   refine Z5h ?_
   refine Z5l ?_
   refine Z5o ?_
   refine qm 50 (.bool true) ?_ ?_
   ·refine Z61 ?_
    refine Z62 ?_
    refine Zi ?_
    refine q7 rfl rfl (fun hg2=>?_) (fun hg2=>?_)
    ·refine Z5r ?_
     refine Z2c ?_
     refine Z2d ?_
     exact Z5z
    ·refine Z5t ?_
     exfalso;simp at hg2
   refine Z1 ?_
   refine q5 rfl (fun hc=>?_) (fun hc=>?_)
   ·refine Z3e ?_
    refine Z1m ?_
    exact Z42
   ·simp at hc
  ·refine Z5j ?_
   refine Z5y ?_
   refine Z5m ?_
   refine Z7 ?_
   refine Z5n ?_
   refine Z5h ?_
   refine Z5y ?_
   refine Z5o ?_
   refine qm 50 (.bool true) ?_ ?_
   ·refine Z61 ?_
    refine Z62 ?_
    refine Zi ?_
    refine q7 rfl rfl (fun hg2=>?_) (fun hg2=>?_)
    ·refine Z5r ?_
     refine Z2c ?_
     refine Z2d ?_
     exact Z5z
    ·refine Z60 ?_
     exfalso;simp at hg2
   refine Z1 ?_
   refine q5 rfl (fun hc=>?_) (fun hc=>?_)
   ·refine Z3e ?_
    refine Z1m ?_
    exact Z42
   ·simp at hc
theorem q3n {α:Type} {l:List α} {k:Nat} {x:α} (h:l[k]?=some x):l.drop k=x :: l.drop (k+1):=by
 obtain ⟨hk,e⟩:=List.getElem?_eq_some_iff.1 h
 rw [List.drop_eq_getElem_cons hk,e]
theorem qjs {l:List Int} (h:sok l=true) {k:Nat} {x y:Int} (hx:l[k]?=some x) (hy:l[k+1]?=some y):x<y:=by
 obtain ⟨h1,rfl⟩:=List.getElem?_eq_some_iff.1 hx
 obtain ⟨h2,rfl⟩:=List.getElem?_eq_some_iff.1 hy
 exact q9j h h2
theorem qb0 {l:List Int} (h:sok l=true) {i k:Nat} {x y:Int} (hx:l[i]?=some x) (hy:l[k]?=some y) (hik:i≤k) (hc:l.drop i=rng x y++l.drop (k+1)) (hxy:y-x=((k-i:Nat):Int)) (hn:∀ z,l[k+1]?=some z→z≠y+1):q18 (l.drop i)=(x,y) :: q18 (l.drop (k+1)):=by
 rw [hc]
 refine q50 (k-i) x y _ hxy ?_
 intro a' b' r e
 obtain ⟨t,ht⟩:=qbz e
 have hz:l[k+1]?=some a':=by
  have:=congrArg (·[0]?) ht
  simpa using this
 have h1:=qjs h hy hz
 have h2:=hn a' hz
 omega
structure GSh where
 rs:List (Int×Int)
 i:Nat
set_option maxHeartbeats 0 in
theorem qdo (E:Errs) (l:List Int) (hl:l.length≤1000000) (H:q8):ACL Tryz.prog (KS E) 20 [.pl (l.map q3d)] H (Ret (.str (bs (q2m l))) H):=by
 have hl64:l.length≤9223372036854775807:=by omega
 refine ACL.body (N:=59) [.tmp 2] Tryz.func20 rfl rfl rfl (Nat.le_of_ble_eq_true rfl) fun B hB=>?_
 try dsimp only [KS,q8j]
 refine Z63 ?_
 refine Z2l ?_
 refine Z3x ?_
 refine Z3y ?_
 refine q5 rfl (fun hc=>?_) (fun hc=>?_)
 ·have hs:sok l=false:=by simpa using hc
  rw [q2m,hs,if_neg (by simp)]
  refine Z4q ?_
  exact Z5e
 have hs:sok l=true:=by simpa using hc
 have hl256:=q5m hs
 refine Z3g ?_
 refine Z64 ?_
 refine qi ?_
 refine Z4 ?_
 refine Z5v ?_
 refine Z1a ?_
 refine qz (G:=GSh) (fun g=>g.i≤l.length∧q18 l=g.rs++q18 (l.drop g.i)∧g.rs.length≤g.i) (fun g=>[(KT,KD.av),(KT+1,KP.av),(KT+2,(KY E).av),(KT+3,(KR E).av),(0,.pl (l.map q3d)),(3,.sl (Lid H.length 0) g.rs.length 0 g.rs.length g.rs.length),(4,.int .i64 (g.i:Int))]) (fun g=>H++[⟨g.rs.length,1,((g.rs.map qy).map bs).map qd6⟩]) (fun g=>l.length-g.i) ⟨[],0⟩ ⟨Nat.zero_le _,rfl,Nat.le_refl _⟩ Y3 (.inl rfl) ?_
 rintro ⟨rs,i⟩ ⟨i1,i2,i3⟩
 simp only at i1 i2 i3 ⊢
 refine Zy ?_
 refine Z36 ?_
 refine Z1b ?_
 refine q5 rfl (fun hc=>?_) (fun hc=>?_)
 ·have hi:i<l.length:=by simpa using hc
  obtain ⟨x,hx,hxl⟩:=q1n hi
  have hxr:=q5j hs hxl
  refine Zy ?_
  refine Z4b ?_
  refine qz (G:=Nat) (fun k=>i≤k∧k<l.length∧∃ y,l[k]?=some y∧y-x=((k-i:Nat):Int)∧l.drop i=rng x y++l.drop (k+1)) (fun k=>[(KT,KD.av),(KT+1,KP.av),(KT+2,(KY E).av),(KT+3,(KR E).av),(0,.pl (l.map q3d)),(3,.sl (Lid H.length 0) rs.length 0 rs.length rs.length),(4,.int .i64 (i:Int)),(5,.int .i64 (k:Int))]) (fun _=>H++[⟨rs.length,1,((rs.map qy).map bs).map qd6⟩]) (fun k=>l.length-k) i ⟨Nat.le_refl _,hi,x,hx,by simp,by rw [q9k,q3n hx];rfl⟩ Y3 (Fit.refl _ _) ?_
  rintro k ⟨j1,j2,y,hy,hyx,hdr⟩
  have hym:y∈l:=List.mem_of_getElem? hy
  have hyr:=q5j hs hym
  have hr1:=qv q3d hy
  by_cases hlast:k+1<l.length
  ·obtain ⟨z,hz,hzl⟩:=q1n hlast
   have hr:=qv q3d hz
   have hzr:=q5j hs hzl
   refine Z1 ?_
   refine q72 32 (.bool (decide (z=y+1))) ?_ ?_
   ·refine Z1c ?_
    refine Z65 ?_
    refine Z2z ?_
    refine Z66 ?_
    refine Z67 ?_
    refine Z68 ?_
    refine Z69 ?_
    refine Z6a ?_
    refine q41 (g:=20) rfl (fun hg5=>?_) (fun hg5=>?_)
    ·refine qdj (g:=20) 6 rfl Ys (by decide) rfl rfl (fun _=>qf (v:=.pl _) rfl) ?_
     refine qdj (g:=20) 7 rfl Ys (by decide) rfl rfl (fun _=>qf (v:=.int _ _) rfl) ?_
     refine qdj (g:=20) 8 rfl Ys (by decide) rfl rfl (fun _=>q24 (r:=((k+1:Nat):Int)) rfl rfl Y2) ?_
     refine qj9 (g:=20) 9 rfl Ys (by decide) rfl rfl (fun G=>qx rfl rfl hr rfl) ?_
     refine qj9 (g:=20) 10 rfl Ys (by decide) rfl rfl (fun G=>q21 (v:=.int _ _) rfl hr rfl) ?_
     refine qdj (g:=20) 11 rfl Ys (by decide) rfl rfl (fun _=>qf (v:=.pl _) rfl) ?_
     refine qdj (g:=20) 12 rfl Ys (by decide) rfl rfl (fun _=>qf (v:=.int _ _) rfl) ?_
     refine qj9 (g:=20) 13 rfl Ys (by decide) rfl rfl (fun G=>qx rfl rfl hr1 rfl) ?_
     refine qj9 (g:=20) 14 rfl Ys (by decide) rfl rfl (fun G=>q21 (v:=.int _ _) rfl hr1 rfl) ?_
     refine qdj (g:=20) 15 rfl Ys (by decide) rfl rfl (fun _=>q24 (r:=y+1) rfl rfl (qb (by omega) (by omega))) ?_
     refine qdj (g:=20) 16 rfl Ys (by decide) rfl rfl (fun _=>qmd rfl rfl) ?_
     refine aq0 17 rfl Ys (by decide) (fun _=>q43 (v:=.bool _) rfl rfl) ?_
     exact Z6b
    ·refine Z6c ?_
     refine Z6d ?_
     refine Z6e ?_
     refine Z6f ?_
     refine Z6g ?_
     refine Z6h ?_
     refine Z6i ?_
     refine Z6j ?_
     refine Z6k ?_
     refine Z6l ?_
     refine Z6m ?_
     refine Z6n ?_
     exact q5q Ys Ym (Out.mk (by (refine congrArg AV.bool ?_;(clear hB hl64 hl hdr i2;((refine Bool.eq_iff_iff.mpr ?_;simp only [Bool.and_eq_true,Bool.or_eq_true,Bool.not_eq_true',decide_eq_true_eq,decide_eq_false_iff_not,beq_iff_eq,bne_iff_ne,beq_eq_false_iff_ne,Bool.false_eq_true,Bool.true_eq_false,Bool.and_eq_false_iff,Bool.or_eq_false_iff,List.length_map,false_iff,true_iff,iff_true,iff_false] at *;omega))))) Y5)
   refine Z1 ?_
   refine q5 rfl (fun hc=>?_) (fun hc=>?_)
   ·have hzy:z=y+1:=by simpa using hc
    refine Zy ?_
    refine Z6o ?_
    refine Zb ?_
    refine ⟨k+1,by omega,⟨by omega,hlast,z,hz,by omega,?_⟩,Y3,Fit.refl _ _⟩
    rw [hdr,hzy,qdt (by omega),q3n hz,hzy,List.append_assoc]
    rfl
   ·have hzy:z≠y+1:=by simpa using hc
    have hw:=qb0 hs hx hy j1 hdr hyx (fun z' h'=>by rw [hz] at h';injection h' with h';subst h';exact hzy)
    have hsh:=q3u hxr.1 (by omega:x≤y) hyr.2
    have hdx:=q1q hxr.1 hxr.2
    have hdy:=q1q hyr.1 hyr.2
    refine Z6p ?_
    refine Z6q ?_
    refine Z6r ?_
    refine Z6s ?_
    refine Z17 ?_
    refine Z5m ?_
    refine Z57 ?_
    refine Z3o ?_
    refine qc ?_
    refine Z5g ?_
    refine q2r ([(KT,KD.av),(KT+1,KP.av),(KT+2,(KY E).av),(KT+3,(KR E).av),(0,.pl (l.map q3d)),(3,.sl (Lid H.length 0) rs.length 0 rs.length rs.length),(4,.int .i64 (i:Int)),(5,.int .i64 (k:Int)),(6,.str (bs (qy (x,y))))]) (H++[⟨rs.length,1,((rs.map qy).map bs).map qd6⟩]) ?_ ?_
    ·refine Z1 ?_
     refine q5 rfl (fun hc=>?_) (fun hc=>?_)
     ·have hik:i<k:=by simpa using hc
      refine qi ?_
      refine Z6 ?_
      refine Z6t ?_
      refine Z6u ?_
      refine Z6v ?_
      refine Z6w ?_
      refine Z6x ?_
      refine Z6y ?_
      refine Z18 ?_
      refine Z6z ?_
      refine q4b ?_ (.inl rfl)
      rw [show qy (x,y)=dec x++([45]++dec y) by rw [qy,if_pos (by simp only;omega)];rfl]
      exact Y3
     ·have hik:i=k:=by simp at hc;omega
      refine Z1 ?_
      refine q4b ?_ (.inl rfl)
      rw [show qy (x,y)=dec x by rw [qy,if_neg (by simp only;omega)]]
      exact Y3
    refine Z3j ?_
    refine Z6 ?_
    refine Z70 ?_
    refine Z71 ?_
    refine Z3m ?_
    refine Z5w ?_
    refine Zy ?_
    refine Z6o ?_
    refine Zb ?_
    refine ⟨⟨rs++[(x,y)],k+1⟩,by simp only;omega,⟨by simp only;omega,by simp only;rw [i2,hw];simp,by simp only [List.length_append,List.length_cons,List.length_nil];omega⟩,by simp only [List.length_append,List.length_cons,List.length_nil];exact Y3,Fit.loc hB (G:=[⟨0,1,[eS (qy (x,y))]⟩]) ?_ Y1 ?_⟩
    ·rw [List.take_of_length_le (by simp)]
     simp
    ·intro o ho r hr
     simp only [List.mem_singleton] at ho
     subst ho
     simp only [List.map_append,List.map_map] at hr
     exact q2s (e:=fun r=>qd6 (bs (qy r))) (fun _=>rfl) (rs++[(x,y)]) r (by simpa using hr)
  ·refine Z1 ?_
   refine q72 32 (.bool false) ?_ ?_
   ·refine Z1c ?_
    refine Z65 ?_
    refine Z2z ?_
    refine Z66 ?_
    refine Z67 ?_
    refine Z68 ?_
    refine Z69 ?_
    refine Z6a ?_
    refine q41 (g:=20) rfl (fun hg5=>?_) (fun hg5=>?_)
    ·exfalso;simp at hg5;omega
    ·refine Z6c ?_
     refine Z6d ?_
     refine Z6e ?_
     refine Z6f ?_
     refine Z6g ?_
     refine Z6h ?_
     refine Z6i ?_
     refine Z6j ?_
     refine Z6k ?_
     refine Z6l ?_
     refine Z6m ?_
     refine Z6n ?_
     exact Z6b
   refine Z1 ?_
   refine q5 rfl (fun hc=>?_) (fun hc=>?_)
   ·simp at hc
   ·have hw:=qb0 hs hx hy j1 hdr hyx (fun z' h'=>absurd (List.getElem?_eq_some_iff.1 h').1 hlast)
    have hsh:=q3u hxr.1 (by omega:x≤y) hyr.2
    have hdx:=q1q hxr.1 hxr.2
    have hdy:=q1q hyr.1 hyr.2
    refine Z6p ?_
    refine Z6q ?_
    refine Z6r ?_
    refine Z6s ?_
    refine Z17 ?_
    refine Z5m ?_
    refine Z57 ?_
    refine Z3o ?_
    refine qc ?_
    refine Z5g ?_
    refine q2r ([(KT,KD.av),(KT+1,KP.av),(KT+2,(KY E).av),(KT+3,(KR E).av),(0,.pl (l.map q3d)),(3,.sl (Lid H.length 0) rs.length 0 rs.length rs.length),(4,.int .i64 (i:Int)),(5,.int .i64 (k:Int)),(6,.str (bs (qy (x,y))))]) (H++[⟨rs.length,1,((rs.map qy).map bs).map qd6⟩]) ?_ ?_
    ·refine Z1 ?_
     refine q5 rfl (fun hc=>?_) (fun hc=>?_)
     ·have hik:i<k:=by simpa using hc
      refine qi ?_
      refine Z6 ?_
      refine Z6t ?_
      refine Z6u ?_
      refine Z6v ?_
      refine Z6w ?_
      refine Z6x ?_
      refine Z6y ?_
      refine Z18 ?_
      refine Z6z ?_
      refine q4b ?_ (.inl rfl)
      rw [show qy (x,y)=dec x++([45]++dec y) by rw [qy,if_pos (by simp only;omega)];rfl]
      exact Y3
     ·have hik:i=k:=by simp at hc;omega
      refine Z1 ?_
      refine q4b ?_ (.inl rfl)
      rw [show qy (x,y)=dec x by rw [qy,if_neg (by simp only;omega)]]
      exact Y3
    refine Z3j ?_
    refine Z6 ?_
    refine Z70 ?_
    refine Z71 ?_
    refine Z3m ?_
    refine Z5w ?_
    refine Zy ?_
    refine Z6o ?_
    refine Zb ?_
    refine ⟨⟨rs++[(x,y)],k+1⟩,by simp only;omega,⟨by simp only;omega,by simp only;rw [i2,hw];simp,by simp only [List.length_append,List.length_cons,List.length_nil];omega⟩,by simp only [List.length_append,List.length_cons,List.length_nil];exact Y3,Fit.loc hB (G:=[⟨0,1,[eS (qy (x,y))]⟩]) ?_ Y1 ?_⟩
    ·rw [List.take_of_length_le (by simp)]
     simp
    ·intro o ho r hr
     simp only [List.mem_singleton] at ho
     subst ho
     simp only [List.map_append,List.map_map] at hr
     exact q2s (e:=fun r=>qd6 (bs (qy r))) (fun _=>rfl) (rs++[(x,y)]) r (by simpa using hr)
 ·have hil:i=l.length:=by simp at hc;omega
  subst hil
  have hrs:q18 l=rs:=by rw [i2,List.drop_length];simp [q18]
  have hlen:=q7l hs
  rw [q22 hs,q29,hrs] at hlen
  have hJ:=fun H':q8=>fun hid=>qhz (id:=Lid H.length 0) (g:=rs.length) (n:=rs.length) (xs:=rs.map qy) (H:=H') hid Yx (by omega)
  rw [List.length_map] at hJ
  refine Z3j ?_
  refine ao2 Yq (V2.call (hJ _ (lk rfl rfl)) rfl) ?_
  refine Z17 ?_
  refine Z5o ?_
  rw [q22 hs,q29,hrs]
  exact Zc
theorem q8r:∀ (s:List UInt8) (x:List UInt8),x∈qk s→x.length≤s.length
 | [],x,h=>by simp [qk] at h;simp [h]
 | c :: r,x,h=>by
  have ih:=q8r r
  simp only [qk] at h
  split at h
  ·rcases List.mem_cons.1 h with rfl | h
   ·simp
   ·have:=ih x h;simp;omega
  ·split at h
   ·rename_i hd tl e
    rw [e] at ih
    rcases List.mem_cons.1 h with rfl | h
    ·have:=ih hd (List.mem_cons_self ..);simp;omega
    ·have:=ih x (List.mem_cons_of_mem _ h);simp;omega
   ·simp only [List.mem_singleton] at h;subst h;simp
theorem q6z:∀ s:List UInt8,(qk s).length≤s.length+1
 | []=>Nat.le_refl _
 | c :: r=>by
  have ih:=q6z r
  simp only [qk]
  split
  ·simp;omega
  ·split
   ·rename_i e;rw [e] at ih;simp at ih ⊢;omega
   ·simp
theorem qiq {s:List UInt8} {l:List Int} (h:qcj s=some l):l.length≤256:=by
 unfold qcj at h
 split at h
 ·split at h
  ·cases h
  ·obtain rfl:=Option.some.inj h
   exact qi5 (by omega) (by omega)
 ·cases h
structure GPa where
 out:List Int
 k:Nat
set_option maxHeartbeats 0 in
theorem qfb (E:Errs) (s:List UInt8) (hs0:s.length≤1000000) (H:q8):ACL Tryz.prog (KS E) 42 [.str (bs s)] H (Ret (.tup [.pl ((q3q s).1.map q3d),.int .i64 (q3q s).2]) H):=by
 refine ACL.body (N:=45) [.tmp 2,.tmp 3] Tryz.func42 rfl rfl rfl (Nat.le_of_ble_eq_true rfl) fun B hB=>?_
 try dsimp only [KS,q8j]
 refine Z3w ?_
 refine Z7 ?_
 refine Z51 ?_
 refine Z3o ?_
 refine Za ?_
 refine q5 rfl (fun hc=>?_) (fun hc=>?_)
 ·have hl:8192<s.length:=by simp at hc;omega
  rw [q3q,if_pos hl]
  refine Z3w ?_
  try dsimp only
  exact Z42
 have hl:¬ 8192<s.length:=by simp at hc;omega
 refine Z7 ?_
 refine Z4y ?_
 refine Za ?_
 refine q5 rfl (fun hc=>?_) (fun hc=>?_)
 ·have hn:s=[]:=by simpa using hc
  rw [q3q,if_neg hl,if_pos hn]
  refine Z3w ?_
  try dsimp only
  exact Z42
 have hn:¬ s=[]:=by simpa using hc
 have hP:q3q s=match q1j [] (qk s) with
  | none=>([],3)
  | some out=>if q2m out=s then (out,0) else ([],3):=by rw [q3q,if_neg hl,if_neg hn];try rfl
 have hmany:=q6z s
 refine Z3g ?_
 refine q2z (k:=0) 4 1 rfl (by decide) rfl ?_
 refine qi ?_
 refine Z6 ?_
 refine ao2 Yq (V2.call (qfr s (by omega) _) rfl) ?_
 refine Z2o ?_
 refine Z72 ?_
 refine Z1a ?_
 refine qz (G:=GPa) (fun g=>g.k≤(qk s).length∧q1j [] (qk s)=q1j g.out ((qk s).drop g.k)∧g.out.length≤256) (fun g=>[(KT,KD.av),(KT+1,KP.av),(KT+2,(KY E).av),(KT+3,(KR E).av),(0,.str (bs s)),(4,.sl (Lid H.length 0) g.k 0 g.out.length g.out.length),(15,.pl ((qk s).map eS)),(16,.int .i64 (((qk s).map eS).length:Int)),(17,.int .i64 (g.k:Int))]) (fun g=>H++[⟨g.k,1,g.out.map q3d⟩]) (fun g=>(qk s).length-g.k) ⟨[],0⟩ ⟨Nat.zero_le _,rfl,Nat.zero_le _⟩ Y3 (.inl rfl) ?_
 rintro ⟨out,k⟩ ⟨i1,i2,i3⟩
 simp only at i1 i2 i3 ⊢
 refine Z2p ?_
 refine q5 rfl (fun hc=>?_) (fun hc=>?_)
 ·have hk:k<(qk s).length:=by simpa using hc
  obtain ⟨x,hx,hxl⟩:=q1n hk
  have hr:=qv eS hx
  have hxn:=q8r s x hxl
  have hcol:q1j [] (qk s)=match qcj x with
   | none=>none
   | some l=>if 256<out.length+l.length then none else q1j (out++l) ((qk s).drop (k+1)):=by
   rw [i2,q3n hx,q1j];try rfl
  refine Z2r ?_
  refine Z73 ?_
  refine Z18 ?_
  refine Z7 ?_
  refine ao2 Yq (V2.callL (qjl E x (by omega) _) rfl ⟨rfl,rfl,rfl,rfl,trivial⟩) ?_
  refine Z74 ?_
  refine Z35 ?_
  refine Z43 ?_
  refine Z1m ?_
  try dsimp only [put]
  cases hp:qcj x with
  | none =>
   rw [show qhh x=([],false) by rw [qhh,hp]]
   rw [hp] at hcol
   rw [hcol] at hP
   simp only at hP
   rw [hP]
   refine Z1 ?_
   refine qm 35 (.bool true) ?_ ?_
   ·refine Zi ?_
    refine Z16 ?_
    refine Zi ?_
    refine q7 rfl rfl (fun hg2=>?_) (fun hg2=>?_)
    ·refine Z2b ?_
     refine Z2b ?_
     refine Z2b ?_
     exact Z5z
    ·refine Z75 ?_
     refine Z76 ?_
     refine Z3p ?_
     refine Z77 ?_
     refine q12 rfl rfl (by decide) (q24 rfl rfl rfl) ?_
     refine Z2f ?_
     refine Zr ?_
     exact Z1s
   refine Z1 ?_
   refine q5 rfl (fun hc=>?_) (fun hc=>?_)
   ·refine Z3w ?_
    try dsimp only
    exact Z42
   ·simp at hc
  | some l =>
   rw [show qhh x=(l,true) by rw [qhh,hp]]
   rw [hp] at hcol
   simp only at hcol
   have hll:=qiq hp
   refine Z1 ?_
   refine qm 35 (.bool (decide (256<out.length+l.length))) ?_ ?_
   ·refine Zi ?_
    refine Z16 ?_
    refine Zi ?_
    refine q7 rfl rfl (fun hg2=>?_) (fun hg2=>?_)
    ·refine Z2b ?_
     refine Z2b ?_
     refine Z2b ?_
     refine Zm ?_
     exact qc (Out.mk (by (refine congrArg AV.bool ?_;(clear hB hP hcol i2;(simp_all;done)))) Y5)
    ·refine Z75 ?_
     refine Z76 ?_
     refine Z3p ?_
     refine Z77 ?_
     refine q12 rfl rfl (by decide) (q24 (r:=((out.length+l.length:Nat):Int)) rfl rfl (by rw [List.length_map,show (out.length:Int)+(l.length:Int)=((out.length+l.length:Nat):Int) by omega];exact qb (by omega) (by omega))) ?_
     refine Z2f ?_
     refine Zr ?_
     exact qc (Out.mk (by (refine congrArg AV.bool ?_;(clear hB hP hcol i2;((refine Bool.eq_iff_iff.mpr ?_;simp only [Bool.and_eq_true,Bool.or_eq_true,Bool.not_eq_true',decide_eq_true_eq,decide_eq_false_iff_not,beq_iff_eq,bne_iff_ne,beq_eq_false_iff_ne,Bool.false_eq_true,Bool.true_eq_false,Bool.and_eq_false_iff,Bool.or_eq_false_iff,List.length_map,false_iff,true_iff,iff_true,iff_false] at *;omega))))) Y5)
   refine Z1 ?_
   refine q5 rfl (fun hc=>?_) (fun hc=>?_)
   ·have hov:256<out.length+l.length:=by simpa using hc
    rw [if_pos hov] at hcol
    rw [hcol] at hP
    simp only at hP
    rw [hP]
    refine Z3w ?_
    try dsimp only
    exact Z42
   ·have hov:¬ 256<out.length+l.length:=by simpa using hc
    rw [if_neg hov] at hcol
    refine Z3j ?_
    refine Z2k ?_
    refine ao2 Yq (q6g (sz:=1) (bytes:=8) rfl rfl rfl rfl rfl (Src.pl rfl (qhm l)) rfl (by simp) Yx Yx) ?_
    refine Z3m ?_
    refine Z2x ?_
    refine Z2 ?_
    refine Z6o ?_
    refine Z32 ?_
    refine ⟨⟨out++l,k+1⟩,by simp only;omega,⟨by simp only;omega,by simp only;exact hcol,by simp only [List.length_append];omega⟩,by simp only [List.length_append];rw [List.length_map];exact Y3,.inl ?_⟩
    rw [List.take_of_length_le (by simp)]
    simp
 ·have hk:k=(qk s).length:=by simp at hc;omega
  subst hk
  rw [List.drop_length] at i2
  simp only [q1j] at i2
  rw [i2] at hP
  simp only at hP
  refine Z1a ?_
  refine qt (ys:=out.map q3d) 4 rfl rfl rfl rfl Y7 (by simp) (qa5 0 _) ?_
  refine qi ?_
  refine Z2k ?_
  refine ao2 Yq (V2.callL (qdo E out (by omega) _) rfl ⟨rfl,rfl,rfl,rfl,trivial⟩) ?_
  refine Z6 ?_
  refine ao1 (by decide) (qj6 rfl rfl) ?_
  refine qc ?_
  refine Z2x ?_
  refine Z1 ?_
  refine q5 rfl (fun hc=>?_) (fun hc=>?_)
  ·have hne:¬ q2m out=s:=by simpa using hc
   rw [if_neg hne] at hP
   rw [hP]
   refine Z3w ?_
   try dsimp only
   exact Z42
  ·have he:q2m out=s:=by simpa using hc
   rw [if_pos he] at hP
   rw [hP]
   refine Z2l ?_
   refine Z43 ?_
   refine Z4 ?_
   try dsimp only
   exact Z78
end Go.Av
namespace Go.Av
theorem q8z {c:UInt8}:∀ {l:List UInt8},c∈l→q9 c l=l.takeWhile (· != c) :: q9 c (l.dropWhile (· != c)).tail
 | [],h=>by cases h
 | x :: r,h=>by
  by_cases e:x=c
  ·subst e
   simp [q9]
  ·have hr:c∈r:=by
    rcases List.mem_cons.1 h with h | h
    ·exact absurd h.symm e
    ·exact h
   have e2:(x != c)=true:=by simpa using e
   rw [q9,if_neg e,q8z hr,List.takeWhile_cons,List.dropWhile_cons,e2]
   simp
theorem q8s {c:UInt8}:∀ {l:List UInt8},c∈l→Lib.countByte l c=Lib.countByte (l.dropWhile (· != c)).tail c+1
 | [],h=>by cases h
 | x :: r,h=>by
  unfold Lib.countByte at *
  by_cases e:x=c
  ·subst e
   simp
  ·have hr:c∈r:=by
    rcases List.mem_cons.1 h with h | h
    ·exact absurd h.symm e
    ·exact h
   have e2:(x != c)=true:=by simpa using e
   have ih:=q8s hr
   unfold Lib.countByte at ih
   rw [List.count_cons_of_ne e,ih,List.dropWhile_cons,e2]
   simp
theorem qhb (c:UInt8) (l:List UInt8):Lib.countByte l c≤l.length:=List.count_le_length
theorem count_memB {c:UInt8} {l:List UInt8}:0<Lib.countByte l c↔c∈l:=by
 unfold Lib.countByte;exact List.count_pos_iff
theorem qjv {O:Nat→Prop} {w:World} {S:List Slot} {cargs:Array Value} {v v' v'':AV} (h:VRs O w S [v,v',v''] cargs):∃ u u' u'',cargs = #[u,u',u'']∧VR O w S v u∧VR O w S v' u'∧VR O w S v'' u'':=by
 have hsz:cargs.size=3:=by have:=h.1;simpa using this.symm
 refine ⟨cargs[0],cargs[1],cargs[2],?_,h.2 0 _ _ rfl (Array.getElem?_eq_getElem (by omega)),h.2 1 _ _ rfl (Array.getElem?_eq_getElem (by omega)),h.2 2 _ _ rfl (Array.getElem?_eq_getElem (by omega))⟩
 apply Array.ext
 ·simp [hsz]
 ·intro i k1 k2
  have:i=0∨i=1∨i=2:=by simp at k2;omega
  rcases this with rfl | rfl | rfl<;>rfl
section
variable {P : Program} {N : Nat} {env : Env} {H : q8} {ty : TypeId}
theorem V2.callvL {Ks:q55} {f:Nat} {x:Operand} {xs:Array Operand} {ts:Array TypeId} {v:AV} {ps qs vs:List AV} {M:q8} [FnI P f] (hac:ACL P Ks f vs H (Ret v M)) (hx:aev env x = .fn (.func f) ps qs) (hvs:ps++xs.toList.map (aev env)++qs=vs) (hk:KnE Ks env) :
  V2 P N (.call { callee:=.value x,args:=xs,argTypes:=ts }) ty env H v M:=by
 subst hvs
 intro dst pos after guard S a w hc next Q hn hp
 have hv:=hc.ev x
 rw [hx] at hv
 generalize he:a.eval x=u at hv
 cases hv with
 | @fn _ _ _ _ p' q' hp' hq h1 h2 =>
  have hrun:(execOp a.eval ⟨dst,.call { callee:=.value x,args:=xs,argTypes:=ts },ty,pos,after,guard⟩).run P w = .ok (.enter f (p'++xs.map a.eval++q')) w:=by
   simp [execOp,resolve,he,Deferred.ofValue,invoke,q1m (P:=P) (f:=f)]
  unfold Oper.wp
  rw [hrun]
  refine (hac S w (p'++xs.map a.eval++q') (hk.ok hc) hc.heap (VRs.append (VRs.append ⟨hp',h1⟩ (q91 hc xs)) ⟨hq,h2⟩)).mono ?_
  rintro e w' ⟨out,H',S',⟨rfl,rfl⟩,hout,hh,hx'⟩
  cases hout with
  | ret hv=>exact hn _ _ _ S' w' ⟨rfl,rfl⟩ hh hx' hv
end
end Go.Av
