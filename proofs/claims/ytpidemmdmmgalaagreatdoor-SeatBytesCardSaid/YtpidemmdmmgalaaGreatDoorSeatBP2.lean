/- Parts of the proof: rules for an abstract memory, plain laws, and walks through the program. -/
import Derived.Test.YtpidemmdmmgalaaGreatDoorSeatBP0
import Derived.Test.YtpidemmdmmgalaaGreatDoorSeatBP1
import Derived.Lib.SlicesCompact
import Derived.DataReads
import Derived.ChangeOld
import Derived.WalkKit
import Derived.ProofKit
import Derived.OpenShut
import Derived.ShutString
import Derived.Below
import Derived.SizedLaws
import Derived.Carry
set_option maxRecDepth 10000
set_option linter.unusedVariables false
set_option linter.unusedSimpArgs false
namespace Go.Av
theorem qc6:∀ {a b:List Int},a.Pairwise (· < ·)→b.Pairwise (· < ·)→(∀ x,x∈a↔x∈b)→a=b
 | [],[],_,_,_=>rfl
 | [],y :: b,_,_,h=>absurd ((h y).2 List.mem_cons_self) (by simp)
 | x :: a,[],_,_,h=>absurd ((h x).1 List.mem_cons_self) (by simp)
 | x :: a,y :: b,ha,hb,h=>by
  rw [List.pairwise_cons] at ha hb
  have e:x=y:=by
   rcases List.mem_cons.1 ((h x).1 List.mem_cons_self) with e | e
   ·exact e
   ·rcases List.mem_cons.1 ((h y).2 List.mem_cons_self) with e' | e'
    ·exact e'.symm
    ·have:=hb.1 x e;have:=ha.1 y e';omega
  subst e
  congr 1
  refine qc6 ha.2 hb.2 fun z=>⟨fun hz=>?_,fun hz=>?_⟩
  ·rcases List.mem_cons.1 ((h z).1 (List.mem_cons_of_mem _ hz)) with e | e
   ·have:=ha.1 z hz;omega
   ·exact e
  ·rcases List.mem_cons.1 ((h z).2 (List.mem_cons_of_mem _ hz)) with e | e
   ·have:=hb.1 z hz;omega
   ·exact e
theorem q7o {l:List Int} (h:sok l=true) {k:Nat} (hk:k<l.length):0≤l[k]∧l[k]<256:=q8q (List.getElem?_eq_getElem hk) (q6t h hk)
theorem qpj {l:List Int} (h:sok l=true) {k:Nat} (hk:k+1<l.length):l[k]<l[k+1]:=by
 have h1:=q6t h hk
 rw [qcn (List.getElem?_eq_getElem hk)] at h1
 simp only [Nat.add_sub_cancel,List.getElem?_eq_getElem (Nat.lt_of_succ_lt hk),Bool.and_eq_true,Bool.or_eq_true,decide_eq_true_eq,beq_iff_eq] at h1
 omega
theorem q7i {l:List Int} (h:sok l=true):l.Pairwise (· < ·):=by
 rw [List.pairwise_iff_getElem]
 intro i j hi hj hij
 obtain ⟨d,rfl⟩:∃ d,j=i+1+d:=⟨j-i-1,by omega⟩
 induction d with
 | zero=>exact qpj h hj
 | succ d ih =>
  have h1:=ih (by omega) (by omega)
  have h2:=qpj h (k:=i+1+d) (by omega)
  exact Int.lt_trans h1 h2
theorem q64 {l:List Int} (h:l.Pairwise (· < ·)) (hr:∀ x∈l,0≤x∧x<256):sok l=true:=by
 refine qhu fun k hk=>?_
 rw [qcn (List.getElem?_eq_getElem hk)]
 have h1:=hr l[k] (List.getElem_mem hk)
 simp only [Bool.and_eq_true,Bool.or_eq_true,decide_eq_true_eq,beq_iff_eq]
 refine ⟨h1,?_⟩
 cases k with
 | zero=>exact .inl rfl
 | succ k =>
  refine .inr ?_
  rw [Nat.add_sub_cancel,List.getElem?_eq_getElem (by omega)]
  exact decide_eq_true (List.pairwise_iff_getElem.1 h k (k+1) (by omega) hk (by omega))
theorem mem_setl {f:Nat→Bool} {x:Int}:x∈qfr f↔∃ n:Nat,x=n∧n<256∧f n=true:=by
 unfold qfr
 simp only [List.mem_map,List.mem_filter,List.mem_range]
 constructor
 ·rintro ⟨n,⟨h1,h2⟩,rfl⟩;exact ⟨n,rfl,h1,h2⟩
 ·rintro ⟨n,rfl,h1,h2⟩;exact ⟨n,⟨h1,h2⟩,rfl⟩
theorem qne (f:Nat→Bool):(qfr f).Pairwise (· < ·):=by
 unfold qfr
 rw [List.pairwise_map]
 exact (List.pairwise_lt_range.filter _).imp (by intro a b h;omega)
theorem qik (f:Nat→Bool):sok (qfr f)=true:=q64 (qne f) fun x hx=>by
 obtain ⟨n,rfl,h,_⟩:=mem_setl.1 hx
 omega
theorem inl_mem {l:List Int} {n:Nat}:inl l n=true↔(n:Int)∈l:=by
 unfold inl
 rw [List.any_eq_true]
 constructor
 ·rintro ⟨x,hx,h⟩;obtain rfl:x=n:=by simpa using h
  exact hx
 ·intro h;exact ⟨_,h,by simp⟩
theorem qos (f:Nat→Bool) (n:Nat):inl (qfr f) n=(decide (n<256)&&f n):=by
 rw [Bool.eq_iff_iff,inl_mem,mem_setl]
 simp only [Bool.and_eq_true,decide_eq_true_eq]
 constructor
 ·rintro ⟨m,h,h1,h2⟩;obtain rfl:n=m:=by omega
  exact ⟨h1,h2⟩
 ·rintro ⟨h1,h2⟩;exact ⟨n,rfl,h1,h2⟩
theorem qf8 {l:List Int} (h:sok l=true) {n:Nat} (hn:inl l n=true):n<256:=by
 obtain ⟨k,hk,e⟩:=List.getElem_of_mem (inl_mem.1 hn)
 have:=q7o h hk
 omega
theorem q82 {l:List Int} (h:sok l=true) {x:Int} (hx:x∈l):0≤x∧x<256:=by
 obtain ⟨k,hk,rfl⟩:=List.getElem_of_mem hx
 exact q7o h hk
theorem q10k {a b:List Int} (ha:sok a=true) (hb:sok b=true) (h:∀ n,inl a n=inl b n):a=b:=by
 refine qc6 (q7i ha) (q7i hb) fun x=>?_
 constructor
 ·intro hx
  have:=q82 ha hx
  have h1:inl a x.toNat=true:=inl_mem.2 (by rw [Int.toNat_of_nonneg this.1];exact hx)
  rw [h] at h1
  have:=inl_mem.1 h1
  rwa [Int.toNat_of_nonneg (by omega)] at this
 ·intro hx
  have:=q82 hb hx
  have h1:inl b x.toNat=true:=inl_mem.2 (by rw [Int.toNat_of_nonneg this.1];exact hx)
  rw [← h] at h1
  have:=inl_mem.1 h1
  rwa [Int.toNat_of_nonneg (by omega)] at this
theorem qyc {f:Nat→Bool}:qfr f=[]↔∀ n,n<256→f n=false:=by
 constructor
 ·intro h n hn
  cases hf:f n with
  | false=>rfl
  | true =>
   have:(n:Int)∈qfr f:=mem_setl.2 ⟨n,rfl,hn,hf⟩
   rw [h] at this;cases this
 ·intro h
  refine List.eq_nil_iff_forall_not_mem.2 fun x hx=>?_
  obtain ⟨n,rfl,h1,h2⟩:=mem_setl.1 hx
  rw [h n h1] at h2;cases h2
theorem qng:sok []=true:=by decide
theorem q11f (n:Nat):inl [] n=false:=rfl
def qmm (p:Nat→Bool) (n:Nat):Bool:=(List.range n).all p
theorem q4b {p:Nat→Bool} {n:Nat} (h:∀ i,i<n→p i=true):qmm p n=true:=List.all_eq_true.2 fun k hk=>h k Y1s
theorem q5b {p:Nat→Bool} {n k:Nat} (h:qmm p n=true) (hk:k<n):p k=true:=List.all_eq_true.1 h k Y1s
theorem q48 {p:Nat→Bool} {n k:Nat} (hk:k<n) (h:p k=false):qmm p n=false:=by
 cases e:qmm p n with
 | false=>rfl
 | true=>rw [q5b e hk] at h;cases h
def idx (p:Nat→Bool) (n:Nat):List Int:=((List.range n).filter p).map fun j:Nat=>(j:Int)
theorem qaf (p:Nat→Bool) (n:Nat):idx p (n+1)=idx p n++if p n then [(n:Int)] else []:=by
 rw [idx,List.range_succ,List.filter_append,List.map_append,idx]
 congr 1
 cases h:p n<;>simp [h]
theorem qa7 (p:Nat→Bool) (n:Nat):(idx p n).length≤n:=by
 rw [idx,List.length_map]
 exact Nat.le_trans (List.length_filter_le _ _) (by simp)
theorem idx_mem {p:Nat→Bool} {n:Nat} {x:Int}:x∈idx p n↔∃ k:Nat,x=k∧k<n∧p k=true:=by
 simp only [idx,List.mem_map,List.mem_filter,List.mem_range]
 constructor
 ·rintro ⟨k,⟨h1,h2⟩,rfl⟩;exact ⟨k,rfl,h1,h2⟩
 ·rintro ⟨k,rfl,h1,h2⟩;exact ⟨k,⟨h1,h2⟩,rfl⟩
theorem qgq (p:Nat→Bool) (n:Nat):(idx p n).Pairwise (· < ·):=by
 unfold idx
 rw [List.pairwise_map]
 exact (List.pairwise_lt_range.filter _).imp fun h=>by omega
theorem qna (p:Nat→Bool) {n:Nat} (h:n≤256):sok (idx p n)=true:=q64 (qgq p n) fun x hx=>by
 obtain ⟨k,rfl,h1,_⟩:=idx_mem.1 hx
 omega
structure Thing where
 kind:Int
 up:Int
 tag:ByteArray
 deriving DecidableEq
abbrev qw (t:Thing):List AV:=[.int .i64 t.kind,.int .i64 t.up,.str t.tag]
def qcv:Thing:=⟨0,-1,⟨#[]⟩⟩
def qcm (kind up:Int):Bool:=(decide (kind=1)&&decide (up=0))||(decide (kind=2)&&(decide (up=0)||decide (up=1)))||((decide (kind=3)||decide (kind=4))&&decide (up=2))
def q4f (g:List Thing) (n:Nat):Int:=match g[n]? with
 | some t=>t.kind
 | none=>0
def qmr (g:List Thing) (n:Nat):Int:=match g[n]? with
 | some t=>t.up
 | none=>-1
def qfs (c:Int):Bool:=(decide (97≤c)&&decide (c≤122))||(decide (48≤c)&&decide (c≤57))
def qj3 (b:UInt8):Bool:=qfs (b.toNat:Int)
def q9g (s:ByteArray):Bool:=decide ((s.size:Int)≤16)&&s.data.toList.all qj3
def qzy (t:Int):Int:=max 0 (min t 4611686018427387904)
def plus (t l:Int):Int:=qzy t+min (qzy l) (4611686018427387904-qzy t)
theorem qu7 (t:Int):0≤qzy t∧qzy t≤4611686018427387904:=by unfold qzy;omega
structure Spec where
 nodes:Int
 cores:Int
 gpus:Int
 tag:ByteArray
 whole:Bool
 long:Int
 prio:Int
 deriving DecidableEq
abbrev q1i (s:Spec):List AV:=[.int .i64 s.nodes,.int .i64 s.cores,.int .i64 s.gpus,.str s.tag,.bool s.whole,.int .i64 s.long,.int .i64 s.prio]
def q2e:Spec:=⟨0,0,0,⟨#[]⟩,false,0,0⟩
def qi4 (s:Spec):Bool:=(decide (1≤s.nodes)&&decide (s.nodes≤64))&&(decide (0≤s.cores)&&decide (s.cores≤64))&&(decide (0≤s.gpus)&&decide (s.gpus≤64))
def qpz (s:Spec):Bool:=s.whole||decide (0<s.cores)||decide (0<s.gpus)
def q1c (s:Spec):Bool:=qi4 s&&qpz s&&q9g s.tag&&(decide (1≤s.long)&&decide (s.long≤1099511627776))&&(decide (-1000≤s.prio)&&decide (s.prio≤1000))
theorem q4s {s:Spec} (h:q1c s=true):1≤s.nodes∧s.nodes≤64∧0≤s.cores∧s.cores≤64∧0≤s.gpus∧s.gpus≤64∧1≤s.long∧s.long≤1099511627776∧-1000≤s.prio∧s.prio≤1000:=by
 simp only [q1c,qi4,Bool.and_eq_true,decide_eq_true_eq] at h
 omega
def q21 (s:Spec) (t:Int):Int:=plus t (if q1c s then s.long else 0)
structure Job where
 id:Int
 spec:Spec
 needs:List Int
 state:Int
 came:Int
 frm:Int
 tto:Int
 deriving DecidableEq
def tm (t:Int):Bool:=decide (0≤t)&&decide (t≤4611686018427387904)
def ndB (id:Int) (l:List Int) (i:Nat):Bool:=match l[i]? with
 | none=>true
 | some n=>decide (1≤n)&&decide (n<id)&&(i == 0||match l[i-1]? with
  | some m=>decide (m<n)
  | none=>true)
def qnf (id:Int) (l:List Int):Bool:=(List.range l.length).all (ndB id l)
def qah (j:Job):Bool:=decide (j.needs.length≤16)&&qnf j.id j.needs
theorem qyk {id:Int} {l:List Int} {k:Nat} (hk:k<l.length) (h:ndB id l k=false):qnf id l=false:=by
 cases hs:qnf id l with
 | false=>rfl
 | true =>
  have:=List.all_eq_true.1 hs k Y1s
  rw [h] at this;cases this
theorem qui {id:Int} {l:List Int} (h:∀ k,k<l.length→ndB id l k=true):qnf id l=true:=List.all_eq_true.2 fun k hk=>h k Y1s
theorem qlr {id:Int} {l:List Int} {k:Nat} {n:Int} (hn:l[k]?=some n):ndB id l k=(decide (1≤n)&&decide (n<id)&&(k == 0||match l[k-1]? with
  | some m=>decide (m<n)
  | none=>true)):=by rw [ndB,hn]
def qat (j:Job):Bool:=tm j.frm&&decide (j.came≤j.frm)
def qet (j:Job):Bool:=tm j.tto&&decide (max j.came j.frm≤j.tto)
def q4q (j:Job):Bool :=
 if j.state=0∨j.state=1 then j.frm == 0&&j.tto == 0
 else if j.state=2 then qat j&&j.tto == 0
 else if j.state=3∨j.state=4 then qat j&&qet j
 else if j.state=5 then (qat j||j.frm == 0)&&qet j
 else j.state == 6&&j.frm == 0&&qet j
def q28 (j:Job):Bool:=decide (1≤j.id)&&decide (j.id≤1073741824)&&q1c j.spec&&qah j&&tm j.came&&q4q j
theorem qcd {j:Job} (h:tm j.came=true):q4q j=(decide (0≤j.state)&&decide (j.state≤6)&&tm j.frm&&tm j.tto&&(if j.state=0∨j.state=1∨j.state=6 then decide (j.frm=0) else decide (j.came≤j.frm)||(decide (j.state=5)&&decide (j.frm=0)))&&(if j.state<3 then decide (j.tto=0) else decide (j.came≤j.tto)&&decide (j.frm≤j.tto))):=by
 rw [Bool.eq_iff_iff]
 unfold q4q qat qet tm at *
 simp only [Bool.and_eq_true,decide_eq_true_eq] at h
 repeat' split
 all_goals simp only [Bool.and_eq_true,Bool.or_eq_true,decide_eq_true_eq,beq_iff_eq]
 all_goals omega
def q56 (s w:Int):Option Int :=
 if s=0∧w=1 then some 1 else if s=1∧w=2 then some 0 else if s=0∧w=3 then some 2 else if s=2∧w=4 then some 3 else if s=2∧w=5 then some 4 else if s≤2∧w=6 then some 5 else if s<2∧w=7 then some 6 else none
def nx (s w:Int):Int×Bool:=match q56 s w with
 | some t=>(t,true)
 | none=>(s,false)
def q5h (s:Int):Bool:=decide (3≤s)&&decide (s≤6)
def q4j (j:Job) (s now:Int):Job:=⟨j.id,j.spec,j.needs,s,j.came,if s=2 then now else j.frm,if q5h s then now else j.tto⟩
def qmz (j:Job) (w now:Int):Bool:=!q28 j||decide (w<1)||decide (7<w)||!tm now||decide (now<max j.came j.frm)
def jdo (j:Job) (w now:Int):Job×Int:=if qmz j w now then (j,1) else match q56 j.state w with
 | none=>(j,8)
 | some s=>(q4j j s now,0)
theorem q8l {j:Job} (h:q28 j=true):0≤j.state∧j.state≤6:=by
 have h5:tm j.came=true:=by simp only [q28,Bool.and_eq_true] at h;exact h.1.2
 have ht:q4q j=true:=by simp only [q28,Bool.and_eq_true] at h;exact h.2
 rw [qcd h5] at ht
 simp only [Bool.and_eq_true,decide_eq_true_eq] at ht
 omega
theorem qoe (f:Nat→Bool) (n:Nat):(qrb f n).length≤64 * n:=by
 rw [qrb,List.length_map]
 exact Nat.le_trans (List.length_filter_le _ _) (by simp)
theorem qxb (f:Nat→Bool):(qfr f).length≤256:=qoe f 4
def q8b (op:Bool→Bool→Bool) (a b:List Int):List Int:=if sok a&&sok b then qfr (fun n=>op (inl a n) (inl b n)) else []
theorem qap (op:Bool→Bool→Bool) (a b:List Int):(q8b op a b).length≤256:=by
 unfold q8b
 split
 ·exact qxb _
 ·exact Nat.zero_le _
def q33 (a b:List Int):Bool:=sok a&&sok b&&decide (qfr (fun n=>inl a n&&!inl b n)=[])
def qk3 (a b:List Int):Bool:=sok a&&sok b&&decide (qfr (fun n=>inl a n&&inl b n)=[])
theorem qe2 {op:Bool→Bool→Bool} {a b:List Int} (ha:sok a=true) (hb:sok b=true) (hop:op false false=false) (n:Nat):inl (q8b op a b) n=op (inl a n) (inl b n):=by
 rw [q8b,ha,hb,Bool.and_self,if_pos rfl,qos]
 by_cases hn:n<256
 ·simp [hn]
 ·have h1:inl a n=false:=by
   cases h:inl a n with
   | false=>rfl
   | true=>exact absurd (qf8 ha h) hn
  have h2:inl b n=false:=by
   cases h:inl b n with
   | false=>rfl
   | true=>exact absurd (qf8 hb h) hn
  rw [h1,h2,hop];simp
theorem q8p (op:Bool→Bool→Bool) (a b:List Int):sok (q8b op a b)=true:=by
 unfold q8b
 split
 ·exact qik _
 ·exact qng
theorem spart_iff {a b:List Int}:q33 a b=true↔sok a=true∧sok b=true∧∀ n,inl a n=true→inl b n=true:=by
 unfold q33
 rw [Bool.and_eq_true,Bool.and_eq_true,decide_eq_true_eq,qyc]
 constructor
 ·rintro ⟨⟨h1,h2⟩,h3⟩
  refine ⟨h1,h2,fun n hn=>?_⟩
  have:=h3 n (qf8 h1 hn)
  simpa [hn] using this
 ·rintro ⟨h1,h2,h3⟩
  refine ⟨⟨h1,h2⟩,fun n _=>?_⟩
  cases ha:inl a n with
  | false=>rfl
  | true=>simp [h3 n ha]
abbrev qff (a b:List Int):List Int:=q8b (·||·) a b
abbrev q7b (a b:List Int):List Int:=q8b (·&&·) a b
abbrev qra (a b:List Int):List Int:=q8b (fun x y=>x&&!y) a b
section
variable {a b c : List Int}
theorem q10g (ha:sok a=true) (hb:sok b=true) (n:Nat):inl (qff a b) n=(inl a n||inl b n):=qe2 ha hb rfl n
theorem qnh (ha:sok a=true) (hb:sok b=true) (n:Nat):inl (q7b a b) n=(inl a n&&inl b n):=qe2 ha hb rfl n
theorem q10h (ha:sok a=true) (hb:sok b=true) (n:Nat):inl (qra a b) n=(inl a n&&!inl b n):=qe2 ha hb rfl n
end
def qm3 (g:List Thing) (i:Nat):Bool:=match g[i+1]? with
 | some t=>decide (0≤t.up)&&decide (t.up≤(i:Int))&&qcm t.kind (q4f g t.up.toNat)&&q9g t.tag&&(decide (t.tag=⟨#[]⟩)||decide (t.kind=2))
 | none=>true
def q2g (g:List Thing):Bool:=decide (1≤g.length)&&decide (g.length≤256)&&decide (g[0]?=some qcv)&&qmm (qm3 g) (g.length-1)
def qwi (g:List Thing) (n:Int):Nat→List Bool
 | 0=>[]
 | k+1=>qwi g n k++[decide ((k:Int)=n)||(decide (0≤qmr g k)&&(qwi g n k).getD (qmr g k).toNat false)]
def q89 (g:List Thing) (n:Int):Bool:=decide (0≤n)&&decide (n<(g.length:Int))&&q2g g
def q68 (g:List Thing) (n:Int):List Int:=if q89 g n then idx (fun k=>(qwi g n g.length).getD k false) g.length else []
def q51 (g:List Thing) (h:List Int):Bool:=q2g g&&decide (h.length=g.length)&&!(h.any fun n=>decide (n<0)||decide (2<n))
def q4t (g:List Thing) (h:List Int):Nat→List Int
 | 0=>[]
 | k+1=>q4t g h k++[if 0≤qmr g k then max (h.getD k 0) ((q4t g h k).getD (qmr g k).toNat 0) else h.getD k 0]
def q2p (g:List Thing) (h:List Int) (most:Int):List Int:=if q51 g h then idx (fun k=>decide ((q4t g h g.length).getD k 0≤most)) g.length else []
structure Held where
 id:Int
 things:List Int
 frm:Int
 tto:Int
 deriving DecidableEq
def ql6:Held:=⟨0,[],0,0⟩
def qj6 (a b c d:Int):Bool:=decide (max a c<min b d)
def hmay (h:Held):Bool:=decide (0<h.things.length)&&sok h.things&&tm h.frm&&tm h.tto&&decide (h.frm<h.tto)
def q5y (a b:Held):Bool:=qj6 a.frm a.tto b.frm b.tto&&!qk3 a.things b.things
def qay (l:List Held) (i:Nat):Int:=match l[i]? with
 | some h=>h.id
 | none=>0
def qcl (l:List Held) (i:Nat):Bool:=match l[i]? with
 | some h=>hmay h&&!(decide (0<i)&&decide (h.id≤qay l (i-1)))&&!((l.take i).any fun x=>q5y x h)
 | none=>true
def q2a (l:List Held):Bool:=decide (l.length≤256)&&qmm (qcl l) l.length
def q2k (l:List Held) (id:Int):Nat:=(l.takeWhile fun h=>decide (h.id<id)).length
def q2w (l:List Held) (id:Int):Bool:=decide (q2k l id<l.length)&&decide (qay l (q2k l id)=id)
def qg7 (l:List Held) (k:Nat):Held:=l.getD k ql6
def q1d (l:List Held) (h:Held):List Held×Int :=
 if !(q2a l&&hmay h) then (l,1) else if q2w l h.id then (l,7) else if decide (l.length=256)||l.any (fun x=>q5y x h) then (l,5)
 else (l.take (q2k l h.id)++h :: l.drop (q2k l h.id),0)
def q1o (l:List Held) (id:Int):List Held×Held×Int :=
 if !q2a l then (l,ql6,1) else if !q2w l id then (l,ql6,6) else (l.eraseIdx (q2k l id),qg7 l (q2k l id),0)
def q2d (l:List Held) (id:Int):Held×Bool:=if q2a l&&q2w l id then (qg7 l (q2k l id),true) else (ql6,false)
def qb3 (l:List Held) (frm tto:Int):List Int:=l.foldl (fun out h=>if qj6 h.frm h.tto frm tto then qff out h.things else out) []
def q1r (l:List Held) (now:Int):List Held×List Held:=if q2a l then (l.filter (fun h=>!decide (h.tto≤now)),l.filter (fun h=>decide (h.tto≤now))) else (l,[])
def job0:Job:=⟨0,q2e,[],0,0,0,0⟩
def q37 (l:List Job) (k:Nat):Job:=l.getD k job0
def qe6 (l:List Job) (i:Nat):Int:=(q37 l i).id
def q1g (l:List Job) (id:Int):Nat:=(l.takeWhile fun j=>decide (j.id<id)).length
def q2u (l:List Job) (id:Int):Bool:=decide (q1g l id<l.length)&&decide (qe6 l (q1g l id)=id)
def qn5 (l:List Job) (i:Nat):Bool:=match l[i]? with
 | some j=>q28 j&&!(decide (0<i)&&(decide (j.id≤qe6 l (i-1))||decide (j.came<(q37 l (i-1)).came)))&&j.needs.all fun n=>q2u (l.take i) n
 | none=>true
def q2v (l:List Job):Bool:=decide (l.length≤64)&&qmm (qn5 l) l.length
def qai (l:List Int):Bool:=qmm (fun i=>decide ((if i=0 then 0 else l.getD (i-1) 0)<l.getD i 0)) l.length&&decide (l.length≤16)
def q1t (l:List Job):Job:=if l.length=0 then job0 else q37 l (l.length-1)
def q19 (l:List Job) (s:Spec) (needs:List Int) (now:Int):List Job×Int×Int :=
 if !(q2v l&&q1c s&&qai needs&&tm now)||decide (now<(q1t l).came) then (l,0,1)
 else if !(needs.all fun n=>q2u l n) then (l,0,6)
 else if l.length=64 then (l,0,5) else if (q1t l).id=1073741824 then (l,0,9)
 else (l++[⟨(q1t l).id+1,s,needs,0,now,0,0⟩],(q1t l).id+1,0)
def q2y (l:List Job) (id what now:Int):List Job×Int :=
 if !q2v l then (l,1) else if !q2u l id then (l,6) else (l.set (q1g l id) (jdo (q37 l (q1g l id)) what now).1,(jdo (q37 l (q1g l id)) what now).2)
def q49 (l:List Job) (id:Int):Job×Bool:=if q2v l&&q2u l id then (q37 l (q1g l id),true) else (job0,false)
def qlb (l:List Job):List Job:=l.filter fun j=>decide (j.state=0)&&j.needs.all fun n=>decide ((q37 l (q1g l n)).state=3)
def byPrio:List Job→List Job
 | []=>[]
 | j :: l=>insP j (byPrio l)
where insP (j:Job):List Job→List Job
 | []=>[j]
 | x :: l=>if x.spec.prio≤j.spec.prio then j :: x :: l else x :: insP j l
def q1h (l:List Job):List Int:=if q2v l then (byPrio (qlb l)).map (·.id) else []
def qdy (l:List Job):Nat→List Bool
 | 0=>[]
 | k+1=>qdy l k++[decide ((q37 l k).state≤1)&&(q37 l k).needs.any fun n=>(qdy l k).getD (q1g l n) false||(q5h (q37 l (q1g l n)).state&&decide ((q37 l (q1g l n)).state≠3))]
def q43 (l:List Job):List Int:=if q2v l then (l.zipIdx.filter fun p=>(qdy l l.length).getD p.2 false).map (·.1.id) else []
def q6h (g:List Thing) (node:Nat):List Int:=idx (fun i=>decide (2<q4f g i)&&decide (qmr g i=(node:Int))) g.length
def q8s (g:List Thing) (free:List Int) (node:Nat) (kind most:Int):List Int:=((q6h g node).filter fun n=>inl free n.toNat&&decide (q4f g n.toNat=kind)).take most.toNat
def q11p (g:List Thing) (n:Nat):ByteArray:=match g[n]? with
 | some t=>t.tag
 | none=>⟨#[]⟩
def qbj (g:List Thing) (free:List Int) (s:Spec) (node:Nat):List Int×Bool :=
 if !(decide (q4f g node=2)&&inl free node&&(decide (s.tag=⟨#[]⟩)||decide (q11p g node=s.tag))) then ([],false)
 else if decide (((q8s g free node 3 s.cores).length:Int)<s.cores)||decide (((q8s g free node 4 s.gpus).length:Int)<s.gpus) then ([],false)
 else if !s.whole then (qff (q8s g free node 3 s.cores) (q8s g free node 4 s.gpus),true)
 else if (q6h g node).all (fun n=>inl free n.toNat) then ((node:Int) :: q6h g node,true) else ([],false)
def mmay (g:List Thing) (free:List Int) (s:Spec):Bool:=q2g g&&sok free&&q1c s
def q2j (g:List Thing) (free:List Int) (s:Spec):Nat→List Int×Int
 | 0=>([],s.nodes)
 | k+1=>if 0<(q2j g free s k).2∧(qbj g free s k).2=true then (qff (q2j g free s k).1 (qbj g free s k).1,(q2j g free s k).2-1) else q2j g free s k
def qb9 (g:List Thing) (free:List Int) (s:Spec):List Int×Bool :=
 if !mmay g free s then ([],false) else if 0<(q2j g free s g.length).2 then ([],false) else ((q2j g free s g.length).1,true)
def qkv (g:List Thing) (s:Spec):Bool:=(qb9 g (q68 g 0) s).2
def qri (t:Int):List Int→List Int
 | []=>[t]
 | x :: l=>if t<x then t :: x :: l else if t=x then x :: l else x :: qri t l
def qc0 (l:List Int):List Int:=l.foldr qri []
def q46 (l:List Held) (frm:Int):List Int:=if q2a l then qc0 ((l.filter fun h=>decide (frm<h.tto)).map (·.tto)) else []
def q4l (g:List Thing) (use:List Int) (l:List Held) (s:Spec) (t til:Int):List Int×Bool :=
 if !tm t||decide (t=4611686018427387904)||decide (til<q21 s t) then ([],false) else qb9 g (qra use (qb3 l t (q21 s t))) s
def q39 (g:List Thing) (use:List Int) (l:List Held) (s:Spec) (til:Int):List Int→Int×List Int×Bool
 | []=>(0,[],false)
 | t :: ts=>if (q4l g use l s t til).2 then (t,(q4l g use l s t til).1,true) else q39 g use l s til ts
def qv (g:List Thing) (use:List Int) (l:List Held) (s:Spec) (frm til:Int):Int×List Int×Bool :=
 if !q2a l then (0,[],false) else q39 g use l s til (frm :: q46 l frm)
structure Want where
 id:Int
 spec:Spec
 deriving DecidableEq
def qwj (policy depth:Int):Int:=if policy=2 then 1 else if policy=3 then depth else 0
structure PickS where
 l:List Held
 begun:List Held
 kept:List Held
def q7n (g:List Thing) (use:List Int) (now til policy depth:Int):PickS→List Want→List Held×List Held×Int
 | s,[]=>(s.begun,s.kept,0)
 | s,w :: ws =>
  if !(qv g use s.l w.spec now til).2.2 then q7n g use now til policy depth s ws
  else if (qv g use s.l w.spec now til).1≠now∧policy=1 then (s.begun,s.kept,0)
  else if (qv g use s.l w.spec now til).1≠now∧qwj policy depth≤(s.kept.length:Int) then q7n g use now til policy depth s ws
  else if (q1d s.l ⟨w.id,(qv g use s.l w.spec now til).2.1,(qv g use s.l w.spec now til).1,q21 w.spec (qv g use s.l w.spec now til).1⟩).2≠0 then
   ([],[],(q1d s.l ⟨w.id,(qv g use s.l w.spec now til).2.1,(qv g use s.l w.spec now til).1,q21 w.spec (qv g use s.l w.spec now til).1⟩).2)
  else if (qv g use s.l w.spec now til).1=now then q7n g use now til policy depth ⟨(q1d s.l ⟨w.id,(qv g use s.l w.spec now til).2.1,(qv g use s.l w.spec now til).1,q21 w.spec (qv g use s.l w.spec now til).1⟩).1,s.begun++[⟨w.id,(qv g use s.l w.spec now til).2.1,(qv g use s.l w.spec now til).1,q21 w.spec (qv g use s.l w.spec now til).1⟩],s.kept⟩ ws
  else q7n g use now til policy depth ⟨(q1d s.l ⟨w.id,(qv g use s.l w.spec now til).2.1,(qv g use s.l w.spec now til).1,q21 w.spec (qv g use s.l w.spec now til).1⟩).1,s.begun,s.kept++[⟨w.id,(qv g use s.l w.spec now til).2.1,(qv g use s.l w.spec now til).1,q21 w.spec (qv g use s.l w.spec now til).1⟩]⟩ ws
def q5p (g:List Thing) (use:List Int) (l:List Held) (ws:List Want) (now til policy depth:Int):List Held×List Held×Int :=
 if decide (policy<1)||decide (3<policy)||decide (depth<0)||decide (64<depth)||!q2a l then ([],[],1) else q7n g use now til policy depth ⟨l,[],[]⟩ ws
structure Inst where
 graph:List Thing
 health:List Int
 lease:List Int
 til:Int
 jobs:List Job
 table:List Held
 now:Int
 policy:Int
 depth:Int
 deriving DecidableEq
def qye:Inst:=⟨[],[],[],0,[],[],0,0,0⟩
def q7x (p d:Int):Bool:=decide (1≤p)&&decide (p≤3)&&decide (0≤d)&&decide (d≤64)
def q2r (g:List Thing) (l:List Int):Bool:=sok l&&(decide (l.length=0)||decide (l.getD (l.length-1) 0<(g.length:Int)))
def qcz (i:Inst) (k:Nat):Bool:=decide ((q37 i.jobs k).came≤i.now)&&decide ((q37 i.jobs k).frm≤i.now)&&(decide ((q37 i.jobs k).state≠2) ||
 ((q2d i.table (q37 i.jobs k).id).2&&decide ((q2d i.table (q37 i.jobs k).id).1.frm=(q37 i.jobs k).frm)&&decide ((q2d i.table (q37 i.jobs k).id).1.tto=q21 (q37 i.jobs k).spec (q37 i.jobs k).frm) &&
  decide (i.now<(q2d i.table (q37 i.jobs k).id).1.tto)&&q2r i.graph (q2d i.table (q37 i.jobs k).id).1.things))
def q9l (i:Inst):Bool:=qmm (qcz i) i.jobs.length&&decide ((i.jobs.filter fun j=>decide (j.state=2)).length=i.table.length)
def q3c (i:Inst):Bool:=q51 i.graph i.health&&q2r i.graph i.lease&&tm i.til&&tm i.now&&q7x i.policy i.depth&&q2v i.jobs&&q2a i.table&&q9l i
def qiv (g:List Thing) (p d:Int):Inst×Int:=if !q2g g||!q7x p d then (qye,1) else (⟨g,List.replicate g.length 0,q68 g 0,4611686018427387904,[],[],0,p,d⟩,0)
def wdo (w:Inst) (id what at_:Int):Inst×Int :=
 if (q2y w.jobs id what at_).2≠0 then (w,(q2y w.jobs id what at_).2)
 else if q5h (q49 (q2y w.jobs id what at_).1 id).1.state then ({ w with jobs:=(q2y w.jobs id what at_).1,table:=(q1o w.table id).1 },0)
 else ({ w with jobs:=(q2y w.jobs id what at_).1 },0)
def q3h (w:Inst):Inst:=w.table.foldl (fun a h=>if q33 h.things (q7b w.lease (q2p w.graph w.health 1)) then a else (wdo a h.id 5 a.now).1) w
def q4v (w:Inst):Inst:=w.jobs.foldl (fun a j=>if decide (j.state≤1)&&((q43 w.jobs).contains j.id||!qkv a.graph j.spec) then (wdo a j.id 7 a.now).1 else a) w
def q6q (w:Inst):List Int:=q7b w.lease (q2p w.graph w.health 0)
def q6j (w:Inst):List Want:=(q1h w.jobs).map fun id=>⟨id,(q49 w.jobs id).1.spec⟩
def q5l (w:Inst):List Held:=(q5p w.graph (q6q w) w.table (q6j w) w.now w.til w.policy w.depth).1
def q6a (w:Inst):Inst:=(q5l w).foldl (fun a h=>{ (wdo a h.id 3 a.now).1 with table:=(q1d (wdo a h.id 3 a.now).1.table h).1 }) w
def q5w (w:Inst):Inst:=q6a (q4v (q3h w))
def q3l (i:Inst) (s:Spec) (needs:List Int):Inst×Int×Int :=
 if !q3c i then (i,0,1) else if (q19 i.jobs s needs i.now).2.2≠0 then (i,0,(q19 i.jobs s needs i.now).2.2)
 else (q5w { i with jobs:=(q19 i.jobs s needs i.now).1 },(q19 i.jobs s needs i.now).2.1,0)
def ido (i:Inst) (id what:Int):Inst×Int :=
 if !q3c i||!([1,2,4,6]:List Int).contains what then (i,1) else if (wdo i id what i.now).2≠0 then (i,(wdo i id what i.now).2) else (q5w (wdo i id what i.now).1,0)
def q8j (i:Inst) (now:Int):Inst×Int :=
 if !q3c i||!tm now||decide (now<i.now) then (i,1)
 else (q5w ((q1r i.table now).2.foldl (fun a h=>(wdo a h.id 5 h.tto).1) { i with now:=now }),0)
def q9i (i:Inst) (lease:List Int) (til:Int):Inst×Int:=if !q3c i||!q2r i.graph lease||!tm til then (i,1) else (q5w { i with lease:=lease,til:=til },0)
def q57 (g:List Thing) (h:List Int) (n how:Int):List Int×Int:=if !q51 g h||decide (how<0)||decide (2<how) then (h,1) else if n<0∨(h.length:Int)≤n then (h,6) else (h.set n.toNat how,0)
def q8c (i:Inst) (n how:Int):Inst×Int:=if !q3c i then (i,1) else if (q57 i.graph i.health n how).2≠0 then (i,(q57 i.graph i.health n how).2) else (q5w { i with health:=(q57 i.graph i.health n how).1 },0)
section
variable {α : Type} {f : α → Int}
def q91 (f:α→Int) (l:List α) (id:Int):Nat:=(l.takeWhile fun x=>decide (f x<id)).length
theorem qu6 (l:List α) (id:Int):q91 f l id≤l.length:=(List.takeWhile_sublist _).length_le
theorem q5q:∀ {l:List α} {k:Nat} {x:α},l.Pairwise (fun a b=>f a<f b)→l[k]?=some x→q91 f l (f x)=k
 | [],k,x,_,h=>by simp at h
 | y :: l,0,x,hp,h=>by
  simp only [List.getElem?_cons_zero,Option.some.injEq] at h
  subst h
  simp [q91]
 | y :: l,k+1,x,hp,h=>by
  rw [List.pairwise_cons] at hp
  simp only [List.getElem?_cons_succ] at h
  have h1:=hp.1 x (List.mem_of_getElem? h)
  have ih:=q5q hp.2 h
  simp only [q91] at ih ⊢
  simp [h1,ih]
theorem qid:∀ {l:List α} {id:Int} {k:Nat} {x:α},k<q91 f l id→l[k]?=some x→f x<id
 | [],id,k,x,_,h=>by simp at h
 | y :: l,id,k,x,hk,h=>by
  simp only [q91,List.takeWhile_cons] at hk
  split at hk
  ·rename_i hy
   cases k with
   | zero =>
    simp only [List.getElem?_cons_zero,Option.some.injEq] at h
    subst h;simpa using hy
   | succ k =>
    simp only [List.getElem?_cons_succ] at h
    exact qid (l:=l) (by simp only [q91];simp only [List.length_cons] at hk;omega) h
  ·simp at hk
theorem qdx:∀ {l:List α} {id:Int} {k:Nat} {x:α},l.Pairwise (fun a b=>f a<f b)→q91 f l id≤k→l[k]?=some x→id≤f x
 | [],id,k,x,_,_,h=>by simp at h
 | y :: l,id,k,x,hp,hk,h=>by
  rw [List.pairwise_cons] at hp
  simp only [q91,List.takeWhile_cons] at hk
  split at hk
  ·cases k with
   | zero=>simp at hk
   | succ k =>
    simp only [List.getElem?_cons_succ] at h
    exact qdx (l:=l) hp.2 (by simp only [q91];simp only [List.length_cons] at hk;omega) h
  ·rename_i hy
   have hy:id≤f y:=by simp at hy;omega
   cases k with
   | zero =>
    simp only [List.getElem?_cons_zero,Option.some.injEq] at h
    subst h;exact hy
   | succ k =>
    simp only [List.getElem?_cons_succ] at h
    have:=hp.1 x (List.mem_of_getElem? h)
    omega
theorem qn7:∀ {l:List α} {x y:α},l.Pairwise (fun a b=>f a<f b)→x∈l→y∈l→f x=f y→x=y:=by
 intro l x y hp hx hy e
 obtain ⟨i,hi⟩:=List.mem_iff_getElem?.1 hx
 obtain ⟨j,hj⟩:=List.mem_iff_getElem?.1 hy
 have h1:=q5q hp hi
 have h2:=q5q hp hj
 rw [e,h2] at h1
 subst h1
 rw [hi] at hj
 exact Option.some.inj hj
theorem qab {l:List α} (h:l.Pairwise (fun a b=>f a<f b)):(l.map f).Pairwise (· < ·):=by
 rw [List.pairwise_map];exact h
def qwn (f:α→Int) (l:List α) (x:α):List α:=l.take (q91 f l (f x))++x :: l.drop (q91 f l (f x))
theorem kput_mem {l:List α} {x y:α}:y∈qwn f l x↔y=x∨y∈l:=by
 unfold qwn
 rw [List.mem_append,List.mem_cons]
 constructor
 ·rintro (h | h | h)
  ·exact .inr (List.mem_of_mem_take h)
  ·exact .inl h
  ·exact .inr (List.mem_of_mem_drop h)
 ·rintro (h | h)
  ·exact .inr (.inl h)
  ·rw [← List.take_append_drop (q91 f l (f x)) l] at h
   rcases List.mem_append.1 h with h | h
   ·exact .inl h
   ·exact .inr (.inr h)
theorem qnj {l:List α} {x:α} (hp:l.Pairwise (fun a b=>f a<f b)) (hn:∀ y∈l,f y≠f x):(qwn f l x).Pairwise (fun a b=>f a<f b):=by
 unfold qwn
 rw [List.pairwise_append]
 refine ⟨hp.sublist (List.take_sublist _ _),?_,?_⟩
 ·rw [List.pairwise_cons]
  refine ⟨fun y hy=>?_,hp.sublist (List.drop_sublist _ _)⟩
  obtain ⟨j,hj⟩:=List.mem_iff_getElem?.1 hy
  rw [List.getElem?_drop] at hj
  have h1:=qdx hp (Nat.le_add_right _ _) hj
  have h2:=hn y (List.mem_of_mem_drop hy)
  omega
 ·intro a ha b hb
  have h1:f a<f x:=by
   obtain ⟨j,hj⟩:=List.mem_iff_getElem?.1 ha
   rw [List.getElem?_take] at hj
   split at hj
   ·exact qid Y1y hj
   ·cases hj
  rcases List.mem_cons.1 hb with rfl | hb
  ·exact h1
  ·obtain ⟨j,hj⟩:=List.mem_iff_getElem?.1 hb
   rw [List.getElem?_drop] at hj
   have:=qdx hp (Nat.le_add_right _ _) hj
   omega
theorem qrt {l:List α} {k:Nat} {x y:α} (hp:l.Pairwise (fun a b=>f a<f b)) (hx:l[k]?=some x):y∈l.eraseIdx k↔y∈l∧f y≠f x:=by
 rw [List.mem_eraseIdx_iff_getElem?]
 constructor
 ·rintro ⟨i,hi,hy⟩
  refine ⟨List.mem_of_getElem? hy,fun e=>?_⟩
  have h1:=q5q hp hx
  have h2:=q5q hp hy
  rw [e,h1] at h2
  exact hi h2.symm
 ·rintro ⟨hy,hne⟩
  obtain ⟨i,hi⟩:=List.mem_iff_getElem?.1 hy
  refine ⟨i,fun e=>?_,hi⟩
  subst e
  rw [hi] at hx
  exact hne (congrArg f (Option.some.inj hx))
end
theorem held_iff {l:List Held}:q2a l=true↔l.length≤256∧(∀ h∈l,hmay h=true)∧l.Pairwise (fun a b=>a.id<b.id)∧l.Pairwise (fun a b=>q5y a b=false):=by
 unfold q2a
 rw [Bool.and_eq_true,decide_eq_true_eq]
 constructor
 ·rintro ⟨h1,h2⟩
  have hB:∀ k h,l[k]?=some h→hmay h=true∧(0<k→qay l (k-1)<h.id)∧∀ x∈l.take k,q5y x h=false:=by
   intro k h hk
   have:=q5b h2 (List.getElem?_eq_some_iff.1 hk).1
   unfold qcl at this
   rw [hk] at this
   simp only [Bool.and_eq_true,Bool.not_eq_true',Bool.and_eq_false_iff,decide_eq_false_iff_not,List.any_eq_false] at this
   obtain ⟨⟨k1,k2⟩,k3⟩:=this
   refine ⟨k1,fun h0=>?_,fun x hx=>?_⟩
   ·rcases k2 with k2 | k2
    ·exact absurd h0 k2
    ·omega
   ·have:=k3 x hx;simpa using this
  refine ⟨h1,fun h hh=>?_,?_,?_⟩
  ·obtain ⟨k,hk⟩:=List.mem_iff_getElem?.1 hh
   exact (hB k h hk).1
  ·have step:∀ k a b,l[k]?=some a→l[k+1]?=some b→a.id<b.id:=by
    intro k a b ha hb
    have:=(hB (k+1) b hb).2.1 (Nat.succ_pos _)
    rw [Nat.add_sub_cancel,qay,ha] at this
    exact this
   have mono:∀ d i a b,l[i]?=some a→l[i+d+1]?=some b→a.id<b.id:=by
    intro d
    induction d with
    | zero=>intro i a b ha hb;exact step i a b ha hb
    | succ d ih =>
     intro i a b ha hb
     have hlt:=(List.getElem?_eq_some_iff.1 hb).1
     have h3:=ih i a l[i+d+1] ha (List.getElem?_eq_getElem (by omega))
     have h4:=step (i+d+1) _ b (List.getElem?_eq_getElem (by omega)) hb
     omega
   rw [List.pairwise_iff_getElem]
   intro i j hi hj hij
   exact mono (j-i-1) i _ _ (List.getElem?_eq_getElem hi) Yd
  ·rw [List.pairwise_iff_getElem]
   intro i j hi hj hij
   exact (hB j _ (List.getElem?_eq_getElem hj)).2.2 _ (List.mem_iff_getElem?.2 ⟨i,by rw [List.getElem?_take,if_pos hij];exact List.getElem?_eq_getElem hi⟩)
 ·rintro ⟨h1,h2,h3,h4⟩
  refine ⟨h1,q4b fun k hk=>?_⟩
  unfold qcl
  rw [List.getElem?_eq_getElem hk]
  simp only [Bool.and_eq_true,Bool.not_eq_true',Bool.and_eq_false_iff,decide_eq_false_iff_not,List.any_eq_false]
  refine ⟨⟨h2 _ (List.getElem_mem hk),?_⟩,fun x hx=>?_⟩
  ·cases k with
   | zero=>exact .inl (Nat.lt_irrefl 0)
   | succ k =>
    right
    rw [Nat.add_sub_cancel,qay,List.getElem?_eq_getElem (by omega)]
    have:=List.pairwise_iff_getElem.1 h3 k (k+1) (by omega) hk (Nat.lt_succ_self k)
    simp only;omega
  ·obtain ⟨i,hi⟩:=List.mem_iff_getElem?.1 hx
   rw [List.getElem?_take] at hi
   split at hi
   ·rename_i hik
    obtain ⟨h5,rfl⟩:=List.getElem?_eq_some_iff.1 hi
    have:=List.pairwise_iff_getElem.1 h4 i k h5 hk hik
    simp [this]
   ·cases hi
theorem q4h {l:List Held} (hp:l.Pairwise (fun a b=>a.id<b.id)) {id:Int}:q2w l id=true↔∃ h∈l,h.id=id:=by
 unfold q2w qay
 rw [Bool.and_eq_true,decide_eq_true_eq,decide_eq_true_eq]
 constructor
 ·rintro ⟨h1,h2⟩
  rw [List.getElem?_eq_getElem h1] at h2
  exact ⟨_,List.getElem_mem h1,h2⟩
 ·rintro ⟨h,hh,rfl⟩
  obtain ⟨k,hk⟩:=List.mem_iff_getElem?.1 hh
  have e:q2k l h.id=k:=q5q (f:=Held.id) hp hk
  rw [e,hk]
  exact ⟨(List.getElem?_eq_some_iff.1 hk).1,rfl⟩
theorem qj5 {l:List Held} (hp:l.Pairwise (fun a b=>a.id<b.id)) {h:Held} (hh:h∈l):l[q2k l h.id]?=some h∧qg7 l (q2k l h.id)=h:=by
 obtain ⟨k,hk⟩:=List.mem_iff_getElem?.1 hh
 have e:q2k l h.id=k:=q5q (f:=Held.id) hp hk
 rw [e]
 exact ⟨hk,by rw [qg7,List.getD_eq_getElem?_getD,hk];rfl⟩
theorem qmk {l:List Held} (hr:q2a l=true) {id:Int}:(q2d l id).2=true↔∃ h∈l,h.id=id:=by
 unfold q2d
 rw [hr,Bool.true_and]
 have:=q4h (held_iff.1 hr).2.2.1 (id:=id)
 cases h:q2w l id with
 | false=>rw [h] at this;simp at this ⊢;exact this
 | true=>rw [h] at this;simp at this ⊢;exact this
theorem qbz {l:List Held} (hr:q2a l=true) {h:Held} (hh:h∈l):q2d l h.id=(h,true):=by
 have hp:=(held_iff.1 hr).2.2.1
 unfold q2d
 rw [hr,Bool.true_and,(q4h hp).2 ⟨h,hh,rfl⟩,if_pos rfl,(qj5 hp hh).2]
theorem qli {l:List Held} (hr:q2a l=true) {h:Held} (hh:h∈l):q2a (q1o l h.id).1=true∧(∀ y,y∈(q1o l h.id).1↔y∈l∧y.id≠h.id)∧(q1o l h.id).2.2=0:=by
 obtain ⟨h1,h2,h3,h4⟩:=held_iff.1 hr
 have hk:=(qj5 h3 hh).1
 unfold q1o
 rw [hr,(q4h h3).2 ⟨h,hh,rfl⟩]
 simp only [Bool.not_true,Bool.false_eq_true,if_false]
 have hm:∀ y,y∈l.eraseIdx (q2k l h.id)↔y∈l∧y.id≠h.id:=fun y=>qrt (f:=Held.id) h3 hk
 refine ⟨held_iff.2 ⟨?_,fun y hy=>h2 y ((hm y).1 hy).1,h3.sublist (List.eraseIdx_sublist _ _),h4.sublist (List.eraseIdx_sublist _ _)⟩,hm,trivial⟩
 exact Nat.le_trans (List.eraseIdx_sublist _ _).length_le h1
theorem qlq {l:List Held} (hr:q2a l=true) {id:Int} (hn:∀ h∈l,h.id≠id):(q1o l id).1=l:=by
 have h3:=(held_iff.1 hr).2.2.1
 unfold q1o
 rw [hr]
 cases h:q2w l id with
 | false=>simp
 | true =>
  obtain ⟨x,hx,e⟩:=(q4h h3).1 h
  exact absurd e (hn x hx)
theorem qh0 (a b:Held):q5y a b=q5y b a:=by
 unfold q5y qj6 qk3
 rw [show decide (max a.frm b.frm<min a.tto b.tto)=decide (max b.frm a.frm<min b.tto a.tto) by rw [decide_eq_decide];omega]
 rw [show (fun n=>inl a.things n&&inl b.things n)=(fun n=>inl b.things n&&inl a.things n) by funext n;rw [Bool.and_comm],Bool.and_comm (sok a.things)]
theorem qcj {l:List Held} {h:Held} (hr:q2a l=true) (hm:hmay h=true) (hn:∀ x∈l,x.id≠h.id) (hl:l.length<256) (hc:∀ x∈l,q5y x h=false) :
  q1d l h=(qwn Held.id l h,0)∧q2a (qwn Held.id l h)=true:=by
 obtain ⟨h1,h2,h3,h4⟩:=held_iff.1 hr
 have hh:q2w l h.id=false:=by
  cases e:q2w l h.id with
  | false=>rfl
  | true=>obtain ⟨x,hx,e⟩:=(q4h h3).1 e;exact absurd e (hn x hx)
 have ha:(l.any fun x=>q5y x h)=false:=by rw [List.any_eq_false];intro x hx;rw [hc x hx];simp
 constructor
 ·unfold q1d
  rw [hr,hm,hh,ha,if_neg (by simp),if_neg (by simp),if_neg Y1x]
  rfl
 ·refine held_iff.2 ⟨?_,fun y hy=>?_,qnj h3 hn,?_⟩
  ·unfold qwn;simp only [List.length_append,List.length_take,List.length_cons,List.length_drop];omega
  ·rcases kput_mem.1 hy with rfl | hy
   ·exact hm
   ·exact h2 y hy
  ·unfold qwn
   rw [List.pairwise_append]
   refine ⟨h4.sublist (List.take_sublist _ _),?_,?_⟩
   ·rw [List.pairwise_cons]
    exact ⟨fun y hy=>by rw [qh0];exact hc y (List.mem_of_mem_drop hy),h4.sublist (List.drop_sublist _ _)⟩
   ·intro a ha' b hb
    rcases List.mem_cons.1 hb with rfl | hb
    ·exact hc a (List.mem_of_mem_take ha')
    ·have:=h4
     rw [← List.take_append_drop (q91 Held.id l h.id) l,List.pairwise_append] at this
     exact this.2.2 a ha' b hb
theorem qhh {s w t:Int} (h0:0≤s) (h:q56 s w=some t):0≤t∧t≤6:=by
 unfold q56 at h
 repeat' split at h
 all_goals first | (injection h with h;omega) | cases h
theorem qck {s w t:Int} (h:q56 s w=some t):s≤2∧(t=2→s=0)∧(t=0→s=1)∧(t=1→s=0)∧(t=3→s=2)∧(t=4→s=2)∧(t=6→s<2):=by
 unfold q56 at h
 repeat' split at h
 all_goals first | (injection h with h;omega) | cases h
theorem qm9 {j:Job} {w t now:Int} (hb:qmz j w now=false) (h:q56 j.state w=some t):q28 (q4j j t now)=true:=by
 simp only [qmz,Bool.or_eq_false_iff,Bool.not_eq_false',decide_eq_false_iff_not] at hb
 obtain ⟨⟨⟨⟨hjr,_⟩,_⟩,hnow⟩,hmx⟩:=hb
 have hst:=q8l hjr
 have hi:=qhh hst.1 h
 have hf:=qck h
 have h5:tm j.came=true:=by simp only [q28,Bool.and_eq_true] at hjr;exact hjr.1.2
 have ht:q4q j=true:=by simp only [q28,Bool.and_eq_true] at hjr;exact hjr.2
 have hr:q28 (q4j j t now)=q4q (q4j j t now):=by
  simp only [q28,qah,Bool.and_eq_true] at hjr
  obtain ⟨⟨⟨⟨⟨a1,a2⟩,a3⟩,a4,a5⟩,a6⟩,a7⟩:=hjr
  show (decide (1≤j.id)&&decide (j.id≤1073741824)&&q1c j.spec&&(decide (j.needs.length≤16)&&qnf j.id j.needs)&&tm j.came&&q4q (q4j j t now))=_
  rw [a1,a2,a3,a4,a5,a6]
  rfl
 rw [hr]
 have h5':tm (q4j j t now).came=true:=h5
 rw [qcd h5']
 rw [qcd h5] at ht
 simp only [q4j,q5h,tm,Bool.and_eq_true,decide_eq_true_eq] at *
 clear hr hjr h
 obtain ⟨⟨⟨⟨⟨t1,t2⟩,t3⟩,t4⟩,t5⟩,t6⟩:=ht
 split at t5<;>split at t6<;>simp only [Bool.or_eq_true,Bool.and_eq_true,decide_eq_true_eq] at t5 t6<;>(refine ⟨⟨⟨⟨⟨?_,?_⟩,?_⟩,?_⟩,?_⟩,?_⟩)<;>(repeat' split)<;>(try simp only [Bool.or_eq_true,Bool.and_eq_true,decide_eq_true_eq])<;>omega
theorem q1z {l:List Job} {k:Nat} {j:Job} (h:l[k]?=some j):q37 l k=j:=by rw [q37,List.getD_eq_getElem?_getD,h];rfl
theorem q54 {l:List Job} (hp:l.Pairwise (fun a b=>a.id<b.id)) {id:Int}:q2u l id=true↔∃ j∈l,j.id=id:=by
 unfold q2u qe6
 rw [Bool.and_eq_true,decide_eq_true_eq,decide_eq_true_eq]
 constructor
 ·rintro ⟨h1,h2⟩
  rw [q1z (List.getElem?_eq_getElem h1)] at h2
  exact ⟨_,List.getElem_mem h1,h2⟩
 ·rintro ⟨j,hj,rfl⟩
  obtain ⟨k,hk⟩:=List.mem_iff_getElem?.1 hj
  have e:q1g l j.id=k:=q5q (f:=Job.id) hp hk
  rw [e,q1z hk]
  exact ⟨(List.getElem?_eq_some_iff.1 hk).1,rfl⟩
theorem qae {l:List Job} (hp:l.Pairwise (fun a b=>a.id<b.id)) {j:Job} (hj:j∈l):l[q1g l j.id]?=some j:=by
 obtain ⟨k,hk⟩:=List.mem_iff_getElem?.1 hj
 have e:q1g l j.id=k:=q5q (f:=Job.id) hp hk
 rw [e];exact hk
def q120 (l:List Job):Prop:=∀ k j,l[k]?=some j→∀ n∈j.needs,n∈(l.map (·.id)).take k
theorem jobs_iff {l:List Job}:q2v l=true↔l.length≤64∧(∀ j∈l,q28 j=true)∧l.Pairwise (fun a b=>a.id<b.id)∧l.Pairwise (fun a b=>a.came≤b.came)∧q120 l:=by
 unfold q2v
 rw [Bool.and_eq_true,decide_eq_true_eq]
 constructor
 ·rintro ⟨h1,h2⟩
  have hB:∀ k j,l[k]?=some j→q28 j=true∧(0<k→(q37 l (k-1)).id<j.id∧(q37 l (k-1)).came≤j.came)∧∀ n∈j.needs,q2u (l.take k) n=true:=by
   intro k j hk
   have:=q5b h2 (List.getElem?_eq_some_iff.1 hk).1
   unfold qn5 at this
   rw [hk] at this
   simp only [Bool.and_eq_true,Bool.not_eq_true',Bool.and_eq_false_iff,Bool.or_eq_false_iff,decide_eq_false_iff_not,List.all_eq_true] at this
   obtain ⟨⟨k1,k2⟩,k3⟩:=this
   refine ⟨k1,fun h0=>?_,k3⟩
   rcases k2 with k2 | k2
   ·exact absurd h0 k2
   ·unfold qe6 at k2;omega
  have step:∀ k a b,l[k]?=some a→l[k+1]?=some b→a.id<b.id∧a.came≤b.came:=by
   intro k a b ha hb
   have:=(hB (k+1) b hb).2.1 (Nat.succ_pos _)
   rw [Nat.add_sub_cancel,q1z ha] at this
   exact this
  have mono:∀ d i a b,l[i]?=some a→l[i+d+1]?=some b→a.id<b.id∧a.came≤b.came:=by
   intro d
   induction d with
   | zero=>intro i a b ha hb;exact step i a b ha hb
   | succ d ih =>
    intro i a b ha hb
    have hlt:=(List.getElem?_eq_some_iff.1 hb).1
    have h3:=ih i a l[i+d+1] ha (List.getElem?_eq_getElem (by omega))
    have h4:=step (i+d+1) _ b (List.getElem?_eq_getElem (by omega)) hb
    omega
  have hid:l.Pairwise (fun a b=>a.id<b.id):=by
   rw [List.pairwise_iff_getElem]
   intro i j hi hj hij
   exact (mono (j-i-1) i _ _ (List.getElem?_eq_getElem hi) Yd).1
  refine ⟨h1,fun j hj=>?_,hid,?_,?_⟩
  ·obtain ⟨k,hk⟩:=List.mem_iff_getElem?.1 hj
   exact (hB k j hk).1
  ·rw [List.pairwise_iff_getElem]
   intro i j hi hj hij
   exact (mono (j-i-1) i _ _ (List.getElem?_eq_getElem hi) Yd).2
  ·intro k j hk n hn
   obtain ⟨x,hx,e⟩:=(q54 (hid.sublist (List.take_sublist k l))).1 ((hB k j hk).2.2 n hn)
   rw [← List.map_take]
   exact List.mem_map.2 ⟨x,hx,e⟩
 ·rintro ⟨h1,h2,h3,h4,h5⟩
  refine ⟨h1,q4b fun k hk=>?_⟩
  unfold qn5
  rw [List.getElem?_eq_getElem hk]
  simp only [Bool.and_eq_true,Bool.not_eq_true',Bool.and_eq_false_iff,Bool.or_eq_false_iff,decide_eq_false_iff_not,List.all_eq_true]
  refine ⟨⟨h2 _ (List.getElem_mem hk),?_⟩,fun n hn=>?_⟩
  ·cases k with
   | zero=>exact .inl (Nat.lt_irrefl 0)
   | succ k =>
    right
    rw [Nat.add_sub_cancel,qe6,q1z (List.getElem?_eq_getElem (by omega))]
    have:=List.pairwise_iff_getElem.1 h3 k (k+1) (by omega) hk (Nat.lt_succ_self k)
    have:=List.pairwise_iff_getElem.1 h4 k (k+1) (by omega) hk (Nat.lt_succ_self k)
    omega
  ·have:=h5 k _ (List.getElem?_eq_getElem hk) n hn
   rw [← List.map_take] at this
   obtain ⟨x,hx,e⟩:=List.mem_map.1 this
   exact (q54 (h3.sublist (List.take_sublist k l))).2 ⟨x,hx,e⟩
theorem qhf {l:List Job} (hr:q2v l=true) {j:Job} (hj:j∈l):q49 l j.id=(j,true):=by
 have hp:=(jobs_iff.1 hr).2.2.1
 unfold q49
 rw [hr,Bool.true_and,(q54 hp).2 ⟨j,hj,rfl⟩,if_pos rfl,q1z (qae hp hj)]
theorem qum {l:List Job} {k:Nat} {j j' y:Job} (hp:l.Pairwise (fun a b=>a.id<b.id)) (hk:l[k]?=some j) (he:j'.id=j.id):y∈l.set k j'↔y=j'∨(y∈l∧y.id≠j.id):=by
 have hkl:=(List.getElem?_eq_some_iff.1 hk).1
 rw [List.mem_iff_getElem?]
 constructor
 ·rintro ⟨i,hi⟩
  by_cases e:k=i
  ·subst e
   rw [List.getElem?_set_self hkl] at hi
   exact .inl (Option.some.inj hi).symm
  ·rw [List.getElem?_set_ne e] at hi
   refine .inr ⟨List.mem_of_getElem? hi,fun e2=>e ?_⟩
   have h1:=q5q (f:=Job.id) hp hk
   have h2:=q5q (f:=Job.id) hp hi
   rw [e2,h1] at h2
   exact h2
 ·rintro (rfl | ⟨hy,hne⟩)
  ·exact ⟨k,List.getElem?_set_self hkl⟩
  ·obtain ⟨i,hi⟩:=List.mem_iff_getElem?.1 hy
   refine ⟨i,?_⟩
   rw [List.getElem?_set_ne]
   ·exact hi
   ·rintro rfl
    rw [hk] at hi
    exact hne (congrArg Job.id (Option.some.inj hi)).symm
theorem qmj {β:Type} (g:Job→β) {l:List Job} {k:Nat} {j j':Job} (hk:l[k]?=some j) (he:g j'=g j):(l.set k j').map g=l.map g:=by
 apply List.ext_getElem?
 intro i
 rw [List.getElem?_map,List.getElem?_map]
 by_cases e:k=i
 ·subst e
  rw [List.getElem?_set_self (List.getElem?_eq_some_iff.1 hk).1,hk]
  simp [he]
 ·rw [List.getElem?_set_ne e]
theorem qob (j:Job) (w now:Int):(jdo j w now).1.id=j.id∧(jdo j w now).1.spec=j.spec∧(jdo j w now).1.needs=j.needs∧(jdo j w now).1.came=j.came:=by
 unfold jdo
 split
 ·exact ⟨rfl,rfl,rfl,rfl⟩
 ·split<;>exact ⟨rfl,rfl,rfl,rfl⟩
theorem qvb {j:Job} {w now:Int} (h:q28 j=true):q28 (jdo j w now).1=true:=by
 unfold jdo
 split
 ·exact h
 ·rename_i hb
  split
  ·exact h
  ·rename_i s hs
   exact qm9 Y1r hs
theorem q9c {l:List Job} (hr:q2v l=true) {j:Job} (hj:j∈l) (w now:Int) :
  q2y l j.id w now=(l.set (q1g l j.id) (jdo j w now).1,(jdo j w now).2)∧q2v (q2y l j.id w now).1=true∧(∀ y,y∈(q2y l j.id w now).1↔y=(jdo j w now).1∨(y∈l∧y.id≠j.id))∧(q2y l j.id w now).1.map (·.id)=l.map (·.id):=by
 obtain ⟨h1,h2,h3,h4,h5⟩:=jobs_iff.1 hr
 have hk:=qae h3 hj
 have e:q2y l j.id w now=(l.set (q1g l j.id) (jdo j w now).1,(jdo j w now).2):=by
  unfold q2y
  rw [hr,(q54 h3).2 ⟨j,hj,rfl⟩,q1z hk,if_neg (by simp),if_neg (by simp)]
 obtain ⟨s1,s2,s3,s4⟩:=qob j w now
 have hids:(l.set (q1g l j.id) (jdo j w now).1).map (fun x:Job=>x.id)=l.map (fun x:Job=>x.id):=qmj (fun x:Job=>x.id) hk s1
 have hcames:(l.set (q1g l j.id) (jdo j w now).1).map Job.came=l.map Job.came:=qmj Job.came hk s4
 have hneeds:(l.set (q1g l j.id) (jdo j w now).1).map Job.needs=l.map Job.needs:=qmj Job.needs hk s3
 rw [e]
 refine ⟨rfl,jobs_iff.2 ⟨by simpa using h1,fun y hy=>?_,?_,?_,?_⟩,fun y=>qum h3 hk s1,hids⟩
 ·rcases (qum h3 hk s1).1 hy with rfl | ⟨hy,_⟩
  ·exact qvb (h2 j hj)
  ·exact h2 y hy
 ·have:=h3
  rw [← List.pairwise_map (f:=fun x:Job=>x.id) (R:=fun a b:Int=>a<b)] at this ⊢
  rw [hids];exact this
 ·have:=h4
  rw [← List.pairwise_map (f:=Job.came) (R:=fun a b:Int=>a≤b)] at this ⊢
  rw [hcames];exact this
 ·intro k y hy n hn
  have e1:=congrArg (·[k]?) hneeds
  simp only [List.getElem?_map,hy,Option.map_some] at e1
  cases hx:l[k]? with
  | none=>rw [hx] at e1;cases e1
  | some x =>
   rw [hx] at e1
   simp only [Option.map_some,Option.some.injEq] at e1
   have:=h5 k x hx n (by rw [← e1];exact hn)
   show n∈((l.set (q1g l j.id) (jdo j w now).1).map fun x:Job=>x.id).take k
   rw [hids];exact this
theorem qwg {l:List Job} {id w now:Int} (hr:q2v l=true) (hn:∀ j∈l,j.id≠id):(q2y l id w now).2≠0:=by
 have h3:=(jobs_iff.1 hr).2.2.1
 unfold q2y
 rw [hr]
 cases h:q2u l id with
 | false=>simp
 | true =>
  obtain ⟨x,hx,e⟩:=(q54 h3).1 h
  exact absurd e (hn x hx)
def got (i n:Nat):List UInt8→Except Int (Nat×List UInt8)
 | []=>.error 2
 | c :: r =>
  if 8<i∨(0<i∧c=0) then .error 3
  else if c.toNat<128 then (if 4611686018427387904<n+c.toNat % 128 * 128 ^ i then .error 3 else .ok (n+c.toNat % 128 * 128 ^ i,r))
  else got (i+1) (n+c.toNat % 128 * 128 ^ i) r
def qo4 (first last:Nat):List Int:=(List.range (last+1-first)).map fun k=>((first+k:Nat):Int)
def qqh:Nat→Bool→Nat→List Int→List UInt8→Except Int (List Int×List UInt8)
 | 0,_,_,acc,b=>.ok (acc,b)
 | m+1,first,last,acc,b =>
  match got 0 0 b with
  | .error e=>.error e
  | .ok (far,b1) =>
   match got 0 0 b1 with
   | .error e=>.error e
   | .ok (more,b2) =>
    if far<256∧more<256∧last+far+more<256∧(first=true∨1<far) then qqh m false (last+far+more) (acc++qo4 (last+far) (last+far+more)) b2
    else .error 3
def qac:List UInt8→Except Int (List Int×List UInt8)
 | []=>.error 2
 | c :: r =>
  if c≠2 then .error 3
  else match got 0 0 r with
   | .error e=>.error e
   | .ok (many,b)=>if 256<many then .error 3 else qqh many true 0 [] b
def q26 (b:List UInt8):List Int×Int :=
 if 65536<b.length then ([],4)
 else match qac b with
  | .error e=>([],e)
  | .ok (l,r)=>if r=[] then (l,0) else ([],3)
theorem q5x {b:List UInt8}:∀ {i n:Nat} {m:Nat} {r:List UInt8},got i n b = .ok (m,r)→r.length<b.length∧m≤4611686018427387904:=by
 induction b with
 | nil=>intro i n m r h;cases h
 | cons c b ih =>
  intro i n m r h
  unfold got at h
  split at h
  ·cases h
  split at h
  ·split at h
   ·cases h
   ·cases h;exact ⟨by simp,by omega⟩
  ·have:=ih h;exact ⟨by simp;omega,this.2⟩
def q2m (n:Nat):List UInt8:=if n<128 then [UInt8.ofNat n] else UInt8.ofNat (n % 128+128) :: q2m (n / 128)
termination_by n
decreasing_by omega
theorem qbo {n:Nat} (h:n<128):q2m n=[UInt8.ofNat n]:=by rw [q2m,if_pos h]
theorem qci {n:Nat} (h:¬ n<128):q2m n=UInt8.ofNat (n % 128+128) :: q2m (n / 128):=by rw [q2m,if_neg h]
theorem qhr {n:Nat} (h:n<256):(UInt8.ofNat n).toNat=n:=by simp [UInt8.toNat_ofNat',Nat.mod_eq_of_lt h]
theorem q11o (m:Nat):∀ (i n:Nat) (r:List UInt8),n+m * 128 ^ i≤4611686018427387904→(0<i→0<m)→got i n (q2m m++r) = .ok (n+m * 128 ^ i,r):=by
 induction m using Nat.strongRecOn with
 | _ m ih =>
  intro i n r hb hi
  have hi8:¬ 8<i:=by
   intro h8
   have h1:(128:Nat) ^ 9≤128 ^ i:=Nat.pow_le_pow_right (by decide) h8
   have h2:(128:Nat) ^ 9=9223372036854775808:=by decide
   have h3:0<m:=hi (by omega)
   have h4:1 * 128 ^ i≤m * 128 ^ i:=Nat.mul_le_mul_right _ h3
   omega
  by_cases hm:m<128
  ·rw [qbo hm]
   show got i n (UInt8.ofNat m :: r)=_
   have hc:=qhr (show m<256 by omega)
   rw [got,if_neg,hc,if_pos hm,if_neg (by rw [Nat.mod_eq_of_lt hm];omega),Nat.mod_eq_of_lt hm]
   rintro (h | ⟨h,e⟩)
   ·exact hi8 h
   ·have:=hi h
    have e2:=congrArg UInt8.toNat e
    rw [hc] at e2
    have:m=0:=e2
    omega
  ·rw [qci hm]
   show got i n (UInt8.ofNat (m % 128+128) :: (q2m (m / 128)++r))=_
   have hc:=qhr (show m % 128+128<256 by omega)
   have e0:m=m % 128+m / 128 * 128:=by omega
   have e1:n+m % 128 * 128 ^ i+m / 128 * 128 ^ (i+1)=n+m * 128 ^ i:=by
    rw [Nat.pow_succ,Nat.add_assoc,show m / 128 * (128 ^ i * 128)=m / 128 * 128 * 128 ^ i by rw [Nat.mul_assoc,Nat.mul_comm (128 ^ i) 128],← Nat.add_mul,← e0]
   rw [got,if_neg,hc,if_neg (by omega),show (m % 128+128) % 128=m % 128 by omega,ih (m / 128) (by omega) (i+1) _ r (by rw [e1];exact hb) (fun _=>by omega),e1]
   rintro (h | ⟨_,e⟩)
   ·exact hi8 h
   ·have e2:=congrArg UInt8.toNat e
    rw [hc] at e2
    have:m % 128+128=0:=e2
    omega
theorem qsd:∀ {b:List UInt8} {i n x:Nat} {r:List UInt8},got i n b = .ok (x,r)→∃ m,b=q2m m++r∧x=n+m * 128 ^ i∧(0<i→0<m)
 | [],_,_,_,_,h=>by cases h
 | c :: b,i,n,x,r,h=>by
  unfold got at h
  split at h
  ·cases h
  rename_i hbad
  have hc256:c.toNat<256:=c.toNat_lt
  split at h
  ·rename_i hlt
   split at h
   ·cases h
   ·cases h
    refine ⟨c.toNat,?_,by rw [Nat.mod_eq_of_lt hlt],fun hi=>?_⟩
    ·rw [qbo hlt]
     show c :: b=UInt8.ofNat c.toNat :: b
     rw [UInt8.ofNat_toNat]
    ·rcases Nat.eq_zero_or_pos c.toNat with e | e
     ·exact absurd (.inr ⟨hi,UInt8.toNat_inj.1 e⟩) hbad
     ·exact e
  ·rename_i hlt
   obtain ⟨m,rfl,hx,hm⟩:=qsd h
   have hm0:=hm (by omega)
   refine ⟨c.toNat % 128+m * 128,?_,?_,fun _=>by omega⟩
   ·rw [qci (n:=c.toNat % 128+m * 128) (by omega),show (c.toNat % 128+m * 128) / 128=m by omega,show (c.toNat % 128+m * 128) % 128+128=c.toNat by omega,UInt8.ofNat_toNat]
    rfl
   ·rw [hx,Nat.add_mul,Nat.pow_succ,Nat.add_assoc,show m * (128 ^ i * 128)=m * 128 * 128 ^ i by rw [Nat.mul_assoc,Nat.mul_comm (128 ^ i) 128]]
theorem qdf {m:Nat} (h:m≤4611686018427387904) (r:List UInt8):got 0 0 (q2m m++r) = .ok (m,r):=by
 have:=q11o m 0 0 r (by simpa using h) (fun h=>absurd h (Nat.lt_irrefl _))
 simpa using this
theorem qdi {b:List UInt8} {x:Nat} {r:List UInt8} (h:got 0 0 b = .ok (x,r)):b=q2m x++r:=by
 obtain ⟨m,h1,h2,_⟩:=qsd h
 have:x=m:=by simpa using h2
 rw [this];exact h1
def q8d (k:Nat):List (Nat×Nat)→List (Nat×Nat)
 | []=>[]
 | [(a,m)]=>[(a,m+k)]
 | x :: y :: l=>x :: q8d k (y :: l)
theorem q2s (k:Nat) (l:List (Nat×Nat)) (a m:Nat):q8d k (l++[(a,m)])=l++[(a,m+k)]:=by
 induction l with
 | nil=>rfl
 | cons x l ih =>
  cases l with
  | nil=>rfl
  | cons y l=>show x :: q8d k (y :: (l++[(a,m)]))=_;rw [show y :: (l++[(a,m)])=(y :: l)++[(a,m)] from rfl,ih];rfl
def rt (f:Nat→Bool):Nat→List (Nat×Nat)
 | 0=>[]
 | n+1=>if f n=false then rt f n else if 0<n∧f (n-1)=true then q8d 1 (rt f n) else rt f n++[(n,0)]
theorem q12r {f:Nat→Bool} {n:Nat} (h:f n=false):rt f (n+1)=rt f n:=by rw [rt,if_pos h]
theorem qe4 {f:Nat→Bool}:∀ {n:Nat},0<n→f (n-1)=true→∃ l a m,rt f n=l++[(a,m)]∧a+m=n-1
 | n+1,_,h=>by
  have h':f n=true:=h
  rw [rt,if_neg (by rw [h'];simp)]
  by_cases h1:0<n∧f (n-1)=true
  ·obtain ⟨l,a,m,e,ha⟩:=qe4 h1.1 h1.2
   rw [if_pos h1,e,q2s]
   exact ⟨l,a,m+1,rfl,by show a+(m+1)=n;omega⟩
  ·rw [if_neg h1]
   exact ⟨rt f n,n,0,rfl,by simp⟩
theorem qwf {f:Nat→Bool} {a b:Nat} (h:a≤b) (hf:∀ x,a≤x→x<b→f x=false):rt f b=rt f a:=by
 obtain ⟨d,rfl⟩:∃ d,b=a+d:=⟨b-a,by omega⟩
 induction d with
 | zero=>rfl
 | succ d ih =>
  rw [show a+(d+1)=a+d+1 by omega,q12r (hf (a+d) (by omega) (by omega))]
  exact ih (by omega) fun x h1 h2=>hf x h1 (by omega)
def ext (f:Nat→Bool) (n:Nat):Nat:=if h:n<255 then (if f (n+1)=true then ext f (n+1)+1 else 0) else 0
termination_by 255-n
theorem qeo {f:Nat→Bool} {n:Nat} (h:n<255) (hf:f (n+1)=true):ext f n=ext f (n+1)+1:=by rw [ext,dif_pos h,if_pos hf]
theorem qg5 {f:Nat→Bool} {n:Nat} (h:n<255→f (n+1)=false):ext f n=0:=by
 rw [ext]
 split
 ·rename_i h1;rw [if_neg (by rw [h h1];simp)]
 ·rfl
theorem q107 (f:Nat→Bool):∀ {n:Nat},n<256→n+ext f n<256:=by
 intro n hn
 obtain ⟨d,hd⟩:∃ d,256-n=d:=⟨_,rfl⟩
 induction d generalizing n with
 | zero=>omega
 | succ d ih =>
  by_cases h:n<255∧f (n+1)=true
  ·rw [qeo h.1 h.2]
   have:=ih (n:=n+1) (by omega) (by omega)
   omega
  ·rw [qg5 fun h1=>by cases hf:f (n+1) with
    | false=>rfl
    | true=>exact absurd ⟨h1,hf⟩ h]
   omega
theorem qzk (f:Nat→Bool) {n:Nat} (hn:n<256):∀ {x:Nat},n<x→x≤n+ext f n→f x=true:=by
 obtain ⟨d,hd⟩:∃ d,256-n=d:=⟨_,rfl⟩
 induction d generalizing n with
 | zero=>omega
 | succ d ih =>
  intro x h1 h2
  by_cases h:n<255∧f (n+1)=true
  ·rw [qeo h.1 h.2] at h2
   by_cases hx:x=n+1
   ·subst hx;exact h.2
   ·exact ih (n:=n+1) (by omega) (by omega) (by omega) (by omega)
  ·rw [qg5 fun h1=>by cases hf:f (n+1) with
    | false=>rfl
    | true=>exact absurd ⟨h1,hf⟩ h] at h2
   omega
theorem qtl (f:Nat→Bool) {n:Nat} (hn:n<256):n+ext f n<255→f (n+ext f n+1)=false:=by
 obtain ⟨d,hd⟩:∃ d,256-n=d:=⟨_,rfl⟩
 induction d generalizing n with
 | zero=>omega
 | succ d ih =>
  intro h2
  by_cases h:n<255∧f (n+1)=true
  ·rw [qeo h.1 h.2] at h2 ⊢
   have:=ih (n:=n+1) (by omega) (by omega) (by omega)
   rw [show n+(ext f (n+1)+1)+1=n+1+ext f (n+1)+1 by omega]
   exact this
  ·have hf:n<255→f (n+1)=false:=fun h1=>by cases hf:f (n+1) with
    | false=>rfl
    | true=>exact absurd ⟨h1,hf⟩ h
   rw [qg5 hf] at h2 ⊢
   exact hf h2
def q3g (f:Nat→Bool) (n:Nat):Bool:=f n&&!(decide (0<n)&&f (n-1))
def rs (f:Nat→Bool) (n:Nat):List (Nat×Nat):=if h:n<256 then (if q3g f n=true then (n,ext f n) :: rs f (n+1) else rs f (n+1)) else []
termination_by 256-n
theorem qau {f:Nat→Bool} {n:Nat} (h:256≤n):rs f n=[]:=by rw [rs,dif_neg (by omega)]
theorem qjl {f:Nat→Bool} {n:Nat} (h:n<256) (hs:q3g f n=true):rs f n=(n,ext f n) :: rs f (n+1):=by rw [rs,dif_pos h,if_pos hs]
theorem qm8 {f:Nat→Bool} {n:Nat} (hs:q3g f n=false):rs f n=rs f (n+1):=by
 by_cases h:n<256
 ·rw [rs,dif_pos h,if_neg (by rw [hs];simp)]
 ·rw [qau (by omega),qau (by omega)]
theorem q12i (f:Nat→Bool):∀ n,n≤256→q8d (if 0<n∧f (n-1)=true then ext f (n-1) else 0) (rt f n)++rs f n=rs f 0
 | 0,_=>rfl
 | n+1,hn=>by
  have ih:=q12i f n (by omega)
  have al0:∀ l:List (Nat×Nat),q8d 0 l=l:=by
   intro l
   rcases List.eq_nil_or_concat l with rfl | ⟨l',⟨a,m⟩,rfl⟩
   ·rfl
   ·rw [List.concat_eq_append,q2s];rfl
  show q8d (if 0<n+1∧f n=true then ext f n else 0) (rt f (n+1))++rs f (n+1)=rs f 0
  cases hf:f n with
  | false =>
   rw [if_neg (by simp),q12r hf,al0,← ih]
   have hs:q3g f n=false:=by simp [q3g,hf]
   rw [qm8 hs]
   congr 1
   by_cases h1:0<n∧f (n-1)=true
   ·rw [if_pos h1,qg5 (fun _=>by rw [show n-1+1=n by omega];exact hf),al0]
   ·rw [if_neg h1,al0]
  | true =>
   rw [if_pos ⟨by omega,rfl⟩,rt,if_neg (by rw [hf];simp),← ih]
   by_cases h1:0<n∧f (n-1)=true
   ·have hs:q3g f n=false:=by simp [q3g,h1.1,h1.2]
    rw [if_pos h1,if_pos h1,qm8 hs]
    obtain ⟨l,a,m,e,_⟩:=qe4 h1.1 h1.2
    rw [e,q2s,q2s,q2s,qeo (n:=n-1) (by omega) (by rw [show n-1+1=n by omega];exact hf),show n-1+1=n by omega]
    congr 4
    omega
   ·have hs:q3g f n=true:=by
     simp only [q3g,hf,Bool.true_and]
     cases h2:(decide (0<n)&&f (n-1)) with
     | false=>rfl
     | true=>exact absurd (by simpa using h2) h1
    rw [if_neg h1,if_neg h1,al0,qjl (by omega) hs,q2s,Nat.zero_add,List.append_assoc]
    rfl
theorem q131 (f:Nat→Bool):rt f 256=rs f 0:=by
 have:=q12i f 256 (Nat.le_refl _)
 rw [qau (Nat.le_refl _),List.append_nil] at this
 have e:(if 0<256∧f (256-1)=true then ext f (256-1) else 0)=0:=by
  split
  ·exact qg5 (by intro h;omega)
  ·rfl
 rw [e] at this
 rw [← this]
 rcases List.eq_nil_or_concat (rt f 256) with h | ⟨l',⟨a,m⟩,h⟩
 ·rw [h];rfl
 ·rw [h,List.concat_eq_append,q2s];rfl
def q7d (l:List (Nat×Nat)):List Int:=l.flatMap fun x=>qo4 x.1 (x.1+x.2)
theorem q9v (l:List (Nat×Nat)) (a m:Nat):q7d (l++[(a,m)])=q7d l++qo4 a (a+m):=by unfold q7d;rw [List.flatMap_append];simp
theorem qyx (a:Nat):qo4 a (a+0)=[(a:Int)]:=by unfold qo4;rw [show a+0+1-a=1 by omega];rfl
theorem qu2 (a m:Nat):qo4 a (a+(m+1))=qo4 a (a+m)++[((a+m+1:Nat):Int)]:=by
 unfold qo4
 rw [show a+(m+1)+1-a=(a+m+1-a)+1 by omega,List.range_succ,List.map_append,show a+m+1-a=m+1 by omega]
 rfl
theorem qkd (f:Nat→Bool):∀ n,q7d (rt f n)=((List.range n).filter f).map fun j:Nat=>(j:Int)
 | 0=>rfl
 | n+1=>by
  have ih:=qkd f n
  rw [List.range_succ,List.filter_append,List.map_append,← ih,rt]
  cases hf:f n with
  | false=>rw [if_pos rfl];simp [hf]
  | true =>
   rw [if_neg (by simp)]
   have e:([n].filter f).map (fun j:Nat=>(j:Int))=[(n:Int)]:=by simp [hf]
   rw [e]
   by_cases h1:0<n∧f (n-1)=true
   ·rw [if_pos h1]
    obtain ⟨l,a,m,e,ha⟩:=qe4 h1.1 h1.2
    rw [e,q2s,q9v,q9v,qu2,List.append_assoc,show a+m+1=n by omega]
   ·rw [if_neg h1,q9v,qyx]
theorem qk7 (f:Nat→Bool):q7d (rs f 0)=qfr f:=by rw [← q131,qkd];rfl
def q6s:Nat→List (Nat×Nat)→List UInt8
 | _,[]=>[]
 | last,(a,m) :: r=>q2m (a-last)++q2m m++q6s (a+m) r
def q9p:Bool→Nat→List (Nat×Nat)→Prop
 | _,_,[]=>True
 | first,last,(a,m) :: r=>last≤a∧(first=true∨last+2≤a)∧a+m<256∧q9p false (a+m) r
def q9k (l:List Int):List UInt8:=2 :: (q2m (rs (inl l) 0).length++q6s 0 (rs (inl l) 0))
def q5r (l:List Int):List UInt8×Int:=if sok l=false then ([],1) else (q9k l,0)
theorem qzf (f:Nat→Bool):∀ (d n:Nat) (first:Bool) (last:Nat),256-n=d→(∀ x,n≤x→x<256→q3g f x=true→last≤x∧(first=true∨last+2≤x))→q9p first last (rs f n)
 | 0,n,first,last,hd,_=>by rw [qau (by omega)];trivial
 | d+1,n,first,last,hd,h=>by
  cases hs:q3g f n with
  | false=>rw [qm8 hs];exact qzf f d (n+1) first last (by omega) fun x h1 h2 h3=>h x (by omega) h2 h3
  | true =>
   rw [qjl (by omega) hs]
   obtain ⟨k1,k2⟩:=h n (Nat.le_refl _) (by omega) hs
   refine ⟨k1,k2,q107 f (by omega),qzf f d (n+1) false _ (by omega) fun x h1 h2 h3=>?_⟩
   have hfn:f n=true:=by simp [q3g] at hs;exact hs.1
   have h3':=h3
   simp only [q3g,Bool.and_eq_true,Bool.not_eq_true',Bool.and_eq_false_imp,decide_eq_true_eq] at h3'
   obtain ⟨hfx,hprev⟩:=h3'
   have hp:=hprev (by omega)
   have:n+ext f n<x:=by
    rcases Nat.lt_or_ge (n+ext f n) x with h4 | h4
    ·exact h4
    ·exfalso
     by_cases hx:x-1=n
     ·rw [hx,hfn] at hp;cases hp
     ·rw [qzk f (n:=n) (by omega) (x:=x-1) (by omega) (by omega)] at hp;cases hp
   have:x≠n+ext f n+1:=by
    intro e
    rw [e,qtl f (by omega) (by omega)] at hfx;cases hfx
   exact ⟨by omega,.inr (by omega)⟩
theorem qha (f:Nat→Bool):∀ (d n:Nat),256-n=d→(rs f n).length≤d
 | 0,n,hd=>by rw [qau (by omega)];exact Nat.le_refl _
 | d+1,n,hd=>by
  have:=qha f d (n+1) (by omega)
  cases hs:q3g f n with
  | false=>rw [qm8 hs];omega
  | true=>rw [qjl (by omega) hs,List.length_cons];omega
theorem qow : ∀ (q : List (Nat × Nat)) (first : Bool) (last : Nat) (acc : List Int) (r : List UInt8), q9p first last q → qqh q.length first last acc (q6s last q ++ r) = .ok (acc ++ q7d q, r)
  | [], first, last, acc, r, _ => by rw [List.length_nil, qqh]; simp [q6s, q7d]
  | (a, m) :: q, first, last, acc, r, h => by
    obtain ⟨h1, h2, h3, h4⟩ := h
    rw [List.length_cons, qqh, q6s, List.append_assoc, List.append_assoc, qdf (by omega)]
    simp only
    rw [qdf (by omega)]
    simp only
    have e : last + (a - last) + m = a + m := by omega
    have e2 : last + (a - last) = a := by omega
    rw [if_pos ⟨by omega, by omega, by omega, h2.imp (fun e => e) (fun e => by omega)⟩, e, e2, qow q false (a + m) _ r h4]
    simp [q7d, List.append_assoc]
theorem qxp {l:List Int} (hl:sok l=true) (r:List UInt8):qac (q9k l++r) = .ok (l,r):=by
 have hlen:=qha (inl l) 256 0 rfl
 show qac (2 :: (q2m (rs (inl l) 0).length++q6s 0 (rs (inl l) 0)++r))=_
 rw [qac,if_neg (by simp),List.append_assoc,qdf (by omega)]
 simp only
 rw [if_neg (by omega),qow _ true 0 [] r (qzf _ 256 0 true 0 rfl fun x _ _ _=>⟨Nat.zero_le _,.inl rfl⟩),List.nil_append,qk7]
 congr 2
 exact q10k (qik _) hl fun n=>by
  rw [qos]
  cases h:inl l n with
  | false=>simp
  | true=>simp [qf8 hl h]
theorem qoz:∀ {k:Nat} {first:Bool} {last:Nat} {acc:List Int} {b:List UInt8} {l:List Int} {r:List UInt8},last<256→qqh k first last acc b = .ok (l,r)→∃ q,q.length=k∧q9p first last q∧b=q6s last q++r∧l=acc++q7d q
 | 0,_,_,_,_,_,_,_,h=>by cases h;exact ⟨[],rfl,trivial,rfl,by simp [q7d]⟩
 | k+1,first,last,acc,b,l,r,hl,h=>by
  unfold qqh at h
  cases h1:got 0 0 b with
  | error e=>rw [h1] at h;cases h
  | ok x =>
   obtain ⟨far,b1⟩:=x
   rw [h1] at h
   simp only at h
   cases h2:got 0 0 b1 with
   | error e=>rw [h2] at h;cases h
   | ok x =>
    obtain ⟨more,b2⟩:=x
    rw [h2] at h
    simp only at h
    split at h
    ·rename_i hok
     obtain ⟨k1,k2,k3,k4⟩:=hok
     obtain ⟨q,e1,e2,e3,e4⟩:=qoz k3 h
     refine ⟨(last+far,more) :: q,by simp [e1],⟨by omega,k4.imp (fun e=>e) (fun e=>by omega),k3,e2⟩,?_,?_⟩
     ·rw [qdi h1,qdi h2,e3,q6s,show last+far-last=far by omega,List.append_assoc,List.append_assoc]
     ·rw [e4];simp [q7d,List.append_assoc]
    ·cases h
def inq (q:List (Nat×Nat)) (x:Nat):Bool:=q.any fun p=>decide (p.1≤x)&&decide (x≤p.1+p.2)
theorem qq4 (q:List (Nat×Nat)) (x:Nat):inl (q7d q) x=inq q x:=by
 rw [Bool.eq_iff_iff,inl_mem,q7d,List.mem_flatMap,inq,List.any_eq_true]
 constructor
 ·rintro ⟨p,hp,hx⟩
  refine ⟨p,hp,?_⟩
  unfold qo4 at hx
  obtain ⟨k,hk,e⟩:=List.mem_map.1 hx
  rw [List.mem_range] at hk
  simp
  omega
 ·rintro ⟨p,hp,hx⟩
  simp at hx
  refine ⟨p,hp,?_⟩
  unfold qo4
  exact List.mem_map.2 ⟨x-p.1,List.mem_range.2 (by omega),by omega⟩
theorem qni {f:Nat→Bool} {a b:Nat} (h:a≤b) (hf:∀ x,a≤x→x<b→q3g f x=false):rs f a=rs f b:=by
 obtain ⟨d,rfl⟩:∃ d,b=a+d:=⟨b-a,by omega⟩
 clear h
 induction d generalizing a with
 | zero=>rfl
 | succ d ih =>
  rw [qm8 (hf a (Nat.le_refl _) (by omega)),show a+(d+1)=a+1+d by omega]
  exact ih fun x h1 h2=>hf x (by omega) (by omega)
theorem qzv {f:Nat→Bool}:∀ {m a:Nat},a+m<256→(∀ x,a<x→x≤a+m→f x=true)→(a+m<255→f (a+m+1)=false)→ext f a=m
 | 0,a,h,_,h2=>qg5 fun h1=>h2 h1
 | m+1,a,h,h1,h2=>by
  rw [qeo (by omega) (h1 (a+1) (by omega) (by omega)),qzv (m:=m) (a:=a+1) (by omega) (fun x k1 k2=>h1 x (by omega) (by omega)) (fun k=>by rw [show a+1+m+1=a+(m+1)+1 by omega];exact h2 (by omega))]
theorem rs_q {f : Nat → Bool} : ∀ (q : List (Nat × Nat)) (first : Bool) (last n : Nat), q9p first last q → (∀ p ∈ q.head?, n ≤ p.1) → (∀ x, n ≤ x → x < 256 → f x = inq q x) → (n = 0 ∨ f (n - 1) = false) → rs f n = q
  | [], first, last, n, _, _, hf, _ => by
    rcases Nat.lt_or_ge n 256 with hn | hn
    · rw [qni (a := n) (b := 256) (by omega) fun x h1 h2 => by simp [q3g, hf x h1 h2, inq], qau (Nat.le_refl _)]
    · exact qau hn
  | (a, m) :: q, first, last, n, hok, hh, hf, hn => by
    obtain ⟨h1, h2, h3, h4⟩ := hok
    have hna : n ≤ a := hh (a, m) rfl
    have hq : ∀ p ∈ q.head?, a + m + 2 ≤ p.1 := by
      intro p hp
      cases q with
      | nil => cases hp
      | cons p' q => obtain ⟨a', m'⟩ := p'; simp at hp; subst hp; exact h4.2.1.resolve_left (by simp)
    have hqlow : ∀ x, x < a + m + 2 → inq q x = false := by
      intro x hx
      have : ∀ (q : List (Nat × Nat)) (fi : Bool) (la : Nat), q9p fi la q → (∀ p ∈ q.head?, x < p.1) → inq q x = false := by
        intro q
        induction q with
        | nil => intros; rfl
        | cons p q ih =>
          obtain ⟨a', m'⟩ := p
          intro fi la ⟨g1, g2, g3, g4⟩ gh
          have gx : x < a' := gh (a', m') rfl
          have := ih false (a' + m') g4 (by
            intro p hp
            cases q with
            | nil => cases hp
            | cons p' q => obtain ⟨a2, m2⟩ := p'; simp at hp; subst hp; have := g4.1; show x < a2; omega)
          unfold inq at this ⊢
          rw [List.any_cons, this, Bool.or_false]
          simp; omega
      exact this q false (a + m) h4 fun p hp => by have := hq p hp; omega
    have hfx : ∀ x, n ≤ x → x < 256 → x < a + m + 2 → f x = (decide (a ≤ x) && decide (x ≤ a + m)) := by
      intro x k1 k2 k3
      rw [hf x k1 k2]
      have := hqlow x k3
      unfold inq at this ⊢
      rw [List.any_cons, this, Bool.or_false]
    have hfa : f a = true := by rw [hfx a hna (by omega) (by omega)]; simp
    have hpre : ∀ x, n ≤ x → x < a → f x = false := fun x k1 k2 => by rw [hfx x k1 (by omega) (by omega)]; simp; omega
    rw [qni hna fun x k1 k2 => by simp [q3g, hpre x k1 k2]]
    have hs : q3g f a = true := by
      simp only [q3g, hfa, Bool.true_and, Bool.not_eq_true', Bool.and_eq_false_imp, decide_eq_true_eq]
      intro ha
      by_cases e : a = n
      · subst e; exact hn.resolve_left (by omega)
      · exact hpre (a - 1) (by omega) (by omega)
    have hext : ext f a = m := qzv h3 (fun x k1 k2 => by rw [hfx x (by omega) (by omega) (by omega)]; simp; omega) (fun k => by rw [hfx _ (by omega) (by omega) (by omega)]; simp)
    rw [qjl (by omega) hs, hext]
    congr 1
    rw [qni (a := a + 1) (b := a + m + 1) (by omega) fun x k1 k2 => by
      have : f (x - 1) = true := by rw [hfx (x - 1) (by omega) (by omega) (by omega)]; simp; omega
      simp [q3g, this]; intro _; omega]
    rcases Nat.lt_or_ge (a + m + 1) 256 with hlt | hge
    · have hfe : f (a + m + 1) = false := by rw [hfx _ (by omega) hlt (by omega)]; simp
      rw [qm8 (by simp [q3g, hfe])]
      refine rs_q q false (a + m) (a + m + 2) h4 hq (fun x k1 k2 => ?_) (.inr (by show f (a + m + 1) = false; exact hfe))
      rw [hf x (by omega) k2]
      unfold inq
      rw [List.any_cons]
      simp; omega
    · rw [qau hge]
      cases q with
      | nil => rfl
      | cons p q => obtain ⟨a', m'⟩ := p; have := h4.2.1.resolve_left (by simp); have := h4.2.2.1; omega
theorem qxk {b:List UInt8} {l:List Int} {r:List UInt8} (h:qac b = .ok (l,r)):sok l=true∧b=q9k l++r:=by
 unfold qac at h
 split at h
 ·cases h
 rename_i c b'
 split at h
 ·cases h
 rename_i hc
 have hc2:c=2:=by simpa using hc
 subst hc2
 cases h1:got 0 0 b' with
 | error e=>rw [h1] at h;cases h
 | ok x =>
  obtain ⟨many,b1⟩:=x
  rw [h1] at h
  simp only at h
  split at h
  ·cases h
  obtain ⟨q,e1,e2,e3,e4⟩:=qoz (by decide) h
  rw [List.nil_append] at e4
  have hrs:rs (inl l) 0=q:=by
   rw [e4]
   exact rs_q q true 0 0 e2 (fun _ _=>Nat.zero_le _) (fun x _ _=>qq4 q x) (.inl rfl)
  refine ⟨?_,?_⟩
  ·rw [e4,← hrs,qk7];exact qik _
  ·rw [q9k,hrs,qdi h1,e3,e1]
   simp [List.append_assoc]
def bd (l:List Int) (i:Nat):Nat:=if i=0 then 0 else (l.getD (i-1) 0).toNat+1
theorem qzl (f:Nat→Bool):∀ n,(rt f n).length≤n
 | 0=>Nat.le_refl _
 | n+1=>by
  have ih:=qzl f n
  rw [rt]
  split
  ·omega
  ·split
   ·rename_i h
    obtain ⟨l,a,m,e,_⟩:=qe4 h.1 h.2
    rw [e] at ih ⊢
    rw [q2s]
    simp at ih ⊢
    omega
   ·rw [List.length_append];simp;omega
theorem q6n {l:List Int} (h:sok l=true) {i:Nat} (hi:i<l.length):∃ n:Nat,l[i]?=some (n:Int)∧n<256:=by
 have:=q7o h hi
 exact ⟨l[i].toNat,by rw [List.getElem?_eq_getElem hi];congr 1;omega,by omega⟩
theorem q9w {l:List Int} {i n:Nat} (h:l[i]?=some (n:Int)):bd l (i+1)=n+1:=by
 unfold bd
 rw [if_neg (by omega),Nat.add_sub_cancel,List.getD_eq_getElem?_getD,h]
 simp
theorem qvp {l:List Int} (h:sok l=true) {i j a b:Nat} (hij:i<j) (ha:l[i]?=some (a:Int)) (hb:l[j]?=some (b:Int)):a<b:=by
 obtain ⟨hi,ha⟩:=List.getElem?_eq_some_iff.1 ha
 obtain ⟨hj,hb⟩:=List.getElem?_eq_some_iff.1 hb
 have:=List.pairwise_iff_getElem.1 (q7i h) i j hi hj hij
 rw [ha,hb] at this
 omega
theorem qzx {l:List Int} (h:sok l=true) {i:Nat} (hil:i≤l.length):∀ x,bd l i≤x→(∀ n:Nat,l[i]?=some (n:Int)→x<n)→inl l x=false:=by
 intro x h1 h2
 cases hx:inl l x with
 | false=>rfl
 | true =>
  exfalso
  obtain ⟨k,hk,e⟩:=List.getElem_of_mem (inl_mem.1 hx)
  have hk':l[k]?=some (x:Int):=by rw [List.getElem?_eq_getElem hk,e]
  rcases Nat.lt_or_ge k i with hki | hki
  ·obtain ⟨p,hp,_⟩:=q6n h (i:=i-1) (by omega)
   have e1:bd l i=p+1:=by
    have:=q9w hp
    rwa [show i-1+1=i by omega] at this
   by_cases hk2:k=i-1
   ·subst hk2;rw [hp] at hk';have:=Option.some.inj hk';omega
   ·have:=qvp h (i:=k) (j:=i-1) (by omega) hk' hp;omega
  ·obtain ⟨n,hn,_⟩:=q6n h (i:=i) (by omega)
   have h3:=h2 n hn
   by_cases hk2:k=i
   ·subst hk2;rw [hn] at hk';have:=Option.some.inj hk';omega
   ·have:=qvp h (i:=i) (j:=k) (by omega) hn hk';omega
theorem quj {l:List Int} (h:sok l=true) {i n:Nat} (hn:l[i]?=some (n:Int)) :
  rt (inl l) (n+1)=if 0<i∧l[i-1]?=some ((n:Int)-1) then q8d 1 (rt (inl l) (bd l i)) else rt (inl l) (bd l i)++[(n,0)]:=by
 have hi:i<l.length:=(List.getElem?_eq_some_iff.1 hn).1
 have hf:inl l n=true:=inl_mem.2 (List.mem_of_getElem? hn)
 have hbd:bd l i≤n:=by
  rcases Nat.eq_zero_or_pos i with e | e
  ·subst e;exact Nat.zero_le _
  ·obtain ⟨p,hp,_⟩:=q6n h (i:=i-1) (by omega)
   have e1:=q9w hp
   rw [show i-1+1=i by omega] at e1
   have:=qvp h (i:=i-1) (j:=i) (by omega) hp hn
   omega
 have hgap:∀ x,bd l i≤x→x<n→inl l x=false:=fun x h1 h2=>qzx h (by omega) x h1 fun n' hn'=>by
  rw [hn] at hn'
  have:=Option.some.inj hn'
  omega
 rw [rt,if_neg (by rw [hf];simp),qwf hbd hgap]
 have key:(0<n∧inl l (n-1)=true)↔(0<i∧l[i-1]?=some ((n:Int)-1)):=by
  constructor
  ·rintro ⟨h1,h2⟩
   have hb:n-1<bd l i:=by
    rcases Nat.lt_or_ge (n-1) (bd l i) with h3 | h3
    ·exact h3
    ·rw [hgap (n-1) h3 (by omega)] at h2;cases h2
   have hi0:0<i:=by
    rcases Nat.eq_zero_or_pos i with e | e
    ·subst e;simp [bd] at hb
    ·exact e
   obtain ⟨p,hp,_⟩:=q6n h (i:=i-1) (by omega)
   have e1:=q9w hp
   rw [show i-1+1=i by omega] at e1
   refine ⟨hi0,?_⟩
   rw [hp]
   congr 1
   omega
  ·rintro ⟨h1,h2⟩
   obtain ⟨p,hp,_⟩:=q6n h (i:=i-1) (by omega)
   rw [hp] at h2
   have h3:=Option.some.inj h2
   refine ⟨by omega,inl_mem.2 ?_⟩
   have:=List.mem_of_getElem? hp
   rw [h3] at this
   rwa [show ((n-1:Nat):Int)=(n:Int)-1 by omega]
 by_cases hk:0<n∧inl l (n-1)=true
 ·rw [if_pos hk,if_pos (key.1 hk)]
 ·rw [if_neg hk,if_neg (fun e=>hk (key.2 e))]
theorem quk {l:List Int} (h:sok l=true) {i n:Nat} (hn:l[i]?=some (n:Int)) (hc:0<i∧l[i-1]?=some ((n:Int)-1)):∃ q a m,rt (inl l) (bd l i)=q++[(a,m)]∧a+m<256:=by
 obtain ⟨p,hp,hp2⟩:=q6n h (i:=i-1) (by have:=(List.getElem?_eq_some_iff.1 hn).1;omega)
 have e1:=q9w hp
 rw [show i-1+1=i by omega] at e1
 have hf:inl l p=true:=inl_mem.2 (List.mem_of_getElem? hp)
 obtain ⟨q,a,m,e,ha⟩:=qe4 (f:=inl l) (n:=bd l i) (by omega) (by rw [e1];exact hf)
 exact ⟨q,a,m,e,by omega⟩
theorem qt3 {l:List Int} (h:sok l=true):rt (inl l) (bd l l.length)=rs (inl l) 0:=by
 have hb:bd l l.length≤256:=by
  rcases Nat.eq_zero_or_pos l.length with e | e
  ·rw [e];simp [bd]
  ·obtain ⟨p,hp,hp2⟩:=q6n h (i:=l.length-1) (by omega)
   have e1:=q9w hp
   rw [show l.length-1+1=l.length by omega] at e1
   omega
 rw [← q131,qwf hb fun x h1 h2=>qzx h (Nat.le_refl _) x h1 fun n hn=>by
  rw [List.getElem?_eq_none (Nat.le_refl _)] at hn;cases hn]
theorem q6p (s:ByteArray):s.data.toList.length=s.size:=by rw [Array.length_toList];rfl
abbrev Rd (α:Type):=List UInt8→Except Int (α×List UInt8)
def pb {α β:Type} (f:Rd α) (g:α→Rd β):Rd β:=fun b=>match f b with
 | .error e=>.error e
 | .ok (v,r)=>g v r
theorem q5n {α β:Type} {f:Rd α} {g:α→Rd β} {b:List UInt8} {v:α} {r:List UInt8} (h:f b = .ok (v,r)):pb f g b=g v r:=by unfold pb;rw [h]
theorem q9s {α β:Type} {f:Rd α} {g:α→Rd β} {b:List UInt8} {e:Int} (h:f b = .error e):pb f g b = .error e:=by unfold pb;rw [h]
theorem qb5 {α β:Type} {f:Rd α} {g:α→Rd β} {b:List UInt8} {w:β} {r:List UInt8} (h:pb f g b = .ok (w,r)):∃ v r1,f b = .ok (v,r1)∧g v r1 = .ok (w,r):=by
 unfold pb at h
 cases hf:f b with
 | error e=>rw [hf] at h;cases h
 | ok x=>obtain ⟨v,r1⟩:=x;rw [hf] at h;exact ⟨v,r1,rfl,h⟩
def qxv {α:Type} (e:Int):Rd α:=fun _=>.error e
def qn8 {α:Type} (c:Bool) (v:α):Rd α:=fun b=>if c then .ok (v,b) else .error 3
def qg1:Rd Nat:=fun b=>got 0 0 b
def q10v:Rd UInt8 | []=>.error 2 | c :: r=>.ok (c,r)
def qm2 (n:Nat):Rd ByteArray:=fun b=>if b.length<n then .error 2 else .ok (⟨(b.take n).toArray⟩,b.drop n)
def zig (p:Int):Nat:=if p<0 then (0-2 * p-1).toNat else (2 * p).toNat
def zag (n:Nat):Int:=if n % 2=1 then -1-((n / 2:Nat):Int) else ((n / 2:Nat):Int)
theorem q128 (p:Int):zag (zig p)=p:=by unfold zag zig;split<;>split<;>omega
theorem q10e (n:Nat):zig (zag n)=n:=by unfold zag zig;split<;>split<;>omega
def wb (w:Bool):UInt8:=if w then 1 else 0
def q2t (s:Spec):List UInt8:=1 :: (q2m s.nodes.toNat++(q2m s.cores.toNat++(q2m s.gpus.toNat++(q2m s.tag.size++(s.tag.data.toList++(wb s.whole :: (q2m s.long.toNat++q2m (zig s.prio))))))))
def q4a (s:Spec):List UInt8×Int:=if q1c s=false then ([],1) else (q2t s,0)
def q9j:Rd ByteArray:=pb qg1 fun n=>if 16<n then qxv 3 else qm2 n
def rsp6 (n c g:Nat) (t:ByteArray) (w:Bool):Rd Spec:=pb qg1 fun l=>pb qg1 fun p=>qn8 (q1c ⟨n,c,g,t,w,l,zag p⟩) ⟨n,c,g,t,w,l,zag p⟩
def rsp5 (n c g:Nat) (t:ByteArray):Rd Spec:=pb q10v fun k=>if 1<k.toNat then qxv 3 else rsp6 n c g t (k.toNat == 1)
def rsp1:Rd Spec:=pb qg1 fun n=>pb qg1 fun c=>pb qg1 fun g=>pb q9j fun t=>rsp5 n c g t
def q3r:Rd Spec:=pb q10v fun c=>if c≠1 then qxv 3 else rsp1
def q25 (b:List UInt8):Spec×Int :=
 if 65536<b.length then (q2e,4)
 else match q3r b with
  | .error e=>(q2e,e)
  | .ok (s,r)=>if r=[] then (s,0) else (q2e,3)
theorem q95 {n:Nat} (h:n≤4611686018427387904) (r:List UInt8):qg1 (q2m n++r) = .ok (n,r):=qdf h r
theorem q11m (t:ByteArray):(⟨t.data.toList.toArray⟩:ByteArray)=t:=by cases t;simp
theorem qll {s:Spec} (hs:q1c s=true) (r:List UInt8):q3r (q2t s++r) = .ok (s,r):=by
 have hf:=q4s hs
 have htag:s.tag.size≤16:=by
  have:=hs
  simp only [q1c,q9g,Bool.and_eq_true,decide_eq_true_eq] at this
  omega
 have hz:zig s.prio≤4611686018427387904:=by
  have:=hs
  simp only [q1c,Bool.and_eq_true,decide_eq_true_eq] at this
  unfold zig;split<;>omega
 have hl:s.long.toNat≤4611686018427387904:=by omega
 show q3r (1 :: (q2m s.nodes.toNat++(q2m s.cores.toNat++(q2m s.gpus.toNat++(q2m s.tag.size++(s.tag.data.toList++(wb s.whole :: (q2m s.long.toNat++q2m (zig s.prio))))))))++r)=_
 simp only [List.cons_append,List.append_assoc]
 rw [q3r,q5n (v:=1) rfl,if_neg (by simp),rsp1,q5n (q95 (by omega) _),q5n (q95 (by omega) _),q5n (q95 (by omega) _)]
 have hlen:s.tag.data.toList.length=s.tag.size:=q6p _
 rw [q5n (v:=s.tag) (r:=wb s.whole :: (q2m s.long.toNat++(q2m (zig s.prio)++r))) (by
  rw [q9j,q5n (q95 (by omega) _),if_neg (by omega),qm2,if_neg Y12,List.take_left' hlen,List.drop_left' hlen,q11m])]
 rw [rsp5,q5n (v:=wb s.whole) (r:=q2m s.long.toNat++(q2m (zig s.prio)++r)) rfl,if_neg (by unfold wb;split<;>decide),rsp6,q5n (q95 hl _),q5n (q95 hz _),q128]
 have e:(⟨(s.nodes.toNat:Int),(s.cores.toNat:Int),(s.gpus.toNat:Int),s.tag,(wb s.whole).toNat == 1,(s.long.toNat:Int),s.prio⟩:Spec)=s:=by
  have hw:((wb s.whole).toNat == 1)=s.whole:=by cases s.whole<;>rfl
  rw [hw]
  cases s
  simp only [Spec.mk.injEq]
  simp only at hf
  refine ⟨by omega,by omega,by omega,trivial,trivial,by omega,trivial⟩
 rw [e,qn8,if_pos hs]
theorem q93 {b r:List UInt8} {n:Nat} (h:qg1 b = .ok (n,r)):b=q2m n++r:=qdi h
theorem qte {b r:List UInt8} {s:Spec} (h:q3r b = .ok (s,r)):q1c s=true∧b=q2t s++r:=by
 obtain ⟨c,b0,h1,h⟩:=qb5 h
 split at h
 ·cases h
 rename_i hc
 obtain ⟨n,b1,h2,h⟩:=qb5 h
 obtain ⟨k,b2,h3,h⟩:=qb5 h
 obtain ⟨g,b3,h4,h⟩:=qb5 h
 obtain ⟨t,b4,h5,h⟩:=qb5 h
 obtain ⟨w,b5,h6,h⟩:=qb5 h
 split at h
 ·cases h
 rename_i hw
 obtain ⟨l,b6,h7,h⟩:=qb5 h
 obtain ⟨p,b7,h8,h⟩:=qb5 h
 unfold qn8 at h
 split at h
 ·rename_i hs
  cases h
  refine ⟨hs,?_⟩
  have e1:b=1 :: b0:=by
   cases b with
   | nil=>cases h1
   | cons d b=>cases h1;congr 1;simpa using hc
  have e6:b4=wb (w.toNat == 1) :: b5:=by
   cases b4 with
   | nil=>cases h6
   | cons d b4 =>
    cases h6
    congr 1
    apply UInt8.toNat_inj.1
    have:w.toNat=0∨w.toNat=1:=by omega
    rcases this with e | e<;>rw [e]<;>rfl
  obtain ⟨m,b3',h9,h5⟩:=qb5 h5
  split at h5
  ·cases h5
  unfold qm2 at h5
  split at h5
  ·cases h5
  rename_i hm1 hm2
  cases h5
  have hsz:(⟨(b3'.take m).toArray⟩:ByteArray).size=m:=by
   show (b3'.take m).toArray.size=m
   rw [List.size_toArray,List.length_take];omega
  rw [e1,q93 h2,q93 h3,q93 h4,q93 h9]
  show _=1 :: (q2m _++(q2m _++(q2m _++(q2m (ByteArray.size _)++(_++(wb _ :: (q2m _++q2m _)))))))++r
  simp only [List.cons_append,List.append_assoc]
  rw [hsz,q10e,Int.toNat_natCast,Int.toNat_natCast,Int.toNat_natCast,Int.toNat_natCast]
  have e4:b3'=b3'.take m++(wb (w.toNat == 1) :: b5):=by rw [← e6,List.take_append_drop]
  rw [q93 h7,q93 h8] at e4
  congr 5
 ·cases h
theorem qi3 (n:Nat):∀ k,n<128 ^ (k+1)→(q2m n).length≤k+1:=by
 intro k
 induction k generalizing n with
 | zero=>intro h;rw [qbo (by omega)];simp
 | succ k ih =>
  intro h
  by_cases hn:n<128
  ·rw [qbo hn];simp
  ·rw [qci hn,List.length_cons]
   have:=ih (n / 128) (by rw [Nat.div_lt_iff_lt_mul (by decide),← Nat.pow_succ];exact h)
   omega
theorem q2h {n:Nat} (h:n<18446744073709551616):(q2m n).length≤10:=qi3 n 9 (Nat.lt_of_lt_of_le h (by decide))
theorem qi5 {b:List UInt8}:∀ {i n:Nat} {e:Int},got i n b = .error e→e=2∨e=3:=by
 induction b with
 | nil=>intro i n e h;cases h;exact .inl rfl
 | cons c b ih =>
  intro i n e h
  unfold got at h
  split at h
  ·cases h;exact .inr rfl
  split at h
  ·split at h
   ·cases h;exact .inr rfl
   ·cases h
  ·exact ih h
theorem qok:∀ {m:Nat} {first:Bool} {last:Nat} {acc:List Int} {b:List UInt8} {e:Int},qqh m first last acc b = .error e→e=2∨e=3
 | 0,_,_,_,_,_,h=>by cases h
 | m+1,first,last,acc,b,e,h=>by
  unfold qqh at h
  cases h1:got 0 0 b with
  | error e1=>rw [h1] at h;cases h;exact qi5 h1
  | ok x =>
   obtain ⟨far,b1⟩:=x
   rw [h1] at h
   simp only at h
   cases h2:got 0 0 b1 with
   | error e1=>rw [h2] at h;cases h;exact qi5 h2
   | ok x =>
    obtain ⟨more,b2⟩:=x
    rw [h2] at h
    simp only at h
    split at h
    ·exact qok h
    ·cases h;exact .inr rfl
theorem qp7 {b:List UInt8} {e:Int} (h:qac b = .error e):e=2∨e=3:=by
 unfold qac at h
 split at h
 ·cases h;exact .inl rfl
 split at h
 ·cases h;exact .inr rfl
 rename_i c r _
 cases h1:got 0 0 r with
 | error e1=>rw [h1] at h;cases h;exact qi5 h1
 | ok x =>
  obtain ⟨many,b1⟩:=x
  rw [h1] at h
  simp only at h
  split at h
  ·cases h;exact .inr rfl
  ·exact qok h
def qce {α:Type} (f:Rd α):Prop:=∀ b e,f b = .error e→e=2∨e=3
theorem q62 {α β:Type} {f:Rd α} {g:α→Rd β} (hf:qce f) (hg:∀ v,qce (g v)):qce (pb f g):=fun b e h=>by
 cases h1:f b with
 | error e1=>rw [q9s h1] at h;cases h;exact hf _ _ h1
 | ok x=>obtain ⟨v,r⟩:=x;rw [q5n h1] at h;exact hg v _ _ h
theorem qbw {α:Type}:qce (qxv (α:=α) 3):=fun b e h=>by cases h;exact .inr rfl
theorem qrj {α:Type} (c:Bool) (v:α):qce (qn8 c v):=fun b e h=>by
 cases c with
 | true=>cases h
 | false=>cases h;exact .inr rfl
theorem qge:qce q10v:=fun b e h=>by
 cases b with
 | nil=>cases h;exact .inl rfl
 | cons c b=>cases h
theorem qr6 (n:Nat):qce (qm2 n):=fun b e h=>by
 unfold qm2 at h
 split at h
 ·cases h;exact .inl rfl
 ·cases h
theorem q77:qce qg1:=fun b e h=>qi5 h
theorem qer {α:Type} {c:Prop} [Decidable c] {f g:Rd α} (hf:qce f) (hg:qce g):qce (if c then f else g):=by split<;>assumption
theorem qpm:qce q9j:=q62 q77 fun _=>qer qbw (qr6 _)
theorem qe5:qce q3r:=q62 qge fun _=>qer qbw (q62 q77 fun _=>q62 q77 fun _=>q62 q77 fun _=>q62 qpm fun _=>q62 qge fun _=>qer qbw (q62 q77 fun _=>q62 q77 fun _=>qrj _ _))
theorem q6w {s:Spec} (hs:q1c s=true):(q2t s).length≤100:=by
 have hf:=q4s hs
 have htag:s.tag.size≤16:=by
  have:=hs
  simp only [q1c,q9g,Bool.and_eq_true,decide_eq_true_eq] at this
  omega
 have hz:zig s.prio≤4611686018427387904:=by
  have:=hs
  simp only [q1c,Bool.and_eq_true,decide_eq_true_eq] at this
  unfold zig;split<;>omega
 have h1:=q2h (n:=s.nodes.toNat) (by omega)
 have h2:=q2h (n:=s.cores.toNat) (by omega)
 have h3:=q2h (n:=s.gpus.toNat) (by omega)
 have h4:=q2h (n:=s.tag.size) (by omega)
 have h5:=q2h (n:=s.long.toNat) (by omega)
 have h6:=q2h (n:=zig s.prio) (by omega)
 have h7:=q6p s.tag
 unfold q2t
 simp only [List.length_cons,List.length_append]
 omega
theorem qnx (f:Nat→Bool):q9p true 0 (rs f 0):=qzf f 256 0 true 0 rfl fun x _ _ _=>⟨Nat.zero_le _,.inl rfl⟩
theorem q10b {l:List Int} (h:sok l=true):∀ k:Nat,k<l.length→(k:Int)≤l.getD k 0:=by
 intro k
 induction k with
 | zero =>
  intro hk
  have hm:l[0]?=some l[0]:=List.getElem?_eq_getElem hk
  have:=q8q hm (q6t h hk)
  simp only [List.getD_eq_getElem?_getD,hm,Option.getD_some]
  omega
 | succ k ih =>
  intro hk
  have hm:l[k+1]?=some l[k+1]:=List.getElem?_eq_getElem hk
  have hm0:l[k]?=some l[k]:=List.getElem?_eq_getElem (by omega)
  have h1:=q6t h hk
  rw [qcn hm] at h1
  have ih:=ih (by omega)
  simp only [List.getD_eq_getElem?_getD,hm0,hm,Option.getD_some] at ih ⊢
  simp only [Nat.add_sub_cancel,hm0,Bool.and_eq_true,Bool.or_eq_true,decide_eq_true_eq,beq_iff_eq] at h1
  omega
theorem qjm : ∀ (q : List (Nat × Nat)) (first : Bool) (last : Nat), q9p first last q → (q6s last q).length ≤ 20 * q.length
  | [], _, _, _ => Nat.le_refl _
  | (a, m) :: q, first, last, h => by
    obtain ⟨h1, h2, h3, h4⟩ := h
    have k1 := q2h (n := a - last) (by omega)
    have k2 := q2h (n := m) (by omega)
    have ih := qjm q false (a + m) h4
    rw [q6s, List.length_append, List.length_append, List.length_cons]
    omega
theorem qiw {l:List Int} (h:sok l=true):l.length≤256:=by
 rcases Nat.lt_or_ge 256 l.length with hl | hl
 ·have h1:=q10b h 256 hl
  have hm:l[256]?=some l[256]:=List.getElem?_eq_getElem hl
  have:=q8q hm (q6t h hl)
  simp only [List.getD_eq_getElem?_getD,hm,Option.getD_some] at h1
  omega
 ·exact hl
theorem qaz (l:List Int):(q9k l).length≤6000:=by
 have h1:=qjm _ _ _ (qnx (inl l))
 have h2:=qha (inl l) 256 0 rfl
 have h3:=q2h (n:=(rs (inl l) 0).length) (by omega)
 rw [q9k,List.length_cons,List.length_append]
 omega
theorem qgd : ∀ (q : List (Nat × Nat)) (first : Bool) (last : Nat), q9p first last q → (q6s last q).length ≤ 4 * q.length
  | [], _, _, _ => Nat.le_refl _
  | (a, m) :: q, first, last, h => by
    obtain ⟨h1, h2, h3, h4⟩ := h
    have k1 := qi3 (a - last) 1 (by omega)
    have k2 := qi3 m 1 (by omega)
    have ih := qgd q false (a + m) h4
    rw [q6s, List.length_append, List.length_append, List.length_cons]
    omega
theorem qur (l:List Int):(q9k l).length≤1035:=by
 have h1:=qgd _ _ _ (qnx (inl l))
 have h2:=qha (inl l) 256 0 rfl
 have h3:=q2h (n:=(rs (inl l) 0).length) (by omega)
 rw [q9k,List.length_cons,List.length_append]
 omega
theorem qk9 {s:Spec} (h:q1c s=true):q3r (q2t s) = .ok (s,[]):=by have:=qll h [];rwa [List.append_nil] at this
theorem qz5 {l:List Int} (h:sok l=true):qac (q9k l) = .ok (l,[]):=by have:=qxp h [];rwa [List.append_nil] at this
theorem qcw {s:Spec} (h:q1c s=true):q25 (q2t s)=(s,0):=by
 have:=q6w h
 rw [q25,if_neg (by omega),qk9 h];rfl
theorem qmf {l:List Int} (h:sok l=true):q26 (q9k l)=(l,0):=by
 have:=qaz l
 rw [q26,if_neg (by omega),qz5 h];rfl
def PreB (x y:List UInt8):Prop:=x.length≤y.length∧x=y.take x.length
theorem q10q {x y:List UInt8} (h:PreB x y):∃ z,y=x++z:=⟨y.drop x.length,by
 have:=(List.take_append_drop x.length y).symm
 rwa [← h.2] at this⟩
theorem qzh {s t:Spec} (hs:q1c s=true) (ht:q1c t=true) (h:PreB (q2t s) (q2t t)):s=t:=by
 obtain ⟨z,e⟩:=q10q h
 have h1:=qll hs z
 rw [← e,qk9 ht] at h1
 cases h1
 rfl
def chkS (q:Nat×Nat) (c:UInt8):Nat×Nat:=((q.1+c.toNat) % 251,(q.2+(q.1+c.toNat) % 251) % 251)
def qip (b:List UInt8):Nat×Nat:=b.foldl chkS (1,0)
def chk (b:List UInt8):Nat:=(qip b).2 * 256+(qip b).1
def two (n:Nat):List UInt8:=[UInt8.ofNat (n / 256),UInt8.ofNat n]
def q4y (e:List UInt8):List UInt8:=(two e.length++e)++two (chk (two e.length++e))
def okE (e:List UInt8):Bool:=decide (1≤e.length)&&decide (e.length≤4096)
def q78 (b e:List UInt8):List UInt8×Int:=if okE e then (b++q4y e,0) else (b,1)
def hd (b:List UInt8):Nat:=(b.getD 0 0).toNat * 256+(b.getD 1 0).toNat
def isN (b:List UInt8):Bool:=decide (2≤b.length)&&decide (1≤hd b)&&decide (hd b≤4096)&&decide (2+hd b+2≤b.length)&&decide (two (chk (b.take (2+hd b)))=(b.drop (2+hd b)).take 2)
def q36 (b:List UInt8):List UInt8×Nat:=if isN b then ((b.take (2+hd b)).drop 2,2+hd b+2) else ([],0)
theorem q11r (n:Nat):(two n).length=2:=rfl
theorem q72 (e:List UInt8):(q4y e).length=e.length+4:=by simp [q4y,two]
theorem q13a {n:Nat} (h:n<65536) (r:List UInt8):hd (two n++r)=n:=by
 unfold hd two
 simp only [List.cons_append,List.nil_append,List.getD_cons_zero,List.getD_cons_succ,UInt8.toNat_ofNat']
 omega
theorem qvs {e:List UInt8} (h:okE e=true) (r:List UInt8):isN (q4y e++r)=true∧hd (q4y e++r)=e.length:=by
 simp only [okE,Bool.and_eq_true,decide_eq_true_eq] at h
 have hh:hd (q4y e++r)=e.length:=by
  unfold q4y
  rw [List.append_assoc,List.append_assoc]
  exact q13a (by omega) _
 refine ⟨?_,hh⟩
 unfold isN
 rw [hh]
 have hl:=q72 e
 have ht:(two e.length++e).length=2+e.length:=by simp [two];omega
 have h1:(q4y e++r).take (2+e.length)=two e.length++e:=by
  unfold q4y
  rw [List.append_assoc,List.take_append_of_le_length (by omega),List.take_of_length_le (by omega)]
 have h2:((q4y e++r).drop (2+e.length)).take 2=two (chk (two e.length++e)):=by
  unfold q4y
  rw [List.append_assoc,List.drop_append_of_le_length (by omega),List.drop_of_length_le (by omega),List.nil_append]
  rw [List.take_append_of_le_length (by simp [two]),List.take_of_length_le (by simp [two])]
 rw [h1,h2]
 simp only [List.length_append,Bool.and_eq_true,decide_eq_true_eq]
 refine ⟨⟨⟨⟨?_,?_⟩,?_⟩,?_⟩,trivial⟩<;>omega
theorem qme {e:List UInt8} (h:okE e=true) (r:List UInt8):q36 (q4y e++r)=(e,(q4y e).length):=by
 obtain ⟨h1,h2⟩:=qvs h r
 have ht:(two e.length++e).length=2+e.length:=by simp [two];omega
 unfold q36
 rw [if_pos h1,h2]
 have h3:(q4y e++r).take (2+e.length)=two e.length++e:=by
  unfold q4y
  rw [List.append_assoc,List.take_append_of_le_length (by omega),List.take_of_length_le (by omega)]
 rw [h3,q72]
 refine Prod.ext ?_ ?_
 ·simp [two]
 ·simp only;omega
theorem qjj {b:List UInt8} (h:(q36 b).2≠0):okE (q36 b).1=true∧(q36 b).2=(q4y (q36 b).1).length∧b=q4y (q36 b).1++b.drop (q36 b).2:=by
 unfold q36 at h ⊢
 cases hi:isN b with
 | false=>rw [hi] at h;exact absurd rfl h
 | true =>
  rw [if_pos rfl]
  simp only [isN,Bool.and_eq_true,decide_eq_true_eq] at hi
  obtain ⟨⟨⟨⟨h1,h2⟩,h3⟩,h4⟩,h5⟩:=hi
  have hle:((b.take (2+hd b)).drop 2).length=hd b:=by rw [List.length_drop,List.length_take];omega
  have hok:okE ((b.take (2+hd b)).drop 2)=true:=by unfold okE;rw [hle,decide_eq_true h2,decide_eq_true h3];rfl
  have ht2:b.take 2=two (hd b):=by
   rcases b with _ | ⟨x,_ | ⟨y,b⟩⟩
   ·simp at h1
   ·simp at h1
   ·unfold hd two
    simp only [List.getD_cons_zero,List.getD_cons_succ,List.take_succ_cons,List.take_zero]
    have hx:=x.toNat_lt
    have hy:=y.toNat_lt
    have e1:(x.toNat * 256+y.toNat) / 256=x.toNat:=by omega
    rw [e1]
    have e2:UInt8.ofNat (x.toNat * 256+y.toNat)=y:=by
     apply UInt8.toNat.inj
     rw [UInt8.toNat_ofNat']
     omega
    rw [e2]
    simp
  have hbody:two ((b.take (2+hd b)).drop 2).length++(b.take (2+hd b)).drop 2=b.take (2+hd b):=by
   rw [hle,← ht2]
   conv=>rhs;rw [← List.take_append_drop 2 (b.take (2+hd b))]
   rw [List.take_take,show min 2 (2+hd b)=2 by omega]
  have hent:q4y ((b.take (2+hd b)).drop 2)=b.take (2+hd b+2):=by
   unfold q4y
   rw [hbody,h5]
   rw [List.take_add (i:=2+hd b)]
  refine ⟨hok,by rw [q72,hle];simp only;omega,?_⟩
  show b=q4y _++b.drop (2+hd b+2)
  rw [hent,List.take_append_drop]
theorem qf1 {b:List UInt8} (h:b.length≤4):q36 b=([],0):=by
 unfold q36
 rw [if_neg]
 intro hi
 simp only [isN,Bool.and_eq_true,decide_eq_true_eq] at hi
 omega
def q9z:Nat→List UInt8→List (List UInt8)×Nat
 | 0,_=>([],0)
 | f+1,b=>if (q36 b).2=0 then ([],0) else ((q36 b).1 :: (q9z f (b.drop (q36 b).2)).1,(q36 b).2+(q9z f (b.drop (q36 b).2)).2)
def q6e (b:List UInt8):List (List UInt8)×Nat:=q9z (b.length+1) b
theorem qdd {b:List UInt8} (h:(q36 b).2≠0):(q36 b).2≤b.length:=by
 obtain ⟨_,h2,h3⟩:=qjj h
 have:=congrArg List.length h3
 rw [List.length_append,← h2,List.length_drop] at this
 omega
theorem qcr:∀ (f g:Nat) (b:List UInt8),b.length<f→b.length<g→q9z f b=q9z g b
 | 0,_,b,h,_=>by omega
 | _+1,0,b,_,h=>by omega
 | f+1,g+1,b,hf,hg=>by
  unfold q9z
  split
  ·rfl
  ·rename_i h
   have:=qdd h
   have hp:0<(q36 b).2:=Nat.pos_of_ne_zero h
   rw [qcr f g (b.drop (q36 b).2) Y16 Y16]
theorem qi9 (b:List UInt8):q6e b=if (q36 b).2=0 then ([],0) else ((q36 b).1 :: (q6e (b.drop (q36 b).2)).1,(q36 b).2+(q6e (b.drop (q36 b).2)).2):=by
 unfold q6e
 rw [q9z]
 split
 ·rfl
 ·rename_i h
  have:=qdd h
  have hp:0<(q36 b).2:=Nat.pos_of_ne_zero h
  rw [qcr b.length ((b.drop (q36 b).2).length+1) (b.drop (q36 b).2) Y16 (by omega)]
def qag (es:List (List UInt8)):List UInt8:=(es.map q4y).flatten
theorem q6z (e:List UInt8) (es:List (List UInt8)):qag (e :: es)=q4y e++qag es:=by simp [qag]
theorem ql8:∀ (es:List (List UInt8)) (r:List UInt8),(∀ e∈es,okE e=true)→(q36 r).2=0→q6e (qag es++r)=(es,(qag es).length)
 | [],r,_,hr=>by
  rw [qi9]
  show (if (q36 r).2=0 then _ else _)=_
  rw [if_pos hr];rfl
 | e :: es,r,he,hr=>by
  have h1:=qme (he e List.mem_cons_self) (qag es++r)
  rw [q6z,List.append_assoc,qi9,h1]
  have hl:=q72 e
  rw [if_neg (by simp only;omega)]
  simp only
  rw [List.drop_append_of_le_length (Nat.le_refl _),List.drop_length,List.nil_append,ql8 es r (fun x hx=>he x (List.mem_cons_of_mem _ hx)) hr,List.length_append]
theorem qj7:∀ (f:Nat) (b:List UInt8),b.length<f→(∀ e∈(q9z f b).1,okE e=true)∧(q9z f b).2=(qag (q9z f b).1).length∧b=qag (q9z f b).1++b.drop (q9z f b).2∧(q36 (b.drop (q9z f b).2)).2=0
 | 0,b,h=>by omega
 | f+1,b,h=>by
  unfold q9z
  by_cases h0:(q36 b).2=0
  ·rw [if_pos h0]
   exact ⟨(fun _ h=>nomatch h),rfl,rfl,h0⟩
  ·rw [if_neg h0]
   obtain ⟨h1,h2,h3⟩:=qjj h0
   have hle:=qdd h0
   have hp:0<(q36 b).2:=Nat.pos_of_ne_zero h0
   obtain ⟨r1,r2,r3,r4⟩:=qj7 f (b.drop (q36 b).2) Y16
   simp only
   generalize q9z f (b.drop (q36 b).2)=q at *
   refine ⟨fun x hx=>?_,?_,?_,?_⟩
   ·rcases List.mem_cons.1 hx with rfl | hx
    ·exact h1
    ·exact r1 x hx
   ·rw [q6z,List.length_append,← h2,r2]
   ·rw [q6z,List.append_assoc,← List.drop_drop,← r3]
    exact h3
   ·rw [← List.drop_drop];exact r4
theorem ql0 (b:List UInt8):(∀ e∈(q6e b).1,okE e=true)∧(q6e b).2=(qag (q6e b).1).length∧b=qag (q6e b).1++b.drop (q6e b).2∧(q36 (b.drop (q6e b).2)).2=0:=qj7 _ b (Nat.lt_succ_self _)
structure OOp where
 kind:Int
 spec:Spec
 needs:List Int
 id:Int
 what:Int
 at_:Int
 set:List Int
 deriving DecidableEq
def op0:OOp:=⟨0,q2e,[],0,0,0,[]⟩
theorem tm_iff2 {t:Int}:tm t=true↔0≤t∧t≤4611686018427387904:=by simp [tm]
def q44 (n:Int):Bool:=decide (0≤n)&&decide (n≤1073741824)
def q3q (o:OOp):Bool :=
 if o.kind=1 then q1c o.spec&&decide (o.needs.length≤16)&&o.needs.all q44
 else if o.kind=2∨o.kind=5 then q44 o.id&&q44 o.what
 else if o.kind=3 then tm o.at_
 else if o.kind=4 then tm o.at_&&sok o.set else false
def big:Nat→Nat→List UInt8
 | 0,_=>[]
 | k+1,n=>big k (n / 256)++[UInt8.ofNat n]
def q4x (b:List UInt8):Nat:=b.foldl (fun n c=>n * 256+c.toNat) 0
theorem q27:∀ k n,(big k n).length=k
 | 0,_=>rfl
 | k+1,n=>by rw [big,List.length_append,q27 k];rfl
theorem qan (a:List UInt8) (c:UInt8):q4x (a++[c])=q4x a * 256+c.toNat:=by simp [q4x]
theorem q79:∀ k n,n<256 ^ k→q4x (big k n)=n
 | 0,n,h=>by simp at h;subst h;rfl
 | k+1,n,h=>by
  rw [big,qan,q79 k (n / 256) (by rw [Nat.pow_succ] at h;omega),UInt8.toNat_ofNat']
  omega
theorem q96:∀ k (b:List UInt8),b.length=k→q4x b<256 ^ k
 | 0,b,h=>by rw [List.length_eq_zero_iff] at h;subst h;simp [q4x]
 | k+1,b,h=>by
  have hne:b≠[]:=fun e=>by rw [e] at h;simp at h
  rw [← List.dropLast_concat_getLast hne,qan,Nat.pow_succ]
  have:=q96 k b.dropLast (by rw [List.length_dropLast,h];rfl)
  have:=(b.getLast hne).toNat_lt
  omega
theorem q74:∀ k (b:List UInt8),b.length=k→big k (q4x b)=b
 | 0,b,h=>by rw [List.length_eq_zero_iff] at h;subst h;rfl
 | k+1,b,h=>by
  have hne:b≠[]:=fun e=>by rw [e] at h;simp at h
  have hb:=List.dropLast_concat_getLast hne
  have hlt:=(b.getLast hne).toNat_lt
  conv=>lhs;rw [← hb,qan]
  rw [big]
  have e1:(q4x b.dropLast * 256+(b.getLast hne).toNat) / 256=q4x b.dropLast:=by omega
  rw [e1,q74 k b.dropLast (by rw [List.length_dropLast,h];rfl)]
  have e2:UInt8.ofNat (q4x b.dropLast * 256+(b.getLast hne).toNat)=b.getLast hne:=by
   apply UInt8.toNat.inj
   rw [UInt8.toNat_ofNat']
   omega
  rw [e2,hb]
def q3b (l:List Int):List UInt8:=l.flatMap fun n=>big 4 n.toNat
theorem q8t:∀ l,(q3b l).length=4 * l.length
 | []=>rfl
 | n :: l=>by
  have:=q8t l
  unfold q3b at this ⊢
  rw [List.flatMap_cons,List.length_append,q27,this,List.length_cons];omega
def q38 (o:OOp):List UInt8 :=
 UInt8.ofNat o.kind.toNat :: (if o.kind=1 then q2t o.spec++(UInt8.ofNat o.needs.length :: q3b o.needs)
  else if o.kind=2∨o.kind=5 then big 4 o.id.toNat++big 4 o.what.toNat
  else if o.kind=3 then big 8 o.at_.toNat else big 8 o.at_.toNat++q9k o.set)
def q6f (o:OOp):List UInt8×Int:=if q3q o then (q38 o,0) else ([],1)
def q41 (o:OOp):OOp :=
 if o.kind=1 then ⟨1,o.spec,o.needs,0,0,0,[]⟩
 else if o.kind=2∨o.kind=5 then ⟨o.kind,q2e,[],o.id,o.what,0,[]⟩
 else if o.kind=3 then ⟨3,q2e,[],0,0,o.at_,[]⟩ else ⟨o.kind,q2e,[],0,0,o.at_,o.set⟩
def q5j:Nat→List UInt8→List Int
 | 0,_=>[]
 | m+1,b=>(q4x (b.take 4):Int) :: q5j m (b.drop 4)
theorem qgo:∀ (l:List Int),(∀ n∈l,q44 n=true)→q5j l.length (q3b l)=l
 | [],_=>rfl
 | n :: l,h=>by
  have hn:=h n List.mem_cons_self
  simp only [q44,Bool.and_eq_true,decide_eq_true_eq] at hn
  have e:q3b (n :: l)=big 4 n.toNat++q3b l:=rfl
  rw [List.length_cons,q5j,e,List.take_append_of_le_length Yy,List.take_of_length_le Yy,q79 4 _ (by omega)]
  rw [List.drop_append_of_le_length Yy,List.drop_of_length_le Yy,List.nil_append,qgo l fun x hx=>h x (List.mem_cons_of_mem _ hx)]
  rw [Int.toNat_of_nonneg hn.1]
theorem q71:∀ m b,(q5j m b).length=m
 | 0,_=>rfl
 | m+1,b=>by rw [q5j,List.length_cons,q71 m]
theorem qgu:∀ (m:Nat) (b:List UInt8),b.length=4 * m→q3b (q5j m b)=b
 | 0,b,h=>by rw [Nat.mul_zero,List.length_eq_zero_iff] at h;subst h;rfl
 | m+1,b,h=>by
  rw [q5j]
  show big 4 (q4x (b.take 4):Int).toNat++q3b (q5j m (b.drop 4))=b
  rw [Int.toNat_natCast,q74 4 _ Y17,qgu m (b.drop 4) Y16,List.take_append_drop]
theorem qeh {b:List UInt8} (h:(q25 b).2=0):q1c (q25 b).1=true∧b=q2t (q25 b).1:=by
 unfold q25 at h ⊢
 split at h
 ·simp at h
 rename_i hl
 rw [if_neg hl]
 cases hr:q3r b with
 | error e =>
  rw [hr] at h
  have:=qe5 _ _ hr
  simp only at h
  omega
 | ok x =>
  obtain ⟨s,r⟩:=x
  rw [hr] at h
  simp only at h ⊢
  split at h
  ·rename_i h0
   rw [if_pos h0]
   subst h0
   have:=qte hr
   rwa [List.append_nil] at this
  ·simp at h
theorem qgx {b:List UInt8} (h:(q26 b).2=0):sok (q26 b).1=true∧b=q9k (q26 b).1:=by
 unfold q26 at h ⊢
 split at h
 ·simp at h
 rename_i hl
 rw [if_neg hl]
 cases hr:qac b with
 | error e =>
  rw [hr] at h
  have:=qp7 hr
  simp only at h
  omega
 | ok x =>
  obtain ⟨s,r⟩:=x
  rw [hr] at h
  simp only at h ⊢
  split at h
  ·rename_i h0
   rw [if_pos h0]
   subst h0
   have:=qxk hr
   rwa [List.append_nil] at this
  ·simp at h
def qcf (b:List UInt8) (m:Nat):Bool:=decide (4 * m+1≤b.length)&&decide ((b.getD (b.length-4 * m-1) 0).toNat=m)&&decide ((q25 (b.take (b.length-4 * m-1))).2=0)
def qxn (b:List UInt8) (m:Nat):Spec×List Int:=((q25 (b.take (b.length-4 * m-1))).1,q5j m (b.drop (b.length-4 * m)))
def qxw (b:List UInt8):Nat→Nat→Option (Spec×List Int)
 | 0,_=>none
 | k+1,m=>if qcf b m then some (qxn b m) else qxw b k (m+1)
def qwk (b:List UInt8):Option (Spec×List Int):=qxw b 17 0
theorem qp8 {b:List UInt8} {n:Nat} (hn:qcf b n=true):∀ (k m:Nat),m≤n→n<m+k→(∀ i,m≤i→i<n→qcf b i=false)→qxw b k m=some (qxn b n)
 | 0,m,h1,h2,_=>by omega
 | k+1,m,h1,h2,h3=>by
  unfold qxw
  by_cases e:m=n
  ·subst e;rw [if_pos hn]
  ·rw [if_neg (by rw [h3 m (Nat.le_refl _) (by omega)];decide)]
   exact qp8 hn k (m+1) (by omega) (by omega) fun i hi hin=>h3 i (by omega) hin
theorem qim {b:List UInt8} {x:Spec×List Int}:∀ (k m:Nat),qxw b k m=some x→∃ n,m≤n∧n<m+k∧qcf b n=true∧x=qxn b n
 | 0,m,h=>by cases h
 | k+1,m,h=>by
  unfold qxw at h
  split at h
  ·rename_i hs
   cases h
   exact ⟨m,Nat.le_refl _,by omega,hs,rfl⟩
  ·obtain ⟨n,h1,h2,h3,h4⟩:=qim k (m+1) h
   exact ⟨n,by omega,by omega,h3,h4⟩
theorem qx1 {s:Spec} {l:List Int} (hs:q1c s=true) (hl:l.length≤16) (hn:∀ n∈l,q44 n=true):qwk (q2t s++(UInt8.ofNat l.length :: q3b l))=some (s,l):=by
 have hlen:(q2t s++(UInt8.ofNat l.length :: q3b l)).length=(q2t s).length+1+4 * l.length:=by
  rw [List.length_append,List.length_cons,q8t];omega
 have hat:(q2t s++(UInt8.ofNat l.length :: q3b l)).length-4 * l.length-1=(q2t s).length:=by omega
 have htk:(q2t s++(UInt8.ofNat l.length :: q3b l)).take (q2t s).length=q2t s:=by
  rw [List.take_append_of_le_length (Nat.le_refl _),List.take_length]
 have hyes:qcf (q2t s++(UInt8.ofNat l.length :: q3b l)) l.length=true:=by
  unfold qcf
  rw [hat,htk,qcw hs,List.getD_eq_getElem?_getD,List.getElem?_append_right (Nat.le_refl _),Nat.sub_self,List.getElem?_cons_zero,Option.getD_some,UInt8.toNat_ofNat']
  rw [decide_eq_true (by omega),decide_eq_true (by omega)];rfl
 have hval:qxn (q2t s++(UInt8.ofNat l.length :: q3b l)) l.length=(s,l):=by
  unfold qxn
  rw [hat,htk,qcw hs]
  have hd:(q2t s++(UInt8.ofNat l.length :: q3b l)).drop ((q2t s++(UInt8.ofNat l.length :: q3b l)).length-4 * l.length)=q3b l:=by
   rw [show (q2t s++(UInt8.ofNat l.length :: q3b l)).length-4 * l.length=(q2t s).length+1 by omega]
   rw [← List.drop_drop,List.drop_append_of_le_length (Nat.le_refl _),List.drop_length]
   simp
  rw [hd,qgo l hn]
 unfold qwk
 rw [qp8 hyes 17 0 (Nat.zero_le _) (by omega),hval]
 intro i _ hi
 cases e:qcf (q2t s++(UInt8.ofNat l.length :: q3b l)) i with
 | false=>rfl
 | true =>
  exfalso
  simp only [qcf,Bool.and_eq_true,decide_eq_true_eq] at e
  obtain ⟨⟨e1,e2⟩,e3⟩:=e
  obtain ⟨k1,k2⟩:=qeh e3
  generalize (q25 _).1=s' at k1 k2
  have hl2:=congrArg List.length k2
  rw [List.length_take,hlen] at hl2
  have hpre:PreB (q2t s) (q2t s'):=by
   refine ⟨by omega,?_⟩
   rw [← k2,List.take_take,Nat.min_eq_left (by omega),htk]
  have:=qzh hs k1 hpre
  subst this
  omega
theorem qyr {b:List UInt8} {s:Spec} {l:List Int} (h:qwk b=some (s,l)):q1c s=true∧l.length≤16∧b=q2t s++(UInt8.ofNat l.length :: q3b l):=by
 obtain ⟨n,_,h2,h3,h4⟩:=qim 17 0 h
 simp only [qcf,Bool.and_eq_true,decide_eq_true_eq] at h3
 obtain ⟨⟨e1,e2⟩,e3⟩:=h3
 obtain ⟨k1,k2⟩:=qeh e3
 unfold qxn at h4
 cases h4
 refine ⟨k1,by rw [q71];omega,?_⟩
 rw [q71,← k2,qgu n _ Y16]
 have hx:b.length-4 * n-1<b.length:=by omega
 have hg:b[b.length-4 * n-1]?=some b[b.length-4 * n-1]:=List.getElem?_eq_getElem hx
 have hv:UInt8.ofNat n=b[b.length-4 * n-1]:=by
  rw [List.getD_eq_getElem?_getD,hg,Option.getD_some] at e2
  apply UInt8.toNat.inj
  rw [UInt8.toNat_ofNat',e2];omega
 rw [hv]
 conv=>lhs;rw [← List.take_append_drop (b.length-4 * n-1) b]
 congr 1
 rw [List.drop_eq_getElem_cons hx]
 congr 2
 omega
def qov (o:OOp):OOp×Int:=if q3q o then (o,0) else (op0,3)
def q22 (b:List UInt8):OOp×Int :=
 if b.length=0 then (op0,3)
 else if (b.getD 0 0).toNat=1 then (match qwk (b.drop 1) with
  | none=>(op0,3)
  | some x=>qov ⟨1,x.1,x.2,0,0,0,[]⟩)
 else if (b.getD 0 0).toNat=2∨(b.getD 0 0).toNat=5 then (if b.length≠9 then (op0,3) else qov ⟨((b.getD 0 0).toNat:Int),q2e,[],(q4x ((b.drop 1).take 4):Int),(q4x (b.drop 5):Int),0,[]⟩)
 else if (b.getD 0 0).toNat=3 then (if b.length≠9 then (op0,3) else qov ⟨3,q2e,[],0,0,IntKind.i64.wrap (q4x (b.drop 1):Int),[]⟩)
 else if (b.getD 0 0).toNat=4 then (if b.length<9∨(q26 (b.drop 9)).2≠0 then (op0,3) else qov ⟨4,q2e,[],0,0,IntKind.i64.wrap (q4x ((b.drop 1).take 8):Int),(q26 (b.drop 9)).1⟩)
 else (op0,3)
theorem q11e (o:OOp):(q3q o=true∧qov o=(o,0))∨qov o=(op0,3):=by
 unfold qov
 cases h:q3q o with
 | true=>exact .inl ⟨rfl,rfl⟩
 | false=>exact .inr rfl
theorem qlf (b:List UInt8):(q22 b).2=0∨q22 b=(op0,3):=by
 unfold q22
 repeat' split
 all_goals first | exact .inr rfl | (rcases q11e _ with ⟨_,h⟩ | h<;>rw [h]<;>first | exact .inl rfl | exact .inr rfl)
theorem qcg {o:OOp} (h:q3q o=true):q22 (q38 o)=(q41 o,0):=by
 have hch:∀ q:OOp,q3q q=true→qov q=(q,0):=fun q hq=>by rw [qov,if_pos hq]
 have hm:=h
 unfold q3q at hm
 unfold q22 q38 q41
 by_cases k1:o.kind=1
 ·rw [if_pos k1] at hm
  simp only [Bool.and_eq_true,decide_eq_true_eq,List.all_eq_true] at hm
  simp only [k1,if_true]
  rw [if_neg (by simp),List.getD_cons_zero,show (UInt8.ofNat (1:Int).toNat).toNat=1 from rfl,if_pos rfl,List.drop_succ_cons,List.drop_zero,qx1 hm.1.1 hm.1.2 hm.2]
  simp only
  exact hch _ (by unfold q3q;simp only [if_true];rw [hm.1.1,decide_eq_true hm.1.2,List.all_eq_true.2 hm.2];rfl)
 ·rw [if_neg k1] at hm
  by_cases k2:o.kind=2∨o.kind=5
  ·rw [if_pos k2,Bool.and_eq_true] at hm
   have hid:=hm.1
   have hwh:=hm.2
   simp only [q44,Bool.and_eq_true,decide_eq_true_eq] at hid hwh
   simp only [if_neg k1,if_pos k2]
   have hkk:(UInt8.ofNat o.kind.toNat).toNat=o.kind.toNat:=by rw [UInt8.toNat_ofNat'];rcases k2 with e | e<;>rw [e]<;>rfl
   have hki:((o.kind.toNat:Nat):Int)=o.kind:=by rcases k2 with e | e<;>rw [e]<;>rfl
   have hkn:o.kind.toNat≠1:=by omega
   have hk25:o.kind.toNat=2∨o.kind.toNat=5:=by omega
   have hlen:(UInt8.ofNat o.kind.toNat :: (big 4 o.id.toNat++big 4 o.what.toNat)).length=9:=by simp [q27]
   rw [List.getD_cons_zero,hkk,if_neg (by rw [hlen];decide),if_neg hkn,if_pos hk25,if_neg (by rw [hlen];decide),List.drop_succ_cons,List.drop_zero]
   rw [List.take_append_of_le_length Yy,List.take_of_length_le Yy,q79 4 _ (by omega)]
   rw [show (UInt8.ofNat o.kind.toNat :: (big 4 o.id.toNat++big 4 o.what.toNat)).drop 5=big 4 o.what.toNat by
    rw [List.drop_succ_cons,List.drop_append_of_le_length Yy,List.drop_of_length_le Yy,List.nil_append]]
   rw [q79 4 _ (by omega),Int.toNat_of_nonneg hid.1,Int.toNat_of_nonneg hwh.1,hki]
   exact hch _ (by unfold q3q;simp only;rw [if_neg k1,if_pos k2];rw [Bool.and_eq_true];exact hm)
  ·rw [if_neg k2] at hm
   by_cases k3:o.kind=3
   ·rw [if_pos k3] at hm
    have ht:=tm_iff2.1 hm
    simp only [if_neg k1,if_neg k2,if_pos k3]
    have hlen:(UInt8.ofNat o.kind.toNat :: big 8 o.at_.toNat).length=9:=by simp [q27]
    rw [List.getD_cons_zero,k3,show (UInt8.ofNat (3:Int).toNat).toNat=3 from rfl,if_neg (by simp),if_neg (by decide),if_neg (by decide),if_pos rfl,if_neg (by simp [q27]),List.drop_succ_cons,List.drop_zero,q79 8 _ (by omega),Int.toNat_of_nonneg ht.1]
    rw [show IntKind.i64.wrap o.at_=o.at_ by rw [IntKind.wrap_i64];omega]
    exact hch _ (by unfold q3q;simp only;rw [if_neg (by decide),if_neg (by decide),if_pos (by trivial)];exact hm)
   ·rw [if_neg k3] at hm
    by_cases k4:o.kind=4
    ·rw [if_pos k4,Bool.and_eq_true] at hm
     have ht:=tm_iff2.1 hm.1
     simp only [if_neg k1,if_neg k2,if_neg k3]
     rw [List.getD_cons_zero,k4,show (UInt8.ofNat (4:Int).toNat).toNat=4 from rfl,if_neg (by simp),if_neg (by decide),if_neg (by decide),if_neg (by decide),if_pos rfl]
     have hd9:(UInt8.ofNat (4:Int).toNat :: (big 8 o.at_.toNat++q9k o.set)).drop 9=q9k o.set:=by
      rw [List.drop_succ_cons,List.drop_append_of_le_length Yy,List.drop_of_length_le Yy,List.nil_append]
     rw [hd9,qmf hm.2,if_neg (by simp [q27]),List.drop_succ_cons,List.drop_zero]
     rw [List.take_append_of_le_length Yy,List.take_of_length_le Yy,q79 8 _ (by omega),Int.toNat_of_nonneg ht.1]
     rw [show IntKind.i64.wrap o.at_=o.at_ by rw [IntKind.wrap_i64];omega]
     exact hch _ (by unfold q3q;simp only;rw [if_neg (by decide),if_neg (by decide),if_neg (by decide),if_pos (by trivial),hm.1,hm.2];rfl)
    ·rw [if_neg k4] at hm;cases hm
theorem qdg {q o:OOp} (h:qov q=(o,0)):q3q o=true∧q=o:=by
 unfold qov at h
 split at h
 ·rename_i hq
  have:=congrArg Prod.fst h
  simp only at this
  subst this
  exact ⟨hq,rfl⟩
 ·simp at h
theorem qi0 {b:List UInt8} {k:Nat} (hl:b.length≠0) (h:(b.getD 0 0).toNat=k):b=UInt8.ofNat k :: b.drop 1:=by
 cases b with
 | nil=>exact absurd rfl hl
 | cons c r =>
  simp only [List.getD_cons_zero] at h
  rw [← h,List.drop_succ_cons,List.drop_zero]
  congr 1
  apply UInt8.toNat.inj
  rw [UInt8.toNat_ofNat']
  have:=c.toNat_lt
  omega
theorem q6y {b:List UInt8} {o:OOp} (h:q22 b=(o,0)):q3q o=true∧q38 o=b∧q41 o=o:=by
 have hne:(op0,(3:Int))≠(o,0):=fun e=>by simp at e
 unfold q22 at h
 by_cases hl:b.length=0
 ·rw [if_pos hl] at h;exact absurd h hne
 rw [if_neg hl] at h
 by_cases c1:(b.getD 0 0).toNat=1
 ·rw [if_pos c1] at h
  have hb:=qi0 hl c1
  cases hr:qwk (b.drop 1) with
  | none=>rw [hr] at h;exact absurd h hne
  | some x =>
   rw [hr] at h
   obtain ⟨hm,he⟩:=qdg h
   obtain ⟨s,l⟩:=x
   obtain ⟨_,_,hx⟩:=qyr hr
   subst he
   refine ⟨hm,?_,rfl⟩
   rw [hb,hx];rfl
 rw [if_neg c1] at h
 by_cases c2:(b.getD 0 0).toNat=2∨(b.getD 0 0).toNat=5
 ·rw [if_pos c2] at h
  by_cases hl9:b.length=9
  ·rw [if_neg (fun e=>e hl9)] at h
   obtain ⟨hm,he⟩:=qdg h
   subst he
   have hb:=qi0 hl rfl
   generalize hk:(b.getD 0 0).toNat=k at *
   have e4:big 4 (q4x ((b.drop 1).take 4))=(b.drop 1).take 4:=q74 4 _ Yq
   have e5:big 4 (q4x (b.drop 5))=b.drop 5:=q74 4 _ Y16
   refine ⟨hm,?_,?_⟩
   ·unfold q38
    simp only [Int.toNat_natCast]
    rw [if_neg (by omega),if_pos (by omega),e4,e5]
    rw [show b.drop 5=(b.drop 1).drop 4 by rw [List.drop_drop],List.take_append_drop]
    exact hb.symm
   ·unfold q41
    simp only
    rw [if_neg (by omega),if_pos (by omega)]
  ·rw [if_pos hl9] at h;exact absurd h hne
 rw [if_neg c2] at h
 by_cases c3:(b.getD 0 0).toNat=3
 ·rw [if_pos c3] at h
  by_cases hl9:b.length=9
  ·rw [if_neg (fun e=>e hl9)] at h
   obtain ⟨hm,he⟩:=qdg h
   subst he
   have hb:=qi0 hl c3
   have hm2:=hm
   unfold q3q at hm2
   simp only at hm2
   rw [if_neg (by decide),if_neg (by decide),if_pos (by trivial)] at hm2
   have ht:=(tm_iff2.1 hm2).1
   have hlt:=q96 8 (b.drop 1) Y16
   have hw:IntKind.i64.wrap (q4x (b.drop 1):Int)=(q4x (b.drop 1):Int):=by
    rw [IntKind.wrap_i64] at ht ⊢;omega
   refine ⟨hm,?_,rfl⟩
   unfold q38
   simp only
   rw [if_neg (by decide),if_neg (by decide),if_pos (by trivial),hw,Int.toNat_natCast,q74 8 _ Y16]
   exact hb.symm
  ·rw [if_pos hl9] at h;exact absurd h hne
 rw [if_neg c3] at h
 by_cases c4:(b.getD 0 0).toNat=4
 ·rw [if_pos c4] at h
  by_cases hg:b.length<9∨(q26 (b.drop 9)).2≠0
  ·rw [if_pos hg] at h;exact absurd h hne
  ·rw [if_neg hg] at h
   obtain ⟨hm,he⟩:=qdg h
   subst he
   have hb:=qi0 hl c4
   have hz:(q26 (b.drop 9)).2=0:=Classical.byContradiction fun e=>hg (.inr e)
   have hlen:¬ b.length<9:=fun e=>hg (.inl e)
   obtain ⟨_,hs⟩:=qgx hz
   have hm2:=hm
   unfold q3q at hm2
   simp only at hm2
   rw [if_neg (by decide),if_neg (by decide),if_neg (by decide),if_pos (by trivial),Bool.and_eq_true] at hm2
   have ht:=(tm_iff2.1 hm2.1).1
   have hlt:=q96 8 ((b.drop 1).take 8) Yq
   have hw:IntKind.i64.wrap (q4x ((b.drop 1).take 8):Int)=(q4x ((b.drop 1).take 8):Int):=by
    rw [IntKind.wrap_i64] at ht ⊢;omega
   refine ⟨hm,?_,rfl⟩
   unfold q38
   simp only
   rw [if_neg (by decide),if_neg (by decide),if_neg (by decide),hw,Int.toNat_natCast,q74 8 _ Yq,← hs]
   rw [show b.drop 9=(b.drop 1).drop 8 by rw [List.drop_drop],List.take_append_drop]
   exact hb.symm
 ·rw [if_neg c4] at h;exact absurd h hne
theorem q32 {g:List Thing} (h:q2g g=true):1≤g.length∧g.length≤256:=by
 simp only [q2g,Bool.and_eq_true,decide_eq_true_eq] at h;exact ⟨h.1.1.1,h.1.1.2⟩
theorem qfe {g:List Thing} (h:q2g g=true) {j:Nat} {t:Thing} (ht:g[j]?=some t):t.up<(j:Int)∧(0≤t.up∨t.up = -1):=by
 simp only [q2g,Bool.and_eq_true,decide_eq_true_eq] at h
 have hj:j<g.length:=(List.getElem?_eq_some_iff.1 ht).1
 cases j with
 | zero=>rw [h.1.2] at ht;cases ht;exact ⟨by decide,.inr rfl⟩
 | succ i =>
  have h2:=q5b h.2 (k:=i) (by omega)
  rw [qm3,ht] at h2
  simp only [Bool.and_eq_true,decide_eq_true_eq] at h2
  exact ⟨by omega,.inl h2.1.1.1.1⟩
theorem qdn (g:List Thing) (n:Int):∀ k,(qwi g n k).length=k
 | 0=>rfl
 | k+1=>by rw [qwi,List.length_append,qdn g n k];rfl
theorem qi1 (g:List Thing) (n:Int) {j k:Nat} (hj:j<k):∀ m,k≤m→(qwi g n m).getD j false=(qwi g n k).getD j false
 | 0,h=>by omega
 | m+1,h=>by
  rcases Nat.lt_or_eq_of_le h with h1 | h1
  ·rw [qwi,List.getD_eq_getElem?_getD,List.getElem?_append_left (by rw [qdn];omega),← List.getD_eq_getElem?_getD]
   exact qi1 g n hj m (by omega)
  ·rw [h1]
def uU (g:List Thing) (n:Int) (j:Nat):Bool:=(qwi g n g.length).getD j false
theorem q14h {g:List Thing} {n:Int} {j:Nat} {t:Thing} (ht:g[j]?=some t) (hu:t.up<(j:Int)):uU g n j=(decide ((j:Int)=n)||(decide (0≤t.up)&&uU g n t.up.toNat)):=by
 have hj:j<g.length:=(List.getElem?_eq_some_iff.1 ht).1
 have e:qmr g j=t.up:=by rw [qmr,ht]
 rw [uU,qi1 g n (Nat.lt_succ_self j) g.length (by omega),qwi,List.getD_eq_getElem?_getD,List.getElem?_append_right (by rw [qdn];exact Nat.le_refl _),qdn,Nat.sub_self,e]
 simp only [List.getElem?_cons_zero,Option.getD_some]
 by_cases h0:0≤t.up
 ·rw [uU,qi1 g n (k:=j) (by omega) g.length (by omega)]
 ·rw [decide_eq_false h0,Bool.false_and,Bool.false_and]
def uAt (g:List Thing) (n:Int) (i j:Nat):Bool:=if j<i then uU g n j else decide ((j:Int)=n)
def qmt (g:List Thing) (n:Int) (i:Nat):List (List AV):=(List.range g.length).map fun j=>[AV.bool (uAt g n i j)]
theorem qnu (g:List Thing) (n:Int) (i:Nat):(qmt g n i).length=g.length:=by simp [qmt]
theorem q7r {g:List Thing} {n:Int} {i j:Nat} (h:j<g.length):(qmt g n i)[j]?=some [AV.bool (uAt g n i j)]:=by
 simp [qmt,h]
theorem qwt (g:List Thing) (n:Int) (i:Nat):(qmt g n i).set i [AV.bool (uU g n i)]=qmt g n (i+1):=by
 apply List.ext_getElem?
 intro j
 rw [List.getElem?_set]
 by_cases hj:j<g.length
 ·rw [q7r hj]
  by_cases e:i=j
  ·subst e;rw [if_pos rfl,if_pos (by rw [qnu];exact hj),q7r hj,uAt,if_pos (by omega)]
  ·rw [if_neg e,q7r hj]
   have:(j<i+1)↔(j<i):=by omega
   simp only [uAt,this]
 ·rw [List.getElem?_eq_none Y1h,List.getElem?_eq_none Y1h]
  split
  ·rw [if_neg Y1h]
  ·rfl
theorem qt0 {g:List Thing} {m:Nat} (h:m<g.length):(List.replicate g.length [AV.bool false]).set m [AV.bool true]=qmt g m 0:=by
 apply List.ext_getElem?
 intro j
 rw [List.getElem?_set]
 by_cases hj:j<g.length
 ·rw [q7r hj]
  by_cases e:m=j
  ·subst e;simp [uAt,hj]
  ·rw [if_neg e,List.getElem?_replicate,if_pos hj]
   have:¬ ((j:Int)=(m:Int)):=by omega
   simp [uAt,this]
 ·rw [List.getElem?_eq_none (l:=qmt g m 0) Y1h,List.getElem?_replicate,if_neg hj]
  split
  ·rw [if_neg Y1x]
  ·rfl
theorem qz9 (k:Nat) (g:List Thing) (n:Int) (i:Nat):∀ r∈qmt g n i,AV.bels k r=true:=by
 intro r hr
 simp only [qmt,List.mem_map,List.mem_range] at hr
 obtain ⟨j,_,rfl⟩:=hr
 rfl
theorem qr4 {g:List Thing} {n:Int} (h:q89 g n=true):q68 g n=idx (uU g n) g.length:=by rw [q68,if_pos h];rfl
theorem q3u (g:List Thing) (h:List Int):∀ k,(q4t g h k).length=k
 | 0=>rfl
 | k+1=>by rw [q4t,List.length_append,q3u g h k];rfl
theorem qcc (g:List Thing) (h:List Int) {j k:Nat} (hj:j<k):∀ m,k≤m→(q4t g h m).getD j 0=(q4t g h k).getD j 0
 | 0,e=>by omega
 | m+1,e=>by
  rcases Nat.lt_or_eq_of_le e with h1 | h1
  ·rw [q4t,List.getD_eq_getElem?_getD,List.getElem?_append_left (by rw [q3u];omega),← List.getD_eq_getElem?_getD]
   exact qcc g h hj m (by omega)
  ·rw [h1]
def wW (g:List Thing) (h:List Int) (j:Nat):Int:=(q4t g h g.length).getD j 0
theorem q14a {g:List Thing} {h:List Int} {j:Nat} {t:Thing} (ht:g[j]?=some t) (hu:t.up<(j:Int)):wW g h j=if 0≤t.up then max (h.getD j 0) (wW g h t.up.toNat) else h.getD j 0:=by
 have hj:j<g.length:=(List.getElem?_eq_some_iff.1 ht).1
 have e:qmr g j=t.up:=by rw [qmr,ht]
 rw [wW,qcc g h (Nat.lt_succ_self j) g.length (by omega),q4t,List.getD_eq_getElem?_getD,List.getElem?_append_right (by rw [q3u];exact Nat.le_refl _),q3u,Nat.sub_self,e]
 simp only [List.getElem?_cons_zero,Option.getD_some]
 by_cases h0:0≤t.up
 ·rw [if_pos h0,if_pos h0,wW,qcc g h (k:=j) (by omega) g.length (by omega)]
 ·rw [if_neg h0,if_neg h0]
def wAt (g:List Thing) (h:List Int) (i j:Nat):Int:=if j<i then wW g h j else h.getD j 0
def qma (g:List Thing) (h:List Int) (i:Nat):List Int:=(List.range g.length).map (wAt g h i)
theorem qoa (g:List Thing) (h:List Int) (i:Nat):(qma g h i).length=g.length:=by simp [qma]
theorem q85 {g:List Thing} {h:List Int} {i j:Nat} (hj:j<g.length):(qma g h i)[j]?=some (wAt g h i j):=by simp [qma,hj]
theorem qxy (g:List Thing) (h:List Int) (i:Nat):(qma g h i).set i (wW g h i)=qma g h (i+1):=by
 apply List.ext_getElem?
 intro j
 rw [List.getElem?_set]
 by_cases hj:j<g.length
 ·rw [q85 hj]
  by_cases e:i=j
  ·subst e;rw [if_pos rfl,if_pos (by rw [qoa];exact hj),q85 hj,wAt,if_pos (by omega)]
  ·rw [if_neg e,q85 hj]
   have:(j<i+1)↔(j<i):=by omega
   simp only [wAt,this]
 ·rw [List.getElem?_eq_none Y1i,List.getElem?_eq_none Y1i]
  split
  ·rw [if_neg Y1i]
  ·rfl
theorem qt9 {g:List Thing} {h:List Int} (e:h.length=g.length):qma g h 0=h:=by
 apply List.ext_getElem?
 intro j
 by_cases hj:j<g.length
 ·rw [q85 hj,wAt,if_neg (by omega),List.getD_eq_getElem?_getD,List.getElem?_eq_getElem (by omega)];rfl
 ·rw [List.getElem?_eq_none Y1i,List.getElem?_eq_none (by omega)]
theorem qsb {g:List Thing} {h:List Int} {i:Nat} (e:wW g h i=h.getD i 0):qma g h (i+1)=qma g h i:=by
 refine List.map_congr_left fun j _=>?_
 simp only [wAt]
 by_cases h1:j<i
 ·rw [if_pos h1,if_pos (by omega)]
 ·by_cases h2:j=i
  ·subst h2;rw [if_pos (by omega),if_neg (by omega),e]
  ·rw [if_neg h1,if_neg (by omega)]
theorem qzb (g:List Thing) (h:List Int):qma g h g.length=q4t g h g.length:=by
 apply List.ext_getElem?
 intro j
 by_cases hj:j<g.length
 ·rw [q85 hj,wAt,if_pos hj,wW,List.getD_eq_getElem?_getD,List.getElem?_eq_getElem (by rw [q3u];omega)];rfl
 ·rw [List.getElem?_eq_none Y1i,List.getElem?_eq_none (by rw [q3u];omega)]
theorem qw9 {g:List Thing} {h:List Int} {k:Nat} {x:Int} (hx:(q4t g h g.length)[k]?=some x):x=wW g h k:=by
 rw [wW,List.getD_eq_getElem?_getD,hx];rfl
theorem q6k {g:List Thing} {h:List Int} (e:q51 g h=true):q2g g=true∧h.length=g.length∧(h.any fun n=>decide (n<0)||decide (2<n))=false:=by
 simp only [q51,Bool.and_eq_true,decide_eq_true_eq,Bool.not_eq_true'] at e;exact ⟨e.1.1,e.1.2,e.2⟩
section
variable {P : Program} {N : Nat} {B : Base} {Q : q6g} {env : Env} {H H0 L : qf} {ty : TypeId} {ops : Array Oper} {rest : List Oper}
end
def qz1 (B:Base) {G:Type} (I:G→Prop) (E:G→Env) (M:G→qf) (Q:q6g):q6g
 | .nrm,e,H=>∃ g,I g∧Sub (E g) e∧Fit B (E g) H (M g)
 | x,e,H=>Q x e H
section
variable {P : Program} {N : Nat} {B : Base} {Q : q6g} {env : Env} {H : qf}
theorem q7l {x:Code} {G:Type} (I:G→Prop) (E:G→Env) (M:G→qf) (h:AWp P N B x (qz1 B I E M Q) env H) (k:∀ g,I g→Q .nrm (E g) (M g)):AWp P N B x Q env H:=by
 intro S a w hc hb
 refine wp_mono (h S a w hc hb) ?_
 rintro e a' w' ⟨ax,env',H',S',hj,r,c',k'⟩
 cases ax with
 | nrm =>
  cases r
  obtain ⟨g,hi,hs,hf⟩:=hj
  obtain ⟨S2,c2,k2⟩:=(c'.sub hs).fit k' hf
  exact ⟨.nrm,E g,M g,S2,k g hi,.nrm,c2,k2⟩
 | brk i=>exact ⟨_,env',H',S',hj,r,c',k'⟩
 | ret=>exact ⟨_,env',H',S',hj,r,c',k'⟩
 | pan v=>exact ⟨_,env',H',S',hj,r,c',k'⟩
theorem q1p {G:Type} {I:G→Prop} {E:G→Env} {M:G→qf} (g:G) (hi:I g) (h1:Sub (E g) env) (h2:Fit B (E g) H (M g)):qz1 B I E M Q .nrm env H:=⟨g,hi,h1,h2⟩
theorem qec {G:Type} {I:G→Prop} {E:G→Env} {M:G→qf} (h:Q .ret env H):qz1 B I E M Q .ret env H:=h
theorem qen {G:Type} {I:G→Prop} {E:G→Env} {M:G→qf} {i:Nat} (h:Q (.brk i) env H):qz1 B I E M Q (.brk i) env H:=h
end
section
variable {P : Program} {N : Nat} {env : Env} {H : qf} {ty : TypeId}
theorem qbu {t e:TypeId} {x:Operand} {lo:Option Operand} {xs ys:List (List AV)} {l sz:Nat} {agg:Bool} [hu:SlI P t e] [TyI P e agg sz] (hx:aev env x = .pl xs) (hl:Bd env lo 0 l) (h1:l≤xs.length) (hsz:∀ r∈xs,r.length=sz) (hy:xs.drop l=ys) :
  V1 P N (.slice t x lo Option.none Option.none) ty env H (.pl ys):=by
 have:=qb1 (P:=P) (N:=N) (env:=env) (H:=H) (ty:=ty) (t:=t) (e:=e) (agg:=agg) (h:=xs.length) hx hl .none h1 (Nat.le_refl _) hsz
 rwa [List.take_of_length_le (by simp),hy] at this
theorem qbk {t e:TypeId} {x:Operand} {hi:Option Operand} {xs ys:List (List AV)} {h sz:Nat} {agg:Bool} [hu:SlI P t e] [TyI P e agg sz] (hx:aev env x = .pl xs) (hh:Bd env hi xs.length h) (h1:h≤xs.length) (hsz:∀ r∈xs,r.length=sz) (hy:xs.take h=ys) :
  V1 P N (.slice t x Option.none hi Option.none) ty env H (.pl ys):=by
 have:=qb1 (P:=P) (N:=N) (env:=env) (H:=H) (ty:=ty) (t:=t) (e:=e) (agg:=agg) (l:=0) (h:=h) hx .none hh (Nat.zero_le _) h1 hsz
 rwa [List.drop_zero,Nat.sub_zero,hy] at this
end
abbrev eN (x:Int):List AV:=[.int .i64 x]
abbrev qj (h:Held):List AV:=[.int .i64 h.id,.pl (h.things.map eN),.int .i64 h.frm,.int .i64 h.tto]
theorem qk0 (l:List Held):∀ r∈l.map qj,r.length=4:=q5a (e:=qj) (n:=4) (fun _=>rfl) l
theorem q1f (n:Nat) (l:List Held):∀ r∈l.map qj,AV.bels n r=true:=q5z (e:=qj) (fun _=>rfl) l
theorem qsm {l:List Held} {i:Nat} {h:Held} (e:l[i]?=some h):qcl l i=(hmay h&&!(decide (0<i)&&decide (h.id≤qay l (i-1)))&&!((l.take i).any fun x=>q5y x h)):=by rw [qcl,e]
theorem qhb {l:List Held} {i:Nat} {h:Held} (e:l[i]?=some h):qay l i=h.id:=by rw [qay,e]
theorem qch {l:List Held} {i:Nat} {h:Held} (e:l[i]?=some h):qg7 l i=h:=by rw [qg7,List.getD_eq_getElem?_getD,e];rfl
def HW (l:List Held):Prop:=l.length≤1000000∧∀ h∈l,h.things.length≤1000000
theorem HW.take {l:List Held} (h:HW l) (k:Nat):HW (l.take k):=⟨Nat.le_trans Y17 h.1,fun x hx=>h.2 x (List.mem_of_mem_take hx)⟩
structure LH where
 lo:Nat
 hi:Nat
theorem qr2 {l:List Held} {k:Nat} {h:Held} (e:l[k]?=some h) (frm tto:Int):qb3 (l.take (k+1)) frm tto=if qj6 h.frm h.tto frm tto then qff (qb3 (l.take k) frm tto) h.things else qb3 (l.take k) frm tto:=by
 rw [qb3,qb3,List.take_add_one,e,List.foldl_append];rfl
theorem qn0 (op:Bool→Bool→Bool) (a b:List Int):(q8b op a b).length≤1000000:=Nat.le_trans (qap op a b) (by decide)
theorem qp2:∀ (l:List Held) (frm tto:Int),(qb3 l frm tto).length≤256:=by
 intro l frm tto
 suffices h:∀ (l:List Held) (out:List Int),out.length≤256→(l.foldl (fun out h=>if qj6 h.frm h.tto frm tto then qff out h.things else out) out).length≤256 from h l [] (by decide)
 intro l
 induction l with
 | nil=>intro out h;exact h
 | cons x l ih =>
  intro out h
  rw [List.foldl_cons]
  refine ih _ ?_
  split
  ·exact qap _ _ _
  ·exact h
theorem q8r {l:List Held} (h:q2a l=true):l.Pairwise (fun a b=>a.id<b.id):=(held_iff.1 h).2.2.1
theorem qj9 {j:Job} (h:q28 j=true):j.needs.length≤16:=by
 simp only [q28,qah,Bool.and_eq_true,decide_eq_true_eq] at h;exact h.1.1.2.1
theorem qq9 {l:List Job} {i k:Nat} (h:k<i):q37 (l.take i) k=q37 l k:=by
 rw [q37,q37,List.getD_eq_getElem?_getD,List.getD_eq_getElem?_getD,List.getElem?_take,if_pos h]
theorem qw0 {l:List Job} {i k:Nat} (h:k<i):qn5 (l.take i) k=qn5 l k:=by
 unfold qn5 qe6
 rw [List.getElem?_take,if_pos h,List.take_take,Nat.min_eq_left (Nat.le_of_lt h)]
 cases l[k]? with
 | none=>rfl
 | some j =>
  simp only
  rw [qq9 (by omega)]
theorem qjo {l:List Job} {i:Nat} (h64:l.length≤64) (h:∀ k,k<i→qn5 l k=true):q2v (l.take i)=true:=by
 rw [q2v,Bool.and_eq_true,decide_eq_true_eq]
 refine ⟨by rw [List.length_take];omega,q4b fun k hk=>?_⟩
 rw [List.length_take] at hk
 rw [qw0 (by omega)]
 exact h k (by omega)
theorem qda {l:List Job} {i:Nat} (h64:l.length≤64) (h:∀ k,k<i→qn5 l k=true):(l.take i).Pairwise (fun a b=>a.id<b.id):=(jobs_iff.1 (qjo h64 h)).2.2.1
theorem qx9 {l:List Job} {i:Nat} {j:Job} (e:l[i]?=some j):qn5 l i=(q28 j&&!(decide (0<i)&&(decide (j.id≤qe6 l (i-1))||decide (j.came<(q37 l (i-1)).came)))&&j.needs.all fun n=>q2u (l.take i) n):=by rw [qn5,e]
theorem qle {l:List Job} {i:Nat} {j:Job} (e:l[i]?=some j):qe6 l i=j.id:=by rw [qe6,q1z e]
theorem q3f {l:List Job} (h:q2v l=true):l.Pairwise (fun a b=>a.id<b.id):=(jobs_iff.1 h).2.2.1
def qwo (l:List Job):Nat:=(l.filter fun j=>decide (j.state=2)).length
theorem qul {l:List Job} {k:Nat} {j:Job} (e:l[k]?=some j):qwo (l.take (k+1))=qwo (l.take k)+if decide (j.state=2) then 1 else 0:=by
 rw [qwo,qwo,List.take_add_one,e,List.filter_append,List.length_append]
 simp only [Option.toList_some,List.filter_cons,List.filter_nil]
 cases h:decide (j.state=2)<;>simp
theorem q11v (l:List Job):qwo l≤l.length:=List.length_filter_le _ _
theorem q7a {i:Inst} {k:Nat} {j:Job} (e:i.jobs[k]?=some j):qcz i k=(decide (j.came≤i.now)&&decide (j.frm≤i.now)&&(decide (j.state≠2) ||
 ((q2d i.table j.id).2&&decide ((q2d i.table j.id).1.frm=j.frm)&&decide ((q2d i.table j.id).1.tto=q21 j.spec j.frm) &&
  decide (i.now<(q2d i.table j.id).1.tto)&&q2r i.graph (q2d i.table j.id).1.things))):=by rw [qcz,q1z e]
theorem qm6 {l:List Held} (h:HW l) (id:Int):(q2d l id).1.things.length≤1000000:=by
 rw [q2d]
 split
 ·rename_i hh
  simp only [Bool.and_eq_true,q2w,decide_eq_true_eq] at hh
  obtain ⟨x,hx,hxl⟩:=qr hh.2.1
  simp only [qch hx]
  exact h.2 x hxl
 ·decide
structure IW (i : Inst) : Prop where
 graph:i.graph.length≤1000000
 health:i.health.length≤1000000
 lease:i.lease.length≤1000000
 jobs:i.jobs.length≤1000000
 table:HW i.table
theorem ql2 (g:List Thing) (h:List Int) (m:Int):(q2p g h m).length≤256:=by
 rw [q2p]
 split
 ·rename_i hh
  exact Nat.le_trans (qa7 _ _) (q32 (q6k hh).1).2
 ·decide
theorem qey {i:Inst} (h:q3c i=true):q2v i.jobs=true:=by
 simp only [q3c,Bool.and_eq_true] at h;exact h.1.1.2
theorem qd2 {i:Inst} (h:q3c i=true):q2a i.table=true:=by
 simp only [q3c,Bool.and_eq_true] at h;exact h.1.2
theorem qup:∀ (l:List Held) (a b:Int),sok (qb3 l a b)=true:=by
 intro l a b
 suffices h:∀ (l:List Held) (out:List Int),sok out=true→sok (l.foldl (fun out h=>if qj6 h.frm h.tto a b then qff out h.things else out) out)=true from h l [] rfl
 intro l
 induction l with
 | nil=>intro out h;exact h
 | cons x l ih =>
  intro out h
  rw [List.foldl_cons]
  refine ih _ ?_
  split
  ·exact q8p _ _ _
  ·exact h
def cn (p:Nat→Bool):Nat:=(List.range 256).countP p
theorem q101 {α:Type} [DecidableEq α]:∀ (R T:List α),R.Nodup→(∀ x∈R,x∈T)→T.length≤R.length→∀ y∈T,y∈R
 | [],T,_,_,hl,y,hy=>by
  cases T with
  | nil=>cases hy
  | cons a t=>simp at hl
 | x :: R,T,hnd,hs,hl,y,hy=>by
  have hx:=hs x List.mem_cons_self
  rw [List.nodup_cons] at hnd
  by_cases e:y=x
  ·rw [e];exact List.mem_cons_self
  ·refine List.mem_cons_of_mem _ (q101 R (T.erase x) hnd.2 (fun z hz=>?_) ?_ y ((List.mem_erase_of_ne e).2 hy))
   ·have hzx:z≠x:=fun h=>hnd.1 (h▸hz)
    exact (List.mem_erase_of_ne hzx).2 (hs z (List.mem_cons_of_mem _ hz))
   ·have:=List.length_erase_of_mem hx
    simp only [List.length_cons] at hl
    omega
theorem qs1 {i:Inst} (h:q3c i=true):∀ x∈i.table,∃ j∈i.jobs,j.state=2∧j.id=x.id∧x.frm=j.frm∧x.frm≤i.now∧i.now<x.tto∧x.tto=q21 j.spec j.frm∧q2r i.graph x.things=true:=by
 have ht:=qd2 h
 have hj:=qey h
 have htold:q9l i=true:=by simp only [q3c,Bool.and_eq_true] at h;exact h.2
 rw [q9l,Bool.and_eq_true,decide_eq_true_eq] at htold
 obtain ⟨hall,hlen⟩:=htold
 have hrun:∀ j∈i.jobs,j.state=2→∃ x∈i.table,x.id=j.id∧x.frm=j.frm∧x.frm≤i.now∧i.now<x.tto∧x.tto=q21 j.spec j.frm∧q2r i.graph x.things=true:=by
  intro j hjm hst
  obtain ⟨k,hk⟩:=List.mem_iff_getElem?.1 hjm
  have hb:=q5b hall (List.getElem?_eq_some_iff.1 hk).1
  rw [q7a hk] at hb
  simp only [Bool.and_eq_true,Bool.or_eq_true,decide_eq_true_eq,hst,ne_eq,not_true_eq_false,false_or] at hb
  obtain ⟨⟨h1,h2⟩,⟨⟨⟨⟨h3,h4⟩,h5⟩,h6⟩,h7⟩⟩:=hb
  have hget:∃ x∈i.table,x.id=j.id:=by
   unfold q2d at h3
   split at h3
   ·rename_i hh
    rw [Bool.and_eq_true] at hh
    exact (q4h (held_iff.1 ht).2.2.1).1 hh.2
   ·cases h3
  obtain ⟨x,hx,hid⟩:=hget
  have he:=qbz ht hx
  rw [hid] at he
  rw [he] at h4 h5 h6 h7
  exact ⟨x,hx,hid,h4,by simp only at h4;omega,h6,h5,h7⟩
 intro x hx
 have hp:=(held_iff.1 ht).2.2.1
 have hpj:=q3f hj
 have hsub:=q101 ((i.jobs.filter fun j=>decide (j.state=2)).map (·.id)) (i.table.map (·.id)) ?_ ?_ ?_ x.id (List.mem_map.2 ⟨x,hx,rfl⟩)
 ·obtain ⟨j,hjm,hid⟩:=List.mem_map.1 hsub
  rw [List.mem_filter,decide_eq_true_eq] at hjm
  obtain ⟨y,hy,hyid,r⟩:=hrun j hjm.1 hjm.2
  have:y=x:=qn7 (f:=Held.id) hp hy hx (by rw [hyid,hid])
  subst this
  exact ⟨j,hjm.1,hjm.2,hid,r⟩
 ·exact (qab (f:=Job.id) (hpj.sublist (List.filter_sublist))).imp fun h=>by omega
 ·intro n hn
  obtain ⟨j,hjm,rfl⟩:=List.mem_map.1 hn
  rw [List.mem_filter,decide_eq_true_eq] at hjm
  obtain ⟨y,hy,hyid,r⟩:=hrun j hjm.1 hjm.2
  exact List.mem_map.2 ⟨y,hy,hyid⟩
 ·rw [List.length_map,List.length_map,hlen];exact Nat.le_refl _
theorem tm_iff {t:Int}:tm t=true↔0≤t∧t≤4611686018427387904:=by simp [tm]
theorem q6x (g:List Thing) (h:List Int) (m:Int):sok (q2p g h m)=true:=by
 rw [q2p]
 split
 ·rename_i hh
  exact qna _ (q32 (q6k hh).1).2
 ·rfl
structure IR (w : Inst) : Prop where
 jobs:q2v w.jobs=true
 table:q2a w.table=true
 came:∀ j∈w.jobs,j.came≤w.now∧j.frm≤w.now
 run:∀ j∈w.jobs,j.state=2→∃ h∈w.table,h.id=j.id∧h.frm=j.frm∧h.tto=q21 j.spec j.frm∧q2r w.graph h.things=true
 held:∀ h∈w.table,∃ j∈w.jobs,j.id=h.id∧j.state=2
 now:tm w.now=true
theorem IR.pj {w:Inst} (h:IR w):w.jobs.Pairwise (fun a b=>a.id<b.id):=q3f h.jobs
theorem IR.pt {w:Inst} (h:IR w):w.table.Pairwise (fun a b=>a.id<b.id):=(held_iff.1 h.table).2.2.1
theorem qa2 {w:Inst} (h:IR w) {a b:Job} (ha:a∈w.jobs) (hb:b∈w.jobs) (e:a.id=b.id):a=b:=qn7 (f:=Job.id) h.pj ha hb e
theorem qoo {w:Inst} (h:IR w) {a b:Held} (ha:a∈w.table) (hb:b∈w.table) (e:a.id=b.id):a=b:=qn7 (f:=Held.id) h.pt ha hb e
theorem IR.of {w:Inst} (h:IR w) {x:Held} (hx:x∈w.table):∃ j∈w.jobs,j.id=x.id∧j.state=2∧x.frm=j.frm∧x.tto=q21 j.spec j.frm∧q2r w.graph x.things=true:=by
 obtain ⟨j,hj,e,s⟩:=h.held x hx
 obtain ⟨y,hy,e2,r⟩:=h.run j hj s
 have:y=x:=qoo h hy hx (by rw [e2,e])
 subst this
 exact ⟨j,hj,e,s,r⟩
theorem qod {α:Type} [DecidableEq α]:∀ (R T:List α),R.Nodup→(∀ x∈R,x∈T)→R.length≤T.length
 | [],T,_,_=>Nat.zero_le _
 | x :: R,T,hnd,hs=>by
  have hx:=hs x List.mem_cons_self
  rw [List.nodup_cons] at hnd
  have:=qod R (T.erase x) hnd.2 fun z hz=>by
   have hzx:z≠x:=fun h=>hnd.1 (h▸hz)
   exact (List.mem_erase_of_ne hzx).2 (hs z (List.mem_cons_of_mem _ hz))
  have h2:=List.length_erase_of_mem hx
  have:0<T.length:=List.length_pos_of_mem hx
  simp only [List.length_cons]
  omega
def q3d (i:Inst):Bool:=q51 i.graph i.health&&q2r i.graph i.lease&&tm i.til&&tm i.now&&q7x i.policy i.depth
theorem iright_iff {i:Inst}:q3c i=true↔q3d i=true∧IR i∧∀ h∈i.table,i.now<h.tto:=by
 constructor
 ·intro h
  have hj:=qey h
  have ht:=qd2 h
  have hn:=qs1 h
  have hp:=(held_iff.1 ht).2.2.1
  refine ⟨by simp only [q3c,Bool.and_eq_true] at h;simp only [q3d,Bool.and_eq_true];exact h.1.1.1,⟨hj,ht,?_,?_,fun x hx=>?_,?_⟩,fun x hx=>?_⟩
  ·intro j hjm
   have htold:q9l i=true:=by simp only [q3c,Bool.and_eq_true] at h;exact h.2
   rw [q9l,Bool.and_eq_true] at htold
   obtain ⟨k,hk⟩:=List.mem_iff_getElem?.1 hjm
   have hb:=q5b htold.1 (List.getElem?_eq_some_iff.1 hk).1
   rw [q7a hk] at hb
   simp only [Bool.and_eq_true,decide_eq_true_eq] at hb
   exact hb.1
  ·intro j hjm hs
   have htold:q9l i=true:=by simp only [q3c,Bool.and_eq_true] at h;exact h.2
   rw [q9l,Bool.and_eq_true] at htold
   obtain ⟨k,hk⟩:=List.mem_iff_getElem?.1 hjm
   have hb:=q5b htold.1 (List.getElem?_eq_some_iff.1 hk).1
   rw [q7a hk] at hb
   simp only [Bool.and_eq_true,Bool.or_eq_true,decide_eq_true_eq,hs,ne_eq,not_true_eq_false,false_or] at hb
   obtain ⟨⟨h1,h2⟩,⟨⟨⟨⟨h3,h4⟩,h5⟩,h6⟩,h7⟩⟩:=hb
   obtain ⟨x,hx,hid⟩:=(qmk ht).1 h3
   have he:=qbz ht hx
   rw [hid] at he
   rw [he] at h4 h5 h7
   exact ⟨x,hx,hid,h4,h5,h7⟩
  ·obtain ⟨j,hjm,hs,he,_⟩:=hn x hx
   exact ⟨j,hjm,he,hs⟩
  ·simp only [q3c,Bool.and_eq_true] at h;exact h.1.1.1.1.2
  ·obtain ⟨j,hjm,hs,he,_,_,r,_⟩:=hn x hx
   exact r
 ·rintro ⟨hs,h,hlt⟩
  have hst:=hs
  simp only [q3d,Bool.and_eq_true] at hst
  have htold:q9l i=true:=by
   rw [q9l,Bool.and_eq_true,decide_eq_true_eq]
   refine ⟨q4b fun k hk=>?_,?_⟩
   ·have hj:i.jobs[k]?=some i.jobs[k]:=List.getElem?_eq_getElem hk
    have hm:i.jobs[k]∈i.jobs:=List.getElem_mem hk
    rw [q7a hj]
    have hc:=h.came _ hm
    rw [decide_eq_true hc.1,decide_eq_true hc.2,Bool.true_and,Bool.true_and]
    by_cases e:i.jobs[k].state=2
    ·obtain ⟨x,hx,h1,h2,h3,h4⟩:=h.run _ hm e
     have he:=qbz h.table hx
     rw [h1] at he
     rw [he]
     simp only [Bool.or_eq_true,Bool.and_eq_true,decide_eq_true_eq,true_and]
     exact .inr ⟨⟨⟨h2,h3⟩,hlt x hx⟩,h4⟩
    ·rw [decide_eq_true e,Bool.true_or]
   ·have ndj:((i.jobs.filter fun j=>decide (j.state=2)).map (·.id)).Nodup:=(qab (f:=Job.id) (h.pj.sublist (List.filter_sublist))).imp fun h=>by omega
    have ndt:(i.table.map (·.id)).Nodup:=(qab (f:=Held.id) h.pt).imp fun h=>by omega
    have l1:=qod _ (i.table.map (·.id)) ndj (fun n hn=>by
     obtain ⟨j,hjm,rfl⟩:=List.mem_map.1 hn
     rw [List.mem_filter,decide_eq_true_eq] at hjm
     obtain ⟨y,hy,hyid,r⟩:=h.run j hjm.1 hjm.2
     exact List.mem_map.2 ⟨y,hy,hyid⟩)
    have l2:=qod _ ((i.jobs.filter fun j=>decide (j.state=2)).map (·.id)) ndt (fun n hn=>by
     obtain ⟨x,hx,rfl⟩:=List.mem_map.1 hn
     obtain ⟨j,hjm,he,hs2⟩:=h.held x hx
     exact List.mem_map.2 ⟨j,List.mem_filter.2 ⟨hjm,by rw [decide_eq_true_eq];exact hs2⟩,he⟩)
    rw [List.length_map,List.length_map] at l1 l2
    omega
  simp only [q3c,Bool.and_eq_true]
  exact ⟨⟨⟨hst,h.jobs⟩,h.table⟩,htold⟩
theorem qjb {s w:Int} (h:q56 s w=some 2):w=3∧s=0:=by
 unfold q56 at h
 repeat' split at h
 all_goals first | omega | (injection h with h;omega) | cases h
theorem qqw {s w t:Int} (h:q56 s w=some t) (ht:t<2):s<2∧w<3:=by
 unfold q56 at h
 repeat' split at h
 all_goals first | omega | (injection h with h;omega) | cases h
theorem qvc (j:Job) (w now:Int):((jdo j w now).2≠0∧(jdo j w now).1=j)∨∃ s,qmz j w now=false∧q56 j.state w=some s∧jdo j w now=(q4j j s now,0):=by
 unfold jdo
 cases hb:qmz j w now with
 | true=>exact .inl ⟨by simp,by simp⟩
 | false =>
  cases hn:q56 j.state w with
  | none=>exact .inl ⟨by simp,by simp⟩
  | some s=>exact .inr ⟨s,rfl,rfl,by simp⟩
theorem qvo (w:Inst) (id:Int):(∃ j∈w.jobs,j.id=id)∨∀ j∈w.jobs,j.id≠id:=by
 by_cases h:∃ j∈w.jobs,j.id=id
 ·exact .inl h
 ·exact .inr fun j hj e=>h ⟨j,hj,e⟩
theorem q6b {w:Inst} (hr:q2v w.jobs=true) (id what at_:Int) :
  ((wdo w id what at_).1=w∧(wdo w id what at_).2≠0)∨∃ j∈w.jobs,j.id=id∧∃ s,qmz j what at_=false∧q56 j.state what=some s∧q2y w.jobs id what at_=(w.jobs.set (q1g w.jobs id) (q4j j s at_),0) ∧
   wdo w id what at_=({ w with jobs:=w.jobs.set (q1g w.jobs id) (q4j j s at_),table:=if q5h s then (q1o w.table id).1 else w.table },0):=by
 rcases qvo w id with ⟨j,hj,rfl⟩ | hn
 ·obtain ⟨h1,h2,h3,h4⟩:=q9c hr hj what at_
  rcases qvc j what at_ with ⟨e,e1⟩ | ⟨s,hb,hs,e⟩
  ·left
   unfold wdo
   rw [h1,if_pos e]
   exact ⟨rfl,e⟩
  ·right
   refine ⟨j,hj,rfl,s,hb,hs,by rw [h1,e],?_⟩
   have hm:q4j j s at_∈(q2y w.jobs j.id what at_).1:=(h3 _).2 (.inl (by rw [e]))
   have hg:=qhf h2 hm
   rw [show (q4j j s at_).id=j.id from rfl] at hg
   unfold wdo
   rw [hg]
   rw [h1,e]
   simp only [ne_eq,not_true_eq_false,if_false]
   rw [show (q4j j s at_).state=s from rfl]
   split<;>rfl
 ·left
  have:=qwg (w:=what) (now:=at_) hr hn
  unfold wdo
  rw [if_pos this]
  exact ⟨rfl,this⟩
theorem qhj {w:Inst} (hr:q2v w.jobs=true) {j:Job} (hj:j∈w.jobs) {what at_ s:Int} (e:q2y w.jobs j.id what at_=(w.jobs.set (q1g w.jobs j.id) (q4j j s at_),0)) (hb:qmz j what at_=false) (hs:q56 j.state what=some s) :
  q2v (w.jobs.set (q1g w.jobs j.id) (q4j j s at_))=true∧∀ y,y∈w.jobs.set (q1g w.jobs j.id) (q4j j s at_)↔y=q4j j s at_∨(y∈w.jobs∧y.id≠j.id):=by
 obtain ⟨h1,h2,h3,h4⟩:=q9c hr hj what at_
 rw [e] at h2 h3
 have:(jdo j what at_).1=q4j j s at_:=by unfold jdo;rw [hb,hs];simp
 rw [this] at h3
 exact ⟨h2,h3⟩
theorem qdl {l:List Held} (hr:q2a l=true) (id:Int):q2a (q1o l id).1=true∧∀ y,y∈(q1o l id).1↔y∈l∧y.id≠id:=by
 by_cases h:∃ x∈l,x.id=id
 ·obtain ⟨x,hx,rfl⟩:=h
  have:=qli hr hx
  exact ⟨this.1,this.2.1⟩
 ·have hn:∀ x∈l,x.id≠id:=fun x hx e=>h ⟨x,hx,e⟩
  rw [qlq hr hn]
  exact ⟨hr,fun y=>⟨fun hy=>⟨hy,hn y hy⟩,fun hy=>hy.1⟩⟩
theorem q100 {w:Inst} (h:IR w) {id what at_:Int} (h3:what≠3):IR (wdo w id what at_).1:=by
 rcases q6b h.jobs id what at_ with ⟨e,_⟩ | ⟨j,hj,rfl,s,hb,hs,e1,e⟩
 ·rw [e];exact h
 ·rw [e]
  obtain ⟨hr,hm⟩:=qhj h.jobs hj e1 hb hs
  have hs2:s≠2:=by rintro rfl;exact h3 (qjb hs).1
  obtain ⟨dr,dm⟩:=qdl h.table j.id
  have hin:=qhh (q8l ((jobs_iff.1 h.jobs).2.1 j hj)).1 hs
  refine ⟨hr,?_,?_,?_,?_,h.now⟩
  ·show q2a (if q5h s then (q1o w.table j.id).1 else w.table)=true
   split
   ·exact dr
   ·exact h.table
  ·intro y hy
   rcases (hm y).1 hy with rfl | ⟨hy,_⟩
   ·show j.came≤w.now∧(if s=2 then at_ else j.frm)≤w.now
    rw [if_neg hs2];exact h.came j hj
   ·exact h.came y hy
  ·intro y hy hst
   rcases (hm y).1 hy with rfl | ⟨hy,hne⟩
   ·exact absurd hst hs2
   ·obtain ⟨x,hx,e1,r⟩:=h.run y hy hst
    refine ⟨x,?_,e1,r⟩
    show x∈(if q5h s then (q1o w.table j.id).1 else w.table)
    split
    ·exact (dm x).2 ⟨hx,by rw [e1];exact hne⟩
    ·exact hx
  ·intro x hx
   have hx':x∈w.table∧(x.id≠j.id∨q5h s=false):=by
    have:x∈(if q5h s then (q1o w.table j.id).1 else w.table):=hx
    split at this
    ·exact ⟨((dm x).1 this).1,.inl ((dm x).1 this).2⟩
    ·exact ⟨this,.inr (by simp_all)⟩
   obtain ⟨hx,hor⟩:=hx'
   obtain ⟨y,hy,e5,e2⟩:=h.held x hx
   refine ⟨y,(hm y).2 (.inr ⟨hy,fun e3=>?_⟩),e5,e2⟩
   have:=qa2 h hy hj e3
   subst this
   rcases hor with ho | ho
   ·exact ho e5.symm
   ·have:s<2:=by simp only [q5h,Bool.and_eq_false_iff,decide_eq_false_iff_not] at ho;omega
    have:=(qqw hs this).1
    omega
structure JE (a b : Job) : Prop where
 id:b.id=a.id
 spec:b.spec=a.spec
 needs:b.needs=a.needs
 came:b.came=a.came
 over:q5h a.state=true→b=a
theorem JE.refl (a:Job):JE a a:=⟨rfl,rfl,rfl,rfl,fun _=>rfl⟩
theorem JE.trans {a b c:Job} (h:JE a b) (k:JE b c):JE a c:=⟨k.id.trans h.id,k.spec.trans h.spec,k.needs.trans h.needs,k.came.trans h.came,fun o=>by
 have:=h.over o
 subst this
 exact k.over o⟩
structure Ev (w v : Inst) : Prop where
 graph:v.graph=w.graph
 health:v.health=w.health
 lease:v.lease=w.lease
 til:v.til=w.til
 now:v.now=w.now
 policy:v.policy=w.policy
 depth:v.depth=w.depth
 len:v.jobs.length=w.jobs.length
 jobs:∀ (k:Nat) (a b:Job),w.jobs[k]?=some a→v.jobs[k]?=some b→JE a b
theorem Ev.refl (w:Inst):Ev w w:=⟨rfl,rfl,rfl,rfl,rfl,rfl,rfl,rfl,fun k a b ha hb=>by rw [ha] at hb;cases hb;exact JE.refl a⟩
theorem Ev.trans {w v u:Inst} (h:Ev w v) (k:Ev v u):Ev w u:=⟨k.graph.trans h.graph,k.health.trans h.health,k.lease.trans h.lease,k.til.trans h.til,k.now.trans h.now,k.policy.trans h.policy,k.depth.trans h.depth,k.len.trans h.len,fun i a c ha hc=>by
 have hi:=(List.getElem?_eq_some_iff.1 ha).1
 have hv:i<v.jobs.length:=by rw [h.len];exact hi
 exact (h.jobs i a _ ha (List.getElem?_eq_getElem hv)).trans (k.jobs i _ c (List.getElem?_eq_getElem hv) hc)⟩
theorem Ev.tab {w v:Inst} (h:Ev w v) (t:List Held):Ev w { v with table:=t }:=⟨h.graph,h.health,h.lease,h.til,h.now,h.policy,h.depth,h.len,h.jobs⟩
theorem qrf {s w t:Int} (h:q56 s w=some t):q5h s=false:=by
 have:=(qck h).1
 rw [q5h,decide_eq_false (by omega),Bool.false_and]
theorem qpg {w:Inst} (hr:q2v w.jobs=true) (id what at_:Int):Ev w (wdo w id what at_).1:=by
 rcases q6b hr id what at_ with ⟨e,_⟩ | ⟨j,hj,rfl,s,hb,hs,e1,e⟩
 ·rw [e];exact Ev.refl w
 ·rw [e]
  refine ⟨rfl,rfl,rfl,rfl,rfl,rfl,rfl,by simp,fun k a b ha hb=>?_⟩
  have hp:=qae (q3f hr) hj
  by_cases hk:q1g w.jobs j.id=k
  ·subst hk
   rw [hp] at ha
   cases ha
   have:b=q4j j s at_:=by
    simp only at hb
    rw [List.getElem?_set_self (List.getElem?_eq_some_iff.1 hp).1] at hb
    cases hb;rfl
   subst this
   exact ⟨rfl,rfl,rfl,rfl,fun o=>by rw [qrf hs] at o;cases o⟩
  ·simp only at hb
   rw [List.getElem?_set_ne hk,ha] at hb
   cases hb
   exact JE.refl a
theorem qhy {α:Type} {P:Inst→Prop} {f:Inst→α→Inst}:∀ (l:List α) (w:Inst),P w→(∀ v x,x∈l→P v→P (f v x))→P (l.foldl f w)
 | [],w,h,_=>h
 | x :: l,w,h,hs=>qhy l (f w x) (hs w x List.mem_cons_self h) fun v y hy hv=>hs v y (List.mem_cons_of_mem _ hy) hv
structure IE (w v : Inst) : Prop where
 ir:IR v
 ev:Ev w v
theorem IE.wdo {w v:Inst} (h:IE w v) {id what at_:Int} (h3:what≠3):IE w (wdo v id what at_).1:=⟨q100 h.ir h3,h.ev.trans (qpg h.ir.jobs _ _ _)⟩
theorem qkc {w:Inst} (h:IR w) (id what at_:Int):∀ x∈(wdo w id what at_).1.table,x∈w.table:=by
 rcases q6b h.jobs id what at_ with ⟨e,_⟩ | ⟨j,hj,rfl,s,hb,hs,e1,e⟩
 ·rw [e];exact fun x hx=>hx
 ·rw [e]
  intro x hx
  have:x∈(if q5h s then (q1o w.table j.id).1 else w.table):=hx
  split at this
  ·exact (((qdl h.table j.id).2 x).1 this).1
  ·exact this
theorem quu {w:Inst} (h:IR w) {j:Job} (hj:j∈w.jobs) {what:Int} (h1:1≤what) (h7:what≤7):qmz j what w.now=false:=by
 have hc:=h.came j hj
 simp only [qmz,(jobs_iff.1 h.jobs).2.1 j hj,h.now,Bool.not_true,Bool.false_or,Bool.or_eq_false_iff,decide_eq_false_iff_not]
 refine ⟨⟨⟨?_,?_⟩,?_⟩,?_⟩<;>first | trivial | omega
theorem qnw {w:Inst} (h:IR w) {x:Held} (hx:x∈w.table) {at_:Int} (hb:∀ j∈w.jobs,j.id=x.id→qmz j 5 at_=false):∀ y∈(wdo w x.id 5 at_).1.table,y∈w.table∧y.id≠x.id:=by
 obtain ⟨j,hj,e,s,_⟩:=h.of hx
 have hdo:(jdo j 5 at_)=(q4j j 4 at_,0):=by
  unfold jdo
  rw [hb j hj e,s]
  rfl
 rcases q6b h.jobs x.id 5 at_ with ⟨e1,e2⟩ | ⟨j',hj',e',s',hb',hs',e1,e2⟩
 ·exfalso
  apply e2
  have hd:=(q9c h.jobs hj 5 at_).1
  unfold wdo
  rw [← e,hd,hdo]
  simp only [ne_eq,not_true_eq_false,if_false]
  split<;>rfl
 ·have:=qa2 h hj' hj (by rw [e',e])
  subst this
  rw [s] at hs'
  have:s'=4:=by
   have:q56 2 5=some 4:=by decide
   rw [this] at hs'
   cases hs';rfl
  subst this
  rw [e2]
  intro y hy
  exact ((qdl h.table x.id).2 y).1 hy
theorem qjt {w:Inst} (h:IR w):∀ x∈(q3h w).table,q33 x.things (q7b w.lease (q2p w.graph w.health 1))=true:=by
 unfold q3h
 suffices key:∀ (l:List Held) (v:Inst),IE w v→(∀ x∈v.table,x∈w.table)→(∀ x∈v.table,x∈l∨q33 x.things (q7b w.lease (q2p w.graph w.health 1))=true)→(∀ x∈l,x∈w.table) →
   ∀ x∈(l.foldl (fun a h=>if q33 h.things (q7b w.lease (q2p w.graph w.health 1)) then a else (wdo a h.id 5 a.now).1) v).table,q33 x.things (q7b w.lease (q2p w.graph w.health 1))=true by
  exact key w.table w ⟨h,Ev.refl w⟩ (fun x hx=>hx) (fun x hx=>.inl hx) fun x hx=>hx
 intro l
 induction l with
 | nil =>
  intro v hv h1 h2 h3 x hx
  rcases h2 x hx with h | h
  ·cases h
  ·exact h
 | cons y l ih =>
  intro v hv h1 h2 h3
  rw [List.foldl_cons]
  cases hg:q33 y.things (q7b w.lease (q2p w.graph w.health 1)) with
  | true =>
   rw [if_pos rfl]
   refine ih v hv h1 (fun x hx=>?_) fun x hx=>h3 x (List.mem_cons_of_mem _ hx)
   rcases h2 x hx with h4 | h4
   ·rcases List.mem_cons.1 h4 with rfl | h5
    ·exact .inr hg
    ·exact .inl h5
   ·exact .inr h4
  | false =>
   rw [if_neg (by decide)]
   have hsub:=qkc hv.ir y.id 5 v.now
   refine ih _ (hv.wdo (by decide)) (fun x hx=>h1 x (hsub x hx)) (fun x hx=>?_) fun x hx=>h3 x (List.mem_cons_of_mem _ hx)
   rcases h2 x (hsub x hx) with h4 | h4
   ·rcases List.mem_cons.1 h4 with rfl | h5
    ·exfalso
     exact (qnw hv.ir (hsub x hx) (fun j hj _=>quu hv.ir hj (by decide) (by decide)) x hx).2 rfl
    ·exact .inl h5
   ·exact .inr h4
structure Beg (w : Inst) (h : Held) : Prop where
 may:hmay h=true
 things:q2r w.graph h.things=true
 frm:h.frm=w.now
 job:∃ j∈w.jobs,j.id=h.id∧j.state=0∧h.tto=q21 j.spec w.now
 new:∀ x∈w.table,x.id≠h.id
 room:w.table.length<256
 apart:∀ x∈w.table,q5y x h=false
def qwv (a:Inst) (h:Held):Inst:={ (wdo a h.id 3 a.now).1 with table:=(q1d (wdo a h.id 3 a.now).1.table h).1 }
theorem qjd {w:Inst} (h:IR w) {x:Held} (hb:Beg w x):∃ j∈w.jobs,j.id=x.id∧j.state=0∧x.tto=q21 j.spec w.now∧(qwv w x).table=qwn Held.id w.table x∧q2a (qwv w x).table=true∧q2v (qwv w x).jobs=true∧Ev w (qwv w x)∧∀ y,y∈(qwv w x).jobs↔y=q4j j 2 w.now∨(y∈w.jobs∧y.id≠x.id):=by
 obtain ⟨j,hj,e,s,hto⟩:=hb.job
 have hdo:jdo j 3 w.now=(q4j j 2 w.now,0):=by
  unfold jdo
  rw [quu h hj (by decide) (by decide),s]
  rfl
 rcases q6b h.jobs x.id 3 w.now with ⟨e1,e2⟩ | ⟨j',hj',e',s',hb',hs',e1,e2⟩
 ·exfalso
  apply e2
  have hd:=(q9c h.jobs hj 3 w.now).1
  unfold wdo
  rw [← e,hd,hdo]
  simp only [ne_eq,not_true_eq_false,if_false]
  split<;>rfl
 ·have:=qa2 h hj' hj (by rw [e',e])
  subst this
  rw [s] at hs'
  have:s'=2:=by
   have:q56 0 3=some 2:=by decide
   rw [this] at hs'
   cases hs';rfl
  subst this
  have hev:=qpg h.jobs x.id 3 w.now
  rw [← e'] at e1
  obtain ⟨hr,hm⟩:=qhj h.jobs hj' e1 hb' (by rw [s];decide)
  have ht:(wdo w x.id 3 w.now).1.table=w.table:=by rw [e2];rfl
  have hjj:(wdo w x.id 3 w.now).1.jobs=w.jobs.set (q1g w.jobs x.id) (q4j j' 2 w.now):=by rw [e2]
  have ha:=qcj h.table hb.may hb.new hb.room hb.apart
  refine ⟨j',hj',e',s,hto,?_,?_,?_,hev.tab _,?_⟩
  ·show (q1d (wdo w x.id 3 w.now).1.table x).1=_
   rw [ht,ha.1]
  ·show q2a (q1d (wdo w x.id 3 w.now).1.table x).1=_
   rw [ht,ha.1];exact ha.2
  ·show q2v (wdo w x.id 3 w.now).1.jobs=true
   rw [hjj,← e'];exact hr
  ·intro y
   show y∈(wdo w x.id 3 w.now).1.jobs↔_
   rw [hjj,← e'];exact hm y
theorem q10o {w:Inst} (h:IR w) {x:Held} (hb:Beg w x):IR (qwv w x):=by
 obtain ⟨j,hj,e,s,hto,ht,hr,hjr,hev,hm⟩:=qjd h hb
 refine ⟨hjr,hr,?_,?_,?_,by rw [hev.now];exact h.now⟩
 ·intro y hy
  rw [hev.now]
  rcases (hm y).1 hy with rfl | ⟨hy,_⟩
  ·exact ⟨(h.came j hj).1,Int.le_refl _⟩
  ·exact h.came y hy
 ·intro y hy hs
  rw [hev.graph]
  rcases (hm y).1 hy with rfl | ⟨hy,hne⟩
  ·exact ⟨x,by rw [ht];exact kput_mem.2 (.inl rfl),e.symm,hb.frm,hto,hb.things⟩
  ·obtain ⟨z,hz,r⟩:=h.run y hy hs
   exact ⟨z,by rw [ht];exact kput_mem.2 (.inr hz),r⟩
 ·intro z hz
  rw [ht] at hz
  rcases kput_mem.1 hz with rfl | hz
  ·exact ⟨q4j j 2 w.now,(hm _).2 (.inl rfl),e,rfl⟩
  ·obtain ⟨y,hy,e1,e2⟩:=h.held z hz
   refine ⟨y,(hm _).2 (.inr ⟨hy,fun e3=>?_⟩),e1,e2⟩
   exact hb.new z hz (by rw [← e1,e3])
theorem qax {a b:List Int} (ha:sok a=true) (hb:sok b=true) (h:∀ x∈a,x∈b):q33 a b=true:=spart_iff.2 ⟨ha,hb,fun n hn=>inl_mem.2 (h _ (inl_mem.1 hn))⟩
theorem qic {a b:List Int} (h:q33 a b=true):∀ x∈a,x∈b:=by
 intro x hx
 obtain ⟨ha,hb,hs⟩:=spart_iff.1 h
 have h0:=q82 ha hx
 have:=hs x.toNat (inl_mem.2 (by rw [Int.toNat_of_nonneg h0.1];exact hx))
 have:=inl_mem.1 this
 rwa [Int.toNat_of_nonneg h0.1] at this
theorem qh3 {a b c:List Int} (h:q33 a b=true) (k:q33 b c=true):q33 a c=true:=qax (spart_iff.1 h).1 (spart_iff.1 k).2.1 fun x hx=>qic k x (qic h x hx)
theorem qdp {b:List Int} (hb:sok b=true):q33 [] b=true:=qax qng hb fun x hx=>by cases hx
theorem qh9 {a b c:List Int} (h:q33 a c=true) (k:q33 b c=true):q33 (qff a b) c=true:=by
 obtain ⟨h1,h2,h3⟩:=spart_iff.1 h
 obtain ⟨k1,_,k3⟩:=spart_iff.1 k
 refine spart_iff.2 ⟨q8p _ _ _,h2,fun n hn=>?_⟩
 rw [q10g h1 k1,Bool.or_eq_true] at hn
 rcases hn with hn | hn
 ·exact h3 n hn
 ·exact k3 n hn
theorem qq5 {a b:List Int} (ha:sok a=true) (hb:sok b=true):q33 (qra a b) a=true:=spart_iff.2 ⟨q8p _ _ _,ha,fun n hn=>by
 rw [q10h ha hb,Bool.and_eq_true] at hn;exact hn.1⟩
theorem qq0 {a b:List Int} (ha:sok a=true) (hb:sok b=true):q33 (q7b a b) a=true:=spart_iff.2 ⟨q8p _ _ _,ha,fun n hn=>by
 rw [qnh ha hb,Bool.and_eq_true] at hn;exact hn.1⟩
theorem qe8 (a b:List Int):sok (q7b a b)=true:=q8p _ _ _
theorem mkids_mem {g:List Thing} {node:Nat} {x:Int}:x∈q6h g node↔∃ k:Nat,x=k∧k<g.length∧2<q4f g k∧qmr g k=(node:Int):=by
 rw [q6h,idx_mem]
 simp only [Bool.and_eq_true,decide_eq_true_eq]
theorem qjn (g:List Thing) (node:Nat):(q6h g node).Pairwise (· < ·):=qgq _ _
theorem qad {g:List Thing} (hg:q2g g=true) (node:Nat):sok (q6h g node)=true:=qna _ (q32 hg).2
theorem qmg {g:List Thing} (hg:q2g g=true) {node:Nat} {x:Int} (hx:x∈q6h g node):(node:Int)<x:=by
 obtain ⟨k,rfl,hk,_,hu⟩:=mkids_mem.1 hx
 have:=(qfe hg (List.getElem?_eq_getElem hk)).1
 rw [qmr,List.getElem?_eq_getElem hk] at hu
 have hu:g[k].up=(node:Int):=hu
 omega
theorem q10p {a b:List Int} (h:a.Sublist b) (hb:sok b=true):sok a=true:=q64 ((q7i hb).sublist h) fun x hx=>q82 hb (h.subset hx)
theorem qhd {g:List Thing} {free:List Int} (hg:q2g g=true) (hf:sok free=true) (node:Nat) (kind most:Int):q33 (q8s g free node kind most) free=true:=by
 have hs:(q8s g free node kind most).Sublist (q6h g node):=(List.take_sublist _ _).trans List.filter_sublist
 refine qax (q10p hs (qad hg node)) hf fun x hx=>?_
 have:=List.mem_of_mem_take hx
 rw [List.mem_filter,Bool.and_eq_true] at this
 have h0:=q82 (qad hg node) this.1
 have:=inl_mem.1 this.2.1
 rwa [Int.toNat_of_nonneg h0.1] at this
theorem qyq {g:List Thing} (hg:q2g g=true) {node:Nat} (hn:node<256):sok ((node:Int) :: q6h g node)=true:=q64 (List.pairwise_cons.2 ⟨fun x hx=>qmg hg hx,qjn g node⟩) fun x hx=>by
 rcases List.mem_cons.1 hx with rfl | hx
 ·omega
 ·exact q82 (qad hg node) hx
theorem qq7 {g:List Thing} {free:List Int} {s:Spec} (hg:q2g g=true) (hf:sok free=true) (node:Nat):q33 (qbj g free s node).1 free=true:=by
 unfold qbj
 split
 ·exact qdp hf
 rename_i h1
 split
 ·exact qdp hf
 split
 ·exact qh9 (qhd hg hf _ _ _) (qhd hg hf _ _ _)
 split
 ·rename_i h4
  have hfn:inl free node=true:=by
   simp only [Bool.not_eq_true',Bool.not_eq_false,Bool.and_eq_true] at h1
   exact h1.1.2
  refine qax (qyq hg (qf8 hf hfn)) hf fun x hx=>?_
  rcases List.mem_cons.1 hx with rfl | hx
  ·exact inl_mem.1 hfn
  ·have h0:=q82 (qad hg node) hx
   have:=inl_mem.1 (List.all_eq_true.1 h4 x hx)
   rwa [Int.toNat_of_nonneg h0.1] at this
 ·exact qdp hf
theorem qa1 {g:List Thing} {free:List Int} {s:Spec} (hg:q2g g=true) (hf:sok free=true):∀ k,q33 (q2j g free s k).1 free=true
 | 0=>qdp hf
 | k+1=>by
  rw [q2j]
  split
  ·exact qh9 (qa1 hg hf k) (qq7 hg hf k)
  ·exact qa1 hg hf k
theorem qrg {g:List Thing} {free:List Int} {s:Spec} (h:(qb9 g free s).2=true):q33 (qb9 g free s).1 free=true:=by
 unfold qb9 at h ⊢
 split at h
 ·cases h
 rename_i hm
 rw [if_neg hm]
 simp only [mmay,Bool.not_eq_true',Bool.not_eq_false,Bool.and_eq_true] at hm
 split at h
 ·cases h
 rename_i hl
 rw [if_neg hl]
 exact qa1 hm.1.1 hm.1.2 _
theorem qse {g:List Thing} {use:List Int} {l:List Held} {s:Spec} {t til:Int} (hu:sok use=true) (h:(q4l g use l s t til).2=true):q33 (q4l g use l s t til).1 use=true∧t≠4611686018427387904∧q21 s t≤til:=by
 unfold q4l at h ⊢
 split at h
 ·cases h
 rename_i hm
 rw [if_neg hm]
 simp only [Bool.or_eq_true,decide_eq_true_eq,not_or] at hm
 exact ⟨qh3 (qrg h) (qq5 hu (qup _ _ _)),hm.1.2,by omega⟩
theorem qb6 {g:List Thing} {use:List Int} {l:List Held} {s:Spec} {til:Int}:∀ ts:List Int,(q39 g use l s til ts).2.2=true→(q39 g use l s til ts).1∈ts∧(q4l g use l s (q39 g use l s til ts).1 til).2=true∧(q39 g use l s til ts).2.1=(q4l g use l s (q39 g use l s til ts).1 til).1
 | [],h=>by cases h
 | t :: ts,h=>by
  unfold q39 at h ⊢
  split at h
  ·rename_i hf
   rw [if_pos hf]
   exact ⟨List.mem_cons_self,hf,rfl⟩
  ·rename_i hf
   rw [if_neg hf]
   have:=qb6 ts h
   exact ⟨List.mem_cons_of_mem _ this.1,this.2⟩
theorem qv3 {g:List Thing} {use:List Int} {l:List Held} {s:Spec} {frm til:Int} (hu:sok use=true) (h:(qv g use l s frm til).2.2=true):q33 (qv g use l s frm til).2.1 use=true∧(qv g use l s frm til).1≠4611686018427387904∧q21 s (qv g use l s frm til).1≤til:=by
 unfold qv at h ⊢
 split at h
 ·cases h
 rename_i hm
 rw [if_neg hm]
 obtain ⟨h1,h2,h3⟩:=qb6 _ h
 rw [h3]
 exact qse hu h2
theorem qcp {l:List Held} {h:Held} (e:(q1d l h).2=0):q2a l=true∧hmay h=true∧(∀ x∈l,x.id≠h.id)∧l.length<256∧(∀ x∈l,q5y x h=false)∧(q1d l h).1=qwn Held.id l h:=by
 unfold q1d at e
 split at e
 ·simp at e
 rename_i h1
 simp only [Bool.not_eq_true',Bool.not_eq_false,Bool.and_eq_true] at h1
 split at e
 ·simp at e
 rename_i h2
 split at e
 ·simp at e
 rename_i h3
 simp only [Bool.or_eq_true,decide_eq_true_eq,not_or,Bool.not_eq_true,List.any_eq_false] at h3
 have hp:=held_iff.1 h1.1
 have hn:∀ x∈l,x.id≠h.id:=fun x hx e=>h2 ((q4h hp.2.2.1).2 ⟨x,hx,e⟩)
 have hl:l.length<256:=by have:=hp.1;omega
 exact ⟨h1.1,h1.2,hn,hl,h3.2,by rw [(qcj h1.1 h1.2 hn hl h3.2).1]⟩
theorem qxl {l:List Held} (hr:q2a l=true) {a b:Held} (ha:a∈l) (hb:b∈l) (hne:a.id≠b.id):q5y a b=false:=by
 obtain ⟨_,_,_,h4⟩:=held_iff.1 hr
 obtain ⟨i,hi⟩:=List.mem_iff_getElem?.1 ha
 obtain ⟨j,hj⟩:=List.mem_iff_getElem?.1 hb
 obtain ⟨hi1,hi2⟩:=List.getElem?_eq_some_iff.1 hi
 obtain ⟨hj1,hj2⟩:=List.getElem?_eq_some_iff.1 hj
 rcases Nat.lt_trichotomy i j with h | h | h
 ·have:=List.pairwise_iff_getElem.1 h4 i j hi1 hj1 h
  rwa [hi2,hj2] at this
 ·subst h
  rw [hi] at hj
  cases hj
  exact absurd rfl hne
 ·have:=List.pairwise_iff_getElem.1 h4 j i hj1 hi1 h
  rw [hi2,hj2,qh0] at this
  exact this
structure PK (use : List Int) (now til : Int) (ws : List Want) (l0 : List Held) (l : List Held) (begun : List Held) : Prop where
 r:q2a l=true
 old:∀ x∈l0,x∈l
 isin:∀ x∈begun,x∈l
 new:∀ x∈begun,∀ y∈l0,y.id≠x.id
 dif:begun.Pairwise (fun a b=>a.id≠b.id)
 frm:∀ x∈begun,x.frm=now
 of:∀ x∈begun,∃ w∈ws,w.id=x.id∧x.tto=q21 w.spec now
 part:∀ x∈begun,q33 x.things use=true
 til:∀ x∈begun,x.tto≤til∧now≠4611686018427387904
theorem PK.none {use:List Int} {now til:Int} {ws:List Want} {l0:List Held} (h:q2a l0=true):PK use now til ws l0 l0 [] :=
 ⟨h,fun x hx=>hx,(fun _ h=>nomatch h),(fun _ h=>nomatch h),List.Pairwise.nil,(fun _ h=>nomatch h),(fun _ h=>nomatch h),(fun _ h=>nomatch h),(fun _ h=>nomatch h)⟩
theorem PK.add {use:List Int} {now til:Int} {ws:List Want} {l0 l begun:List Held} (p:PK use now til ws l0 l begun) {h:Held} (e:(q1d l h).2=0):PK use now til ws l0 (q1d l h).1 begun:=by
 obtain ⟨h1,h2,h3,h4,h5,h6⟩:=qcp e
 rw [h6]
 exact ⟨(qcj h1 h2 h3 h4 h5).2,fun x hx=>kput_mem.2 (.inr (p.old x hx)),fun x hx=>kput_mem.2 (.inr (p.isin x hx)),p.new,p.dif,p.frm,p.of,p.part,p.til⟩
theorem PK.begin {use:List Int} {now til:Int} {ws:List Want} {l0 l begun:List Held} (p:PK use now til ws l0 l begun) {w:Want} (hw:w∈ws) {things:List Int} (hp:q33 things use=true) (ht:q21 w.spec now≤til∧now≠4611686018427387904) (e:(q1d l ⟨w.id,things,now,q21 w.spec now⟩).2=0) :
  PK use now til ws l0 (q1d l ⟨w.id,things,now,q21 w.spec now⟩).1 (begun++[⟨w.id,things,now,q21 w.spec now⟩]):=by
 obtain ⟨h1,h2,h3,h4,h5,h6⟩:=qcp e
 have q:=p.add e
 refine ⟨q.r,q.old,fun x hx=>?_,fun x hx y hy=>?_,?_,fun x hx=>?_,fun x hx=>?_,fun x hx=>?_,fun x hx=>?_⟩
 ·rcases List.mem_append.1 hx with hx | hx
  ·exact q.isin x hx
  ·rw [List.mem_singleton] at hx;subst hx
   rw [h6];exact kput_mem.2 (.inl rfl)
 ·rcases List.mem_append.1 hx with hx | hx
  ·exact p.new x hx y hy
  ·rw [List.mem_singleton] at hx;subst hx
   exact h3 y (p.old y hy)
 ·rw [List.pairwise_append]
  refine ⟨p.dif,List.pairwise_singleton _ _,fun a ha b hb=>?_⟩
  rw [List.mem_singleton] at hb;subst hb
  exact h3 a (p.isin a ha)
 ·rcases List.mem_append.1 hx with hx | hx
  ·exact p.frm x hx
  ·rw [List.mem_singleton] at hx;subst hx;rfl
 ·rcases List.mem_append.1 hx with hx | hx
  ·exact p.of x hx
  ·rw [List.mem_singleton] at hx;subst hx
   exact ⟨w,hw,rfl,rfl⟩
 ·rcases List.mem_append.1 hx with hx | hx
  ·exact p.part x hx
  ·rw [List.mem_singleton] at hx;subst hx;exact hp
 ·rcases List.mem_append.1 hx with hx | hx
  ·exact p.til x hx
  ·rw [List.mem_singleton] at hx;subst hx;exact ht
theorem qal {g:List Thing} {use:List Int} {now til policy depth:Int} {ws0:List Want} {l0:List Held} (hu:sok use=true):∀ (ws:List Want) (s:PickS),(∀ w∈ws,w∈ws0)→PK use now til ws0 l0 s.l s.begun→q2a l0=true→∃ l,PK use now til ws0 l0 l (q7n g use now til policy depth s ws).1
 | [],s,_,p,h0=>⟨s.l,p⟩
 | w :: ws,s,hm,p,h0=>by
  have hm':=fun v hv=>hm v (List.mem_cons_of_mem _ hv)
  unfold q7n
  split
  ·exact qal hu ws s hm' p h0
  rename_i hf
  have hf':(qv g use s.l w.spec now til).2.2=true:=by simpa using hf
  split
  ·exact ⟨s.l,p⟩
  split
  ·exact qal hu ws s hm' p h0
  split
  ·exact ⟨l0,PK.none h0⟩
  rename_i he
  have he':=Classical.not_not.1 he
  obtain ⟨s1,s2,s3⟩:=qv3 hu hf'
  split
  ·rename_i hnow
   refine qal hu ws _ hm' ?_ h0
   simp only
   rw [hnow] at he' s2 s3 ⊢
   exact p.begin (hm w List.mem_cons_self) s1 ⟨s3,s2⟩ he'
  ·exact qal hu ws _ hm' (p.add he') h0
theorem qqp {g:List Thing} {use:List Int} {l0:List Held} {ws:List Want} {now til policy depth:Int} (hu:sok use=true) (h0:q2a l0=true):∃ l,PK use now til ws l0 l (q5p g use l0 ws now til policy depth).1:=by
 unfold q5p
 split
 ·exact ⟨l0,PK.none h0⟩
 ·exact qal hu ws _ (fun w hw=>hw) (PK.none h0) h0
theorem qp3 {p:Nat→Bool} {n:Nat}:qmm p n=true↔∀ i,i<n→p i=true:=⟨fun h i hi=>q5b h hi,q4b⟩
def g5B (g:List Thing) (i:Nat):Bool:=if i=0 then decide (g[0]?=some qcv) else qm3 g (i-1)
theorem q13e {g:List Thing} (h1:g.length≠0) (h2:g.length≤256):q2g g=qmm (g5B g) g.length:=by
 rw [q2g,decide_eq_true (show 1≤g.length by omega),decide_eq_true h2,Bool.true_and,Bool.true_and,Bool.eq_iff_iff,Bool.and_eq_true,decide_eq_true_eq,qp3,qp3]
 constructor
 ·rintro ⟨a,b⟩ i hi
  rw [g5B]
  split
  ·rw [decide_eq_true_eq];exact a
  ·exact b (i-1) (by omega)
 ·intro h
  refine ⟨?_,fun i hi=>?_⟩
  ·have:=h 0 (by omega)
   rw [g5B,if_pos rfl,decide_eq_true_eq] at this
   exact this
  ·have:=h (i+1) (by omega)
   rw [g5B,if_neg (by omega),Nat.add_sub_cancel] at this
   exact this
theorem qxt {g:List Thing} {t:Thing} (h:g[0]?=some t):g5B g 0=(decide (t.kind=0)&&decide (t.up = -1)&&decide (t.tag=⟨#[]⟩)):=by
 rw [g5B,if_pos rfl,h,qcv,Bool.eq_iff_iff]
 cases t
 simp [and_assoc]
theorem q127 {g:List Thing} {i:Nat} {t:Thing} (h:g[i]?=some t) (h0:0<i):g5B g i=(decide (0≤t.up)&&decide (t.up<(i:Int))&&qcm t.kind (q4f g t.up.toNat)&&q9g t.tag&&(decide (t.tag=⟨#[]⟩)||decide (t.kind=2))):=by
 obtain ⟨j,rfl⟩:∃ j,i=j+1:=⟨i-1,by omega⟩
 rw [g5B,if_neg (by omega),Nat.add_sub_cancel,qm3,h]
 have:decide (t.up≤(j:Int))=decide (t.up<((j+1:Nat):Int)):=by rw [Bool.eq_iff_iff];simp;omega
 simp only [this]
end Go.Av
namespace Go.Av
open Go
section
variable {P : Program} {N : Nat} {env : Env} {H : qf}
theorem CR.ghostC {B:Base} {S:List Slot} {a:Act} {w:World} {k i j sz:Nat} {q:AObj} {r:List AV} (h:CR N env H S a w) (hx:Ext B.S B.w S w) (hk:H[k]?=some q) (hr:q.rows[i]?=some r) (hj:r[j]?=some .nsl) (hp:0<sz) :
  ∃ S',CR N env ((H++[(⟨0,sz,[]⟩:AObj)]).set k { q with rows:=q.rows.set i (r.set j (.sl H.length 0 0 0 0)) }) S' a w∧Ext B.S B.w S' w:=by
 obtain ⟨s,hs,ok⟩:=h.heap.slot hk
 have hil:=(List.getElem?_eq_some_iff.1 hr).1
 cases hpl:s.place with
 | none=>rw [ok.nope hpl] at hil;simp at hil
 | some b =>
  obtain ⟨arr,ty,h1,h2,h3⟩:=ok.lies b hpl
  obtain ⟨k1,k2⟩:=h3 i r hr
  obtain ⟨_,u,hu,hv⟩:=k2 j _ hj
  have hc:CR 1 [(0,.nsl)] H S { tmps:=#[u],defers:=[] } w:=⟨h.heap,fun t=>by
   cases t with
   | zero=>exact hv
   | succ t=>exact .junk,rfl,rfl⟩
  obtain ⟨S',hc',hx'⟩:=hc.ghost (B:=⟨S,w⟩) (t:=0) (Ext.refl S w) rfl hp
  have hv2:=hc'.env 0
  rw [qt] at hv2
  have hk':(H++[(⟨0,sz,[]⟩:AObj)])[k]?=some q:=by rw [List.getElem?_append_left (List.getElem?_eq_some_iff.1 hk).1];exact hk
  obtain ⟨s',hs',ok'⟩:=hc'.heap.slot hk'
  obtain ⟨s2,hs2,hg,he⟩:=hx'.slots k s hs
  rw [hs'] at hs2
  obtain rfl:=Option.some.inj hs2
  have hpl':s'.place=some b:=(he (by rw [← ok'.gen,ok.gen])).2.trans hpl
  have hh:=hc'.heap.retell (v2:=.sl H.length 0 0 0 0) hk' hs' hpl' h1 hr (List.getElem?_eq_some_iff.1 hj).1 hu rfl hv2
  exact ⟨S',⟨hh,fun t=>(h.env t).ext hx',h.size,h.defers⟩,hx.trans hx'⟩
theorem qvj {B:Base} {Q:q6g} {c:Code} {L:qf} {H0:qf} {n k i j sz:Nat} {q:AObj} {r:List AV} (k':Nat) (hk':k'=k) (hk:L[k]?=some q) (hr:q.rows[i]?=some r) (hj:r[j]?=some .nsl) (hn:H0.length=n) (hp:0<sz)
  (h:AWp P N B c Q env (H0++(L.set k { q with rows:=q.rows.set i (r.set j (.sl (Lid n L.length) 0 0 0 0)) }++[⟨0,sz,[]⟩]))):AWp P N B c Q env (H0++L):=fun S a w hc hb=>by
 obtain ⟨S',hc',hb'⟩:=hc.ghostC (k:=Lid n k) (sz:=sz) hb (lk hn hk) hr hj hp
 have hkl:=(List.getElem?_eq_some_iff.1 hk).1
 have e:((H0++L)++[(⟨0,sz,[]⟩:AObj)]).set (Lid n k) { q with rows:=q.rows.set i (r.set j (.sl (H0++L).length 0 0 0 0)) } = H0++(L.set k { q with rows:=q.rows.set i (r.set j (.sl (Lid n L.length) 0 0 0 0)) }++[⟨0,sz,[]⟩]):=by
  rw [List.append_assoc,show (H0++L).length=Lid n L.length by rw [List.length_append,hn];rfl,st hn,List.set_append_left _ _ hkl]
 rw [e] at hc'
 exact h S' a w hc' hb'
end
end Go.Av
namespace Go.Av
def AtR2 (H0 L0:qf) (k1 k2:Nat) (H:qf):Prop:=∃ G:qf,H=H0++G∧G[k1]?=L0[k1]?∧G[k2]?=L0[k2]?
section
variable {P : Program} {N : Nat} {B : Base} {ops : Array Oper} {a : Option Nat} {C : qf → Prop} {F : Env → qf → Prop} {Q : q6g}
variable {fuel : Nat} {listed : Array Bool} {env : Env} {H H0 L : qf} {op : Op} {ty : TypeId} {pos : String} {after : Array Edge} {v : AV} {id : Nat} {l : List Oper}
theorem qyh (hm:P.follows .mixedOrders=true) (a:Option Nat) (k1 k2:Nat) (h:AAny P N B l.toArray a (AtR2 H0 L k1 k2) (Q .nrm) l.length (Array.replicate l.length false) env (H0++L)):AWp P N B (.region id l.toArray true) Q env (H0++L):=qhi hm a _ h
theorem aqr2 {d k1 k2:Nat} {L0:qf} (i:Nat) (hi:ops[i]?=some ⟨some d,op,ty,pos,after,none⟩) (hB:q6m ops listed a i=true) (hd:DN d N) (h1:∀ G:qf,G[k1]?=L0[k1]?→G[k2]?=L0[k2]?→V1 P N op ty (renv ⟨some d,op,ty,pos,after,none⟩ env) (H0++G) v)
  (h:AAny P N B ops a (AtR2 H0 L0 k1 k2) F fuel (listed.setIfInBounds i true) ((d,v) :: env) H):AAny P N B ops a (AtR2 H0 L0 k1 k2) F (fuel+1) listed env H :=
 aq1 i hi hB hd (by rintro _ ⟨G,rfl,hG1,hG2⟩;exact h1 G hG1 hG2) h
end
section
variable {P : Program} {N : Nat} {B : Base} {ops : Array Oper} {a : Option Nat} {C : qf → Prop} {F : Env → qf → Prop} {Q : q6g}
variable {op : Op} {ty : TypeId} {pos : String} {after : Array Edge}
inductive Anc (ops : Array Oper) (listed : Array Bool) (i : Nat) : Nat → Prop
 | here:Anc ops listed i i
 | step {m:Nat} {om:Oper} {e:Edge}:listed.getD m true=false→ops[m]?=some om→e∈om.after→Region.binds .any e=true→Anc ops listed i e.on→Anc ops listed i m
def q12k (ops:Array Oper) (a:Option Nat) (i:Nat) (listed:Array Bool):Prop:=∀ a',a=some a'→∀ oa,ops[a']?=some oa→∃ e∈oa.after,Region.binds .any e=true∧Anc ops listed i e.on
theorem qk4 {listed:Array Bool} {m:Nat} (h1:listed.getD m false=true) (h2:listed.getD m true=false):False:=by
 rcases Nat.lt_or_ge m listed.size with h' | h'
 ·simp [h'] at h1 h2;rw [h1] at h2;cases h2
 ·simp [Array.getElem?_eq_none h'] at h1
theorem Anc.put {listed:Array Bool} {i j m:Nat} {oj:Oper} (hoj:ops[j]?=some oj) (hall:∀ e∈oj.after,Region.binds .any e=true→listed.getD e.on false=true) (hnot:∀ e∈oj.after,Region.binds .any e=true→e.on≠i) (h:Anc ops listed i m):Anc ops (listed.setIfInBounds j true) i m:=by
 induction h with
 | here=>exact .here
 | @step m om e hm hom he hb h ih =>
  refine .step ?_ hom he hb ih
  have:j≠m:=by
   rintro rfl
   rw [hoj] at hom
   obtain rfl:=Option.some.inj hom
   have h1:=hall e he hb
   have h2:=hnot e he hb
   cases h with
   | here=>exact h2 rfl
   | step h3=>exact qk4 h1 h3
  rw [getD_set_ne true this];exact hm
theorem qhl {i:Nat} {oi:Oper} {v:AV} (hi:ops[i]?=some oi) (hdi:∀ t,oi.dst=some t→DN t N) (hai:a≠some i) :
  ∀ (fuel:Nat) (listed:Array Bool) (env:Env) (H:qf),q12k ops a i listed→listed.size=ops.size →
   (∀ j oj,ops[j]?=some oj→j≠i→listed.getD j true=false→(∀ e∈oj.after,Region.binds .any e=true→e.on≠i)→oi.apart ops oj=true) →
   i∈Region.ready .any ops listed→Yet a listed→Quiet P N ops C oi env v →
   AAny P N B ops a C F fuel (listed.setIfInBounds i true) (Av.put env oi.dst v) H→AAny P N B ops a C F (fuel+1) listed env H:=by
 have q57:∀ (listed:Array Bool) (j:Nat),a≠some j→Yet a (listed.setIfInBounds j true)=Yet a listed:=fun listed j hj=>by
  unfold Yet
  cases a with
  | none=>rfl
  | some a=>simp only;rw [getD_set_ne true (fun e=>hj (by rw [e]))]
 intro fuel
 induction fuel with
 | zero =>
  intro listed env H _ hsz _ hr ha hq h
  have hC:C H:=h.1 Y19
  refine ⟨fun _=>hC,fun h0=>Y1c,fun j hj=>?_⟩
  by_cases hji:j=i
  ·subst hji;exact hq.at_ hi hdi hC h
  ·have:=ready_mono hj hji
   rw [h.2.1] at this
   cases this
 | succ fuel ih =>
  intro listed env H hwait hsz hfree hr ha hq h
  have hC:C H:=h.1 Y19
  refine ⟨fun _=>hC,fun h0=>Y1c,fun j hj=>?_⟩
  by_cases hji:j=i
  ·subst hji;exact hq.at_ hi hdi hC h
  ·have h1:=h.2.2 j (ready_mono hj hji)
   obtain ⟨hjun,oj,hoj,hall⟩:=mem_ready.1 hj
   have hnot:∀ e∈oj.after,Region.binds .any e=true→e.on≠i:=fun e he hb heq=>by
    have h1:=hall e he hb
    have h0:=(mem_ready.1 hr).1
    rw [heq] at h1
    rcases Nat.lt_or_ge i listed.size with h' | h'
    ·simp [h'] at h0 h1;rw [h0] at h1;cases h1
    ·simp [Array.getElem?_eq_none h'] at h1
   have hja:a≠some j:=by
    rintro rfl
    obtain ⟨e,he,hb,hm⟩:=hwait j rfl oj hoj
    generalize hx:e.on=x at hm
    cases hm with
    | here=>exact hnot e he hb hx
    | step h3=>exact qk4 (hall e he hb) (by rw [hx];exact h3)
   have hwait':q12k ops a i (listed.setIfInBounds j true):=by
    intro a' ha' oa hoa
    obtain ⟨e,he,hb,hm⟩:=hwait a' ha' oa hoa
    exact ⟨e,he,hb,hm.put hoj hall hnot⟩
   have hap:=hfree j oj hoj hji hjun hnot
   obtain ⟨p1,p2,p3⟩:=Oper.apart_spec hap
   have hfree':∀ k ok,ops[k]?=some ok→k≠i→(listed.setIfInBounds j true).getD k true=false →
     (∀ e∈ok.after,Region.binds .any e=true→e.on≠i)→oi.apart ops ok=true:=fun k ok hk hki hun hno=>by
    refine hfree k ok hk hki ?_ hno
    by_cases hjk:j=k
    ·subst hjk;exact hjun
    ·rw [getD_set_ne true hjk] at hun;exact hun
   obtain ⟨o,ho,hd,h2⟩:=h1
   rw [hoj] at ho
   obtain rfl:=Option.some.inj ho
   have step:∀ x H',AAny P N B ops a C F fuel ((listed.setIfInBounds i true).setIfInBounds j true) (Av.put (Av.put env oi.dst v) oj.dst x) H'→AAny P N B ops a C F (fuel+1) (listed.setIfInBounds j true) (Av.put env oj.dst x) H':=by
    intro x H' hx
    refine ih (listed.setIfInBounds j true) (Av.put env oj.dst x) H' hwait' (by simpa using hsz) hfree' (ready_mono hr (Ne.symm hji)) (by rw [q57 _ _ hja];exact ha) (hq.put p3 fun t ht=>(hd t ht).2) ?_
    rw [Array.setIfInBounds_comm _ _ hji]
    exact AAny.eqv _ _ _ _ _ (Eqv.comm env v x p2) hx
   refine ⟨oj,hoj,hd,?_⟩
   rcases h2 with ⟨k1,V,k2,k3⟩ | ⟨k1,k2⟩
   ·exact .inl ⟨k1.put p1,V,by rw [qds ops oj env oi.dst v p1 fun t ht=>(hdi t ht).2] at k2;exact k2,fun x H' hx=>step x H' (k3 x H' hx)⟩
   ·exact .inr ⟨k1.put p1,step _ _ k2⟩
def ancB (ops:Array Oper) (listed:Array Bool) (i:Nat):Nat→List Nat→Bool
 | m,[]=>m == i
 | m,x :: l=>!(listed.getD m true)&&(match ops[m]? with
   | some om=>om.after.toList.any fun e=>Region.binds .any e&&e.on == x
   | none=>false)&&ancB ops listed i x l
theorem qkm {listed:Array Bool} {i:Nat}:∀ (l:List Nat) (m:Nat),ancB ops listed i m l=true→Anc ops listed i m
 | [],m,h=>by simp only [ancB,beq_iff_eq] at h;subst h;exact .here
 | x :: l,m,h=>by
  simp only [ancB,Bool.and_eq_true,Bool.not_eq_true'] at h
  obtain ⟨⟨h1,h2⟩,h3⟩:=h
  cases hm:ops[m]? with
  | none=>rw [hm] at h2;cases h2
  | some om =>
   rw [hm] at h2
   simp only [List.any_eq_true,Bool.and_eq_true,beq_iff_eq] at h2
   obtain ⟨e,he,hb,ho⟩:=h2
   subst ho
   exact .step h1 hm (by simpa using he) hb (qkm l _ h3)
def qsa (ops:Array Oper) (listed:Array Bool) (a:Nat) (l:List Nat) (i:Nat):Bool :=
 (Region.ready .any ops listed).contains i&&Region.free .any ops listed i&&decide (listed.size=ops.size) &&
  (i != a&&!(listed.getD a true)&&ancB ops listed i a l)
theorem qss {fuel:Nat} {listed:Array Bool} {env:Env} {H H0:qf} {v:AV} {d a:Nat} {L0:qf} (l:List Nat) (i:Nat) (hi:ops[i]?=some ⟨some d,op,ty,pos,after,none⟩) (hB:qsa ops listed a l i=true) (hd:DN d N) (h1:∀ G,V1 P N op ty (renv ⟨some d,op,ty,pos,after,none⟩ env) (H0++(L0++G)) v)
  (h:AAny P N B ops (some a) (Pre H0 L0) F fuel (listed.setIfInBounds i true) ((d,v) :: env) H):AAny P N B ops (some a) (Pre H0 L0) F (fuel+1) listed env H:=by
 simp only [qsa,Bool.and_eq_true,decide_eq_true_eq,bne_iff_ne,Bool.not_eq_true'] at hB
 obtain ⟨⟨⟨h2,h3⟩,h5⟩,⟨h6,h7⟩,h8⟩:=hB
 refine qhl hi Y1f (fun e=>h6 (Option.some.inj e).symm) fuel listed env H ?_ h5 (Region.free_spec hi h3) (by simpa using h2) h7 (.inl ⟨rfl,by rintro H ⟨G,rfl⟩;exact (h1 G).toV2 _ _ _ _⟩) h
 intro a' ha oa hoa
 obtain rfl:=Option.some.inj ha
 cases qkm _ _ h8 with
 | here=>exact absurd rfl h6
 | step h9 h10 h11 h12 h13 =>
  rw [hoa] at h10
  obtain rfl:=Option.some.inj h10
  exact ⟨_,h11,h12,h13⟩
end
end Go.Av
namespace Go.Av
open Go
section
variable {P : Program} {N : Nat} {B : Base} {Q : q6g} {env : Env} {c : Code} {H0 L : qf}
def gk (n N m:Nat):List (List AV):=(List.range N).map fun j=>if j<m then [AV.sl (n+(j+4)) 0 0 0 0] else [.nsl]
theorem q122 (n N:Nat):gk n N 0=List.replicate N [AV.nsl]:=by
 apply List.ext_getElem?
 intro j
 by_cases h:j<N
 ·simp [gk,h]
 ·rw [List.getElem?_eq_none (by simp [gk];omega),List.getElem?_eq_none Y1x]
theorem qo0 {n N m j:Nat} (h:j<N):(gk n N m)[j]?=some (if j<m then [AV.sl (n+(j+4)) 0 0 0 0] else [.nsl]):=by simp [gk,h]
theorem q12s {n N m:Nat} (h:m<N):(gk n N m).set m [AV.sl (n+(m+4)) 0 0 0 0]=gk n N (m+1):=by
 apply List.ext_getElem?
 intro j
 rw [List.getElem?_set]
 have hl:(gk n N m).length=N:=by simp [gk]
 by_cases hj:j<N
 ·rw [qo0 hj]
  by_cases e:m=j
  ·subst e;rw [if_pos rfl,if_pos (by omega),qo0 hj,if_pos (by omega)]
  ·rw [if_neg e,qo0 hj]
   by_cases e2:j<m
   ·rw [if_pos e2,if_pos (by omega)]
   ·rw [if_neg e2,if_neg (by omega)]
 ·rw [List.getElem?_eq_none (by simp [gk];omega),if_neg (by omega),List.getElem?_eq_none (by simp [gk];omega)]
theorem qel {pk M : Nat} (hL : L.length = 4) (hp : pk < 4) (h : AWp P N B c Q env (H0 ++ (L.set pk ⟨0, 1, gk H0.length M M⟩ ++ List.replicate M ⟨0, 1, []⟩))) (hk : L[pk]? = some ⟨0, 1, List.replicate M [.nsl]⟩) : AWp P N B c Q env (H0 ++ L) := by
  have key : ∀ d m, m + d = M → AWp P N B c Q env (H0 ++ (L.set pk ⟨0, 1, gk H0.length M m⟩ ++ List.replicate m ⟨0, 1, []⟩)) := by
    intro d
    induction d with
    | zero => intro m hm; obtain rfl : m = M := by omega
              exact h
    | succ d ih =>
      intro m hm
      have e0 : (L.set pk (⟨0, 1, gk H0.length M m⟩ : AObj) ++ List.replicate m (⟨0, 1, []⟩ : AObj))[pk]? = some ⟨0, 1, gk H0.length M m⟩ := by
        rw [List.getElem?_append_left Y1x, List.getElem?_set_self (by omega)]
      refine qvj (k := pk) (i := m) (j := 0) (sz := 1) pk rfl e0 (by show (gk _ _ _)[m]? = _; rw [qo0 (by omega), if_neg (by omega)]) rfl rfl (by decide) ?_
      have := ih (m + 1) (by omega)
      have e1 : ((L.set pk (⟨0, 1, gk H0.length M m⟩ : AObj) ++ List.replicate m (⟨0, 1, []⟩ : AObj)).set pk { gen := 0, sz := 1, rows := (gk H0.length M m).set m ([AV.nsl].set 0 (.sl (Lid H0.length (L.set pk (⟨0, 1, gk H0.length M m⟩ : AObj) ++ List.replicate m (⟨0, 1, []⟩ : AObj)).length) 0 0 0 0)) } ++ [(⟨0, 1, []⟩ : AObj)]) = L.set pk ⟨0, 1, gk H0.length M (m + 1)⟩ ++ List.replicate (m + 1) ⟨0, 1, []⟩ := by
        rw [List.set_append_left _ _ Y1x, List.set_set, List.replicate_succ', List.append_assoc]
        congr 3
        rw [← q12s (show m < M by omega)]
        simp only [List.set_cons_zero, List.length_append, List.length_set, List.length_replicate, hL, Lid]
        rw [Nat.add_comm 4 m]
      rw [e1]
      exact this
  have := key M 0 (by omega)
  rw [q122, List.replicate_zero, List.append_nil] at this
  have e : L.set pk ⟨0, 1, List.replicate M [.nsl]⟩ = L := by
    apply List.ext_getElem?
    intro j
    rw [List.getElem?_set]
    by_cases e : pk = j
    · subst e; rw [if_pos rfl, if_pos (by omega), hk]
    · rw [if_neg e]
  rwa [e] at this
theorem qz3 {M:qf} (M':qf) (e:M=M') (h:AWp P N B c Q env M'):AWp P N B c Q env M:=by
 subst e;exact h
theorem qdr {E:Env} {M M' K:qf} (e:M=M') (h:Fit B E M' K):Fit B E M K:=by
 subst e;exact h
abbrev eN1 (x:Int):List AV:=[.int .i64 x]
def qew (n:Nat) (f:Nat→List Int) (m j:Nat):List AV:=if j<m then [.pl ((f j).map eN1)] else [.sl (n+(j+4)) (f j).length 0 (f j).length (f j).length]
def qwl (f:Nat→List Int) (m j:Nat):AObj:=if j<m then ⟨(f j).length+1,1,[]⟩ else ⟨(f j).length,1,(f j).map eN1⟩
def q2i (n:Nat) (f:Nat→List Int) (M m:Nat):List (List AV):=(List.range M).map (qew n f m)
def q4g (f:Nat→List Int) (M m:Nat):List AObj:=(List.range M).map (qwl f m)
theorem q45 {α:Type} {f g:Nat→α} {M m:Nat} {x:α} (hx:g m=x) (h:∀ j,j≠m→g j=f j):((List.range M).map f).set m x=(List.range M).map g:=by
 apply List.ext_getElem?
 intro j
 rw [List.getElem?_set]
 by_cases hj:j<M
 ·by_cases e:m=j
  ·subst e;rw [if_pos rfl,if_pos (by simpa using hj)];simp [hj,hx]
  ·rw [if_neg e];simp [hj,h j (Ne.symm e)]
 ·rw [List.getElem?_eq_none (l:=(List.range M).map g) Y1x]
  split
  ·rw [if_neg Y1x]
  ·exact List.getElem?_eq_none Y1x
theorem qcy {pk M : Nat} {f : Nat → List Int} (hL : L.length = 4) (hp : pk < 4) (h : AWp P N B c Q env (H0 ++ (L.set pk ⟨0, 1, q2i H0.length f M M⟩ ++ q4g f M M))) (hk : L[pk]? = some ⟨0, 1, q2i H0.length f M 0⟩) : AWp P N B c Q env (H0 ++ (L ++ q4g f M 0)) := by
  have key : ∀ d m, m + d = M → AWp P N B c Q env (H0 ++ (L.set pk ⟨0, 1, q2i H0.length f M m⟩ ++ q4g f M m)) := by
    intro d
    induction d with
    | zero => intro m hm; obtain rfl : m = M := by omega
              exact h
    | succ d ih =>
      intro m hm
      have hm' : m < M := by omega
      have e0 : (L.set pk (⟨0, 1, q2i H0.length f M m⟩ : AObj) ++ q4g f M m)[pk]? = some ⟨0, 1, q2i H0.length f M m⟩ := by
        rw [List.getElem?_append_left Y1x, List.getElem?_set_self (by omega)]
      have e2 : (L.set pk (⟨0, 1, q2i H0.length f M m⟩ : AObj) ++ q4g f M m)[m + 4]? = some ⟨(f m).length, 1, (f m).map eN1⟩ := by
        rw [List.getElem?_append_right Y1x, List.length_set, hL, Nat.add_sub_cancel]
        simp [q4g, qwl, hm']
      have e3 : (q2i H0.length f M m)[m]? = some [.sl (H0.length + (m + 4)) (f m).length 0 (f m).length (f m).length] := by simp [q2i, qew, hm']
      refine q6v (k := pk) (i := m) (j := 0) (kid := m + 4) (n := H0.length) (ys := (f m).map eN1) pk rfl e0 e3 rfl rfl (by omega) e2 rfl (by rw [List.drop_zero]; exact List.take_of_length_le (by simp)) (by simp) (fun r hr => by
        obtain ⟨x, _, rfl⟩ := List.mem_map.1 hr
        rfl) ?_
      have := ih (m + 1) (by omega)
      have e1 : ((L.set pk (⟨0, 1, q2i H0.length f M m⟩ : AObj) ++ q4g f M m).set (m + 4) ⟨(f m).length + 1, 1, []⟩).set pk { gen := 0, sz := 1, rows := (q2i H0.length f M m).set m ([AV.sl (H0.length + (m + 4)) (f m).length 0 (f m).length (f m).length].set 0 (.pl ((f m).map eN1))) } = L.set pk ⟨0, 1, q2i H0.length f M (m + 1)⟩ ++ q4g f M (m + 1) := by
        rw [List.set_append_right _ _ Y1x, List.length_set, hL, Nat.add_sub_cancel, List.set_append_left _ _ Y1x, List.set_set]
        congr 1
        · congr 2
          exact q45 (by simp [qew]) fun j hj => by
            simp only [qew]
            by_cases e : j < m
            · rw [if_pos e, if_pos (by omega)]
            · rw [if_neg e, if_neg (by omega)]
        · exact q45 (by simp [qwl]) fun j hj => by
            simp only [qwl]
            by_cases e : j < m
            · rw [if_pos e, if_pos (by omega)]
            · rw [if_neg e, if_neg (by omega)]
      rw [e1]
      exact this
  have := key M 0 (by omega)
  have e : L.set pk ⟨0, 1, q2i H0.length f M 0⟩ = L := by
    apply List.ext_getElem?
    intro j
    rw [List.getElem?_set]
    by_cases e : pk = j
    · subst e; rw [if_pos rfl, if_pos (by omega), hk]
    · rw [if_neg e]
  rwa [e] at this
end
section
variable {P : Program} {N : Nat} {B : Base} {ops : Array Oper} {a : Option Nat} {C : qf → Prop} {F : Env → qf → Prop} {Q : q6g}
variable {fuel : Nat} {listed : Array Bool} {env : Env} {H H0 L : qf} {op : Op} {ty : TypeId} {pos : String} {after : Array Edge} {v : AV} {id : Nat} {l : List Oper}
def PreN (p:Nat) (o:AObj) (p2:Nat) (o2:AObj) (n:Nat) (L0 H:qf):Prop:=∃ M G,H=M++(L0++G)∧M.length=n∧M[p]?=some o∧M[p2]?=some o2
theorem qyn (hm:P.follows .mixedOrders=true) (a:Option Nat) (k:Nat) {p p2:Nat} {o o2:AObj} (hp:H0[p]?=some o) (hp2:H0[p2]?=some o2) (h:AAny P N B l.toArray a (PreN p o p2 o2 H0.length (L.take k)) (Q .nrm) l.length (Array.replicate l.length false) env (H0++L)):AWp P N B (.region id l.toArray true) Q env (H0++L):=qhi hm a _ h
theorem qmh {d p p2 n:Nat} {o o2:AObj} {L0:qf} (i:Nat) (hi:ops[i]?=some ⟨some d,op,ty,pos,after,none⟩) (hB:q6m ops listed a i=true) (hd:DN d N) (h1:∀ M G,M.length=n→M[p]?=some o→M[p2]?=some o2→V1 P N op ty (renv ⟨some d,op,ty,pos,after,none⟩ env) (M++(L0++G)) v)
  (h:AAny P N B ops a (PreN p o p2 o2 n L0) F fuel (listed.setIfInBounds i true) ((d,v) :: env) H):AAny P N B ops a (PreN p o p2 o2 n L0) F (fuel+1) listed env H :=
 aq1 i hi hB hd (by rintro _ ⟨M,G,rfl,hn,hp,hp2⟩;exact h1 M G hn hp hp2) h
end
end Go.Av
namespace Go.Av
def q2n (g:List Thing) (l:List Int):List (List AV):=(List.range g.length).map fun m=>[AV.bool (inl l m)]
theorem qgi (g:List Thing):q2n g []=List.replicate g.length [AV.bool false]:=by
 apply List.ext_getElem?
 intro j
 by_cases h:j<g.length
 ·simp [q2n,h,q11f]
 ·rw [List.getElem?_eq_none (by simp [q2n];omega),List.getElem?_eq_none Y1x]
theorem q7f {g:List Thing} {l:List Int} {m:Nat} (h:m<g.length):(q2n g l)[m]?=some [AV.bool (inl l m)]:=by simp [q2n,h]
theorem qgr (g:List Thing) (l:List Int):(q2n g l).length=g.length:=by simp [q2n]
theorem qht {l:List Int} {k:Nat} {x:Int} (hx:l[k]?=some x) (n:Nat):inl (l.take (k+1)) n=(inl (l.take k) n||x == (n:Int)):=by
 rw [inl,List.take_add_one,hx,List.any_append];simp [inl]
theorem qgw {g:List Thing} {l:List Int} {k m:Nat} (hx:l[k]?=some (m:Int)):(q2n g (l.take k)).set m [AV.bool true]=q2n g (l.take (k+1)):=by
 refine q45 (f:=fun j=>[AV.bool (inl (l.take k) j)]) (g:=fun j=>[AV.bool (inl (l.take (k+1)) j)]) ?_ ?_
 ·simp [qht hx]
 ·intro j hj
  have:((m:Int) == (j:Int))=false:=by simp;omega
  simp [qht hx,this]
theorem qe7 {g:List Thing} {l:List Int} {k:Nat} {x:Int} (hx:l[k]?=some x) (h:(g.length:Int)≤x):q2n g (l.take (k+1))=q2n g (l.take k):=by
 refine List.map_congr_left fun j hj=>?_
 rw [List.mem_range] at hj
 have:(x == (j:Int))=false:=by simp;omega
 rw [qht hx,this,Bool.or_false]
def q3e (g:List Thing) (i m:Nat):List Int:=idx (fun j=>decide (2<q4f g j)&&decide (qmr g j=(m:Int))) i
theorem qxs (g:List Thing) (m:Nat):q3e g g.length m=q6h g m:=rfl
theorem qwe (g:List Thing) (m:Nat):q3e g 0 m=[]:=rfl
theorem qtx (g:List Thing) (i m:Nat):(q3e g i m).length≤i:=qa7 _ _
theorem qpa {g:List Thing} {i u:Nat} {t:Thing} (ht:g[i]?=some t) (hk:2<t.kind) (hu:t.up=(u:Int)):q3e g (i+1) u=q3e g i u++[(i:Int)]:=by
 rw [q3e,qaf,q4f,qmr,ht]
 simp only [hu,decide_true,hk,Bool.and_self,if_true]
 rfl
theorem qo1 {g:List Thing} {i u m:Nat} {t:Thing} (ht:g[i]?=some t) (hu:t.up=(u:Int)) (hm:m≠u):q3e g (i+1) m=q3e g i m:=by
 rw [q3e,qaf,q4f,qmr,ht]
 have:decide (t.up=(m:Int))=false:=by rw [hu,decide_eq_false_iff_not];omega
 simp only [this,Bool.and_false,Bool.false_eq_true,if_false,List.append_nil]
 rfl
theorem q10l {g:List Thing} {i m:Nat} {t:Thing} (ht:g[i]?=some t) (hk:¬ 2<t.kind):q3e g (i+1) m=q3e g i m:=by
 rw [q3e,qaf,q4f,qmr,ht]
 simp only [hk,decide_false,Bool.false_and,Bool.false_eq_true,if_false,List.append_nil]
 rfl
theorem qvn (n:Nat) (g:List Thing):gk n g.length g.length=q2i n (q3e g 0) g.length 0:=by
 refine List.map_congr_left fun j hj=>?_
 rw [List.mem_range] at hj
 rw [if_pos hj,qew,if_neg (Nat.not_lt_zero _)]
 rfl
theorem qoc (g:List Thing):List.replicate g.length (⟨0,1,[]⟩:AObj)=q4g (q3e g 0) g.length 0:=by
 apply List.ext_getElem?
 intro j
 by_cases h:j<g.length
 ·simp [q4g,qwl,h,qwe]
 ·rw [List.getElem?_eq_none Y1x,List.getElem?_eq_none (by simp [q4g];omega)]
def qrp (g:List Thing):List (List AV):=(List.range g.length).map fun m=>[.pl ((q6h g m).map eN1)]
theorem qh1 (n:Nat) (g:List Thing):q2i n (q3e g g.length) g.length g.length=qrp g:=by
 refine List.map_congr_left fun j hj=>?_
 rw [List.mem_range] at hj
 rw [qew,if_pos hj,qxs]
theorem qnt {g:List Thing} {m:Nat} (h:m<g.length):(qrp g)[m]?=some [.pl ((q6h g m).map eN1)]:=by simp [qrp,h]
theorem qo6 (g:List Thing):(qrp g).length=g.length:=by simp [qrp]
theorem qgg {n M u:Nat} (f:Nat→List Int) (h:u<M):(q2i n f M 0)[u]?=some [.sl (n+(u+4)) (f u).length 0 (f u).length (f u).length]:=by simp [q2i,qew,h]
theorem qji {M u:Nat} (f:Nat→List Int) (h:u<M):(q4g f M 0)[u]?=some ⟨(f u).length,1,(f u).map eN1⟩:=by simp [q4g,qwl,h]
theorem qga {n:Nat} {g:List Thing} {i u:Nat} {t:Thing} (ht:g[i]?=some t) (hk:2<t.kind) (hu:t.up=(u:Int)):(q2i n (q3e g i) g.length 0).set u [.sl (n+(u+4)) ((q3e g i u).length+1) 0 ((q3e g i u).length+1) ((q3e g i u).length+1)]=q2i n (q3e g (i+1)) g.length 0:=by
 refine q45 ?_ fun j hj=>?_
 ·rw [qew,if_neg (Nat.not_lt_zero _),qpa ht hk hu,List.length_append];rfl
 ·rw [qew,qew,if_neg (Nat.not_lt_zero _),if_neg (Nat.not_lt_zero _),qo1 ht hu hj]
theorem qj4 {g:List Thing} {i u:Nat} {t:Thing} (ht:g[i]?=some t) (hk:2<t.kind) (hu:t.up=(u:Int)):(q4g (q3e g i) g.length 0).set u ⟨(q3e g i u).length+1,1,((q3e g i u).map eN1).take (q3e g i u).length++[[.int .i64 (i:Int)]]⟩=q4g (q3e g (i+1)) g.length 0:=by
 refine q45 ?_ fun j hj=>?_
 ·rw [qwl,if_neg (Nat.not_lt_zero _),qpa ht hk hu,List.length_append,List.map_append,List.take_of_length_le (by simp)];rfl
 ·rw [qwl,qwl,if_neg (Nat.not_lt_zero _),if_neg (Nat.not_lt_zero _),qo1 ht hu hj]
theorem qjc {n:Nat} {g:List Thing} {i:Nat} {t:Thing} (ht:g[i]?=some t) (hk:¬ 2<t.kind):q2i n (q3e g (i+1)) g.length 0=q2i n (q3e g i) g.length 0∧q4g (q3e g (i+1)) g.length 0=q4g (q3e g i) g.length 0:=by
 have:q3e g (i+1)=q3e g i:=funext fun m=>q10l ht hk
 rw [this]
 exact ⟨rfl,rfl⟩
theorem qgl {g:List Thing} (hg:q2g g=true) {i:Nat} {t:Thing} (ht:g[i]?=some t) (hk:2<t.kind):∃ u:Nat,t.up=(u:Int)∧u<i:=by
 have hl:=q32 hg
 have hb:=hg
 rw [q13e (by omega) hl.2] at hb
 have:=q5b hb (List.getElem?_eq_some_iff.1 ht).1
 rcases Nat.eq_zero_or_pos i with rfl | h0
 ·rw [qxt ht] at this
  simp only [Bool.and_eq_true,decide_eq_true_eq] at this
  omega
 ·rw [q127 ht h0] at this
  simp only [Bool.and_eq_true,decide_eq_true_eq] at this
  exact ⟨t.up.toNat,by omega,by omega⟩
theorem q65 (n:Nat) (g:List Thing) (l:List Int):∀ r∈q2n g l,AV.bels n r=true:=by
 intro r hr
 obtain ⟨m,_,rfl⟩:=List.mem_map.1 hr
 rfl
theorem qp9 (n:Nat) (g:List Thing):∀ r∈qrp g,AV.bels n r=true:=by
 intro r hr
 obtain ⟨m,_,rfl⟩:=List.mem_map.1 hr
 rfl
def q8g (g:List Thing) (free:List Int) (kind most:Int) (l:List Int):List Int:=(l.filter fun n=>inl free n.toNat&&decide (q4f g n.toNat=kind)).take most.toNat
theorem quc (g:List Thing) (free:List Int) (node:Nat) (kind most:Int):q8s g free node kind most=q8g g free kind most (q6h g node):=rfl
theorem qr0 {g:List Thing} {free:List Int} {kind most:Int} {l:List Int} {k:Nat} {x:Int} (hx:l[k]?=some x):q8g g free kind most (l.take (k+1))=if (decide (((q8g g free kind most (l.take k)).length:Int)<most)&&(inl free x.toNat&&decide (q4f g x.toNat=kind)))=true then q8g g free kind most (l.take k)++[x] else q8g g free kind most (l.take k):=by
 unfold q8g
 rw [List.take_add_one,hx,List.filter_append]
 cases h:(inl free x.toNat&&decide (q4f g x.toNat=kind)) with
 | false=>simp [h]
 | true =>
  simp only [Option.toList_some,List.filter_cons,h,if_true,List.filter_nil,Bool.and_true,decide_eq_true_eq]
  generalize (l.take k).filter (fun n=>inl free n.toNat&&decide (q4f g n.toNat=kind))=a
  by_cases hl:a.length<most.toNat
  ·rw [List.take_of_length_le Y1x,List.take_of_length_le (by omega),if_pos (by omega)]
  ·rw [List.take_append_of_le_length (by omega),if_neg Y17]
theorem qoh (g:List Thing) (free:List Int) (kind most:Int) (l:List Int):(q8g g free kind most l).length≤l.length:=by
 unfold q8g
 exact ((List.take_sublist _ _).trans List.filter_sublist).length_le
theorem qbc {g:List Thing} (hg:q2g g=true) (node:Nat):(q6h g node).length≤256:=Nat.le_trans (qa7 _ _) (q32 hg).2
theorem qon {g:List Thing} {node:Nat} {x:Int} (hx:x∈q6h g node):∃ k:Nat,x=(k:Int)∧k<g.length:=by
 obtain ⟨k,h1,h2,_⟩:=mkids_mem.1 hx
 exact ⟨k,h1,h2⟩
theorem qou {g:List Thing} (hg:q2g g=true) (free:List Int) (node:Nat) (kind most:Int):(q8s g free node kind most).length≤256:=Nat.le_trans (qoh _ _ _ _ _) (qbc hg node)
theorem qxh {g:List Thing} (hg:q2g g=true) (free:List Int) (s:Spec) (node:Nat):(qbj g free s node).1.length≤257:=by
 have h1:=qbc hg node
 have h2:(qff (q8s g free node 3 s.cores) (q8s g free node 4 s.gpus)).length≤256:=qap _ _ _
 unfold qbj
 (repeat' split)<;>simp<;>omega
theorem qf0 {g:List Thing} (free:List Int) (s:Spec):∀ k,(q2j g free s k).1.length≤256
 | 0=>by simp [q2j]
 | k+1=>by
  have h:=qf0 free s k (g:=g)
  rw [q2j]
  split
  ·exact qap _ _ _
  ·exact h
theorem qfd {g:List Thing} (free:List Int) (s:Spec):∀ k:Nat,s.nodes-(k:Int)≤(q2j g free s k).2∧(q2j g free s k).2≤s.nodes
 | 0=>by simp [q2j]
 | k+1=>by
  have h:=qfd free s k (g:=g)
  rw [q2j]
  split
  ·simp only;omega
  ·omega
theorem qdu {g:List Thing} {free:List Int} {s:Spec} {k:Nat} (h:¬ 0<(q2j g free s k).2):∀ d,q2j g free s (k+d)=q2j g free s k
 | 0=>rfl
 | d+1=>by
  have:=qdu h d
  rw [← Nat.add_assoc,q2j,this,if_neg (fun e=>h e.1)]
theorem qb0 (l:List Job):∀ k,(qdy l k).length=k
 | 0=>rfl
 | k+1=>by rw [qdy,List.length_append,qb0 l k];rfl
theorem qeu (l:List Job) {j k:Nat} (hj:j<k):∀ m,k≤m→(qdy l m).getD j false=(qdy l k).getD j false
 | 0,e=>by omega
 | m+1,e=>by
  rcases Nat.lt_or_eq_of_le e with h1 | h1
  ·rw [qdy,List.getD_eq_getElem?_getD,List.getElem?_append_left (by rw [qb0];omega),← List.getD_eq_getElem?_getD]
   exact qeu l hj m (by omega)
  ·rw [h1]
def q5d (l:List Job) (j:Nat):Bool:=(qdy l l.length).getD j false
def qm0 (l:List Job) (j:Nat):Bool:=q5d l j||(q5h (q37 l j).state&&decide ((q37 l j).state≠3))
theorem q8k {l:List Job} (hr:q2v l=true) {k:Nat} {j:Job} (hj:l[k]?=some j) {n:Int} (hn:n∈j.needs):q1g l n<k∧q2u l n=true:=by
 obtain ⟨_,_,h3,_,h5⟩:=jobs_iff.1 hr
 have:=h5 k j hj n hn
 rw [← List.map_take] at this
 obtain ⟨x,hx,rfl⟩:=List.mem_map.1 this
 obtain ⟨i,hi⟩:=List.mem_iff_getElem?.1 hx
 rw [List.getElem?_take] at hi
 split at hi
 ·rename_i hik
  have:q1g l x.id=i:=q5q (f:=Job.id) h3 hi
  rw [this]
  exact ⟨hik,(q54 h3).2 ⟨x,List.mem_of_getElem? hi,rfl⟩⟩
 ·cases hi
theorem qux {l:List Job} (hr:q2v l=true) {k:Nat} {j:Job} (hj:l[k]?=some j):q5d l k=(decide (j.state≤1)&&!(j.needs.all fun n=>!qm0 l (q1g l n))):=by
 have hk:=(List.getElem?_eq_some_iff.1 hj).1
 rw [q5d,qeu l (Nat.lt_succ_self k) l.length (by omega),qdy,List.getD_eq_getElem?_getD,List.getElem?_append_right (by rw [qb0];exact Nat.le_refl _),qb0,Nat.sub_self,q1z hj]
 simp only [List.getElem?_cons_zero,Option.getD_some]
 congr 1
 rw [List.not_all_eq_any_not]
 have e:∀ n∈j.needs,((qdy l k).getD (q1g l n) false||(q5h (q37 l (q1g l n)).state&&decide ((q37 l (q1g l n)).state≠3)))=(!!qm0 l (q1g l n)):=by
  intro n hn
  have:=(q8k hr hj hn).1
  rw [Bool.not_not,qm0,q5d,qeu l this l.length (by omega)]
 clear hr hj
 generalize j.needs=ns at e
 induction ns with
 | nil=>rfl
 | cons x ns ih=>rw [List.any_cons,List.any_cons,e x List.mem_cons_self,ih fun n hn=>e n (List.mem_cons_of_mem _ hn)]
def q42 (l:List Job) (i:Nat):List Int:=((l.take i).zipIdx.filter fun p=>q5d l p.2).map (·.1.id)
theorem qes (l:List Job):q2v l=true→q43 l=q42 l l.length:=by
 intro h
 rw [q43,if_pos h,q42,List.take_length]
 rfl
theorem qka {l:List Job} {i:Nat} {j:Job} (hj:l[i]?=some j):q42 l (i+1)=if q5d l i then q42 l i++[j.id] else q42 l i:=by
 have hi:=(List.getElem?_eq_some_iff.1 hj).1
 unfold q42
 rw [List.take_add_one,hj,List.zipIdx_append,List.filter_append,List.map_append]
 have:(l.take i).length=i:=by rw [List.length_take];omega
 simp only [Option.toList_some,List.zipIdx_cons,List.zipIdx_nil,Nat.zero_add,this]
 cases h:q5d l i<;>simp [h]
theorem qgn (l:List Job) (i:Nat):(q42 l i).length≤i:=by
 unfold q42
 rw [List.length_map]
 refine Nat.le_trans (List.length_filter_le _ _) ?_
 rw [List.length_zipIdx,List.length_take]
 omega
def q3p (l:List Job) (i:Nat):List (List AV):=(List.range l.length).map fun j=>[AV.bool (decide (j<i)&&q5d l j)]
theorem qhp (l:List Job):q3p l 0=List.replicate l.length [AV.bool false]:=by
 apply List.ext_getElem?
 intro j
 by_cases h:j<l.length
 ·simp [q3p,h]
 ·rw [List.getElem?_eq_none (by simp [q3p];omega),List.getElem?_eq_none Y1x]
theorem qd0 {l:List Job} {i j:Nat} (h:j<l.length):(q3p l i)[j]?=some [AV.bool (decide (j<i)&&q5d l j)]:=by simp [q3p,h]
theorem ql5 {l:List Job} {i:Nat} (h:q5d l i=true):(q3p l i).set i [AV.bool true]=q3p l (i+1):=by
 refine q45 (f:=fun j=>[AV.bool (decide (j<i)&&q5d l j)]) (g:=fun j=>[AV.bool (decide (j<i+1)&&q5d l j)]) (by simp [h]) fun j hj=>?_
 have:decide (j<i+1)=decide (j<i):=by rw [decide_eq_decide];omega
 simp only [this]
theorem qix {l:List Job} {i:Nat} (h:q5d l i=false):q3p l (i+1)=q3p l i:=by
 refine List.map_congr_left fun j _=>?_
 by_cases e:j=i
 ·subst e;simp [h]
 ·have:decide (j<i+1)=decide (j<i):=by rw [decide_eq_decide];omega
  simp only [this]
theorem qcq (n:Nat) (l:List Job) (i:Nat):∀ r∈q3p l i,AV.bels n r=true:=by
 intro r hr
 obtain ⟨j,_,rfl⟩:=List.mem_map.1 hr
 rfl
def qk2 (x:Job):List Job→List Job
 | []=>[x]
 | a :: A=>if a.spec.prio<x.spec.prio then x :: a :: A else a :: qk2 x A
theorem qk5 (j x:Job):∀ A:List Job,byPrio.insP j (qk2 x A)=qk2 x (byPrio.insP j A)
 | []=>by
  simp only [qk2,byPrio.insP]
  by_cases h:x.spec.prio≤j.spec.prio
  ·rw [if_pos h,if_neg (by omega)]
  ·rw [if_neg h,if_pos (by omega)]
 | a :: A=>by
  have ih:=qk5 j x A
  by_cases h1:a.spec.prio<x.spec.prio
  ·rw [qk2,if_pos h1,byPrio.insP]
   by_cases h2:a.spec.prio≤j.spec.prio
   ·rw [byPrio.insP,if_pos h2,qk2]
    by_cases h3:x.spec.prio≤j.spec.prio
    ·rw [if_pos h3,if_neg (by omega),qk2,if_pos h1]
    ·rw [if_neg h3,if_pos (by omega)]
   ·rw [if_neg (by omega),byPrio.insP,if_neg h2,qk2,if_pos h1]
  ·rw [qk2,if_neg h1,byPrio.insP]
   by_cases h2:a.spec.prio≤j.spec.prio
   ·rw [if_pos h2,byPrio.insP,if_pos h2,qk2,if_neg (by omega),qk2,if_neg h1]
   ·rw [if_neg h2,byPrio.insP,if_neg h2,qk2,if_neg h1,ih]
theorem qeq (x:Job):∀ l:List Job,byPrio (l++[x])=qk2 x (byPrio l)
 | []=>rfl
 | j :: l=>by rw [List.cons_append,byPrio,qeq x l,qk5,byPrio]
theorem insP_mem {j y:Job}:∀ {l:List Job},y∈byPrio.insP j l↔y=j∨y∈l
 | []=>by simp [byPrio.insP]
 | a :: l=>by
  rw [byPrio.insP]
  split
  ·simp
  ·rw [List.mem_cons,insP_mem,List.mem_cons]
   constructor
   ·rintro (h | h | h)
    ·exact .inr (.inl h)
    ·exact .inl h
    ·exact .inr (.inr h)
   ·rintro (h | h | h)
    ·exact .inr (.inl h)
    ·exact .inl h
    ·exact .inr (.inr h)
theorem byPrio_mem {y:Job}:∀ {l:List Job},y∈byPrio l↔y∈l
 | []=>by simp [byPrio]
 | j :: l=>by rw [byPrio,insP_mem,byPrio_mem,List.mem_cons]
theorem qox (j:Job):∀ l:List Job,(byPrio.insP j l).length=l.length+1
 | []=>rfl
 | a :: l=>by
  rw [byPrio.insP]
  split
  ·rfl
  ·rw [List.length_cons,qox j l];rfl
theorem q24:∀ l:List Job,(byPrio l).length=l.length
 | []=>rfl
 | j :: l=>by rw [byPrio,qox,q24 l];rfl
theorem qei (j:Job):∀ {l:List Job},l.Pairwise (fun a b=>b.spec.prio≤a.spec.prio)→(byPrio.insP j l).Pairwise (fun a b=>b.spec.prio≤a.spec.prio)
 | [],_=>List.pairwise_singleton _ _
 | a :: l,h=>by
  rw [byPrio.insP]
  rw [List.pairwise_cons] at h
  split
  ·rename_i h1
   refine List.pairwise_cons.2 ⟨fun y hy=>?_,List.pairwise_cons.2 h⟩
   rcases List.mem_cons.1 hy with rfl | hy
   ·exact h1
   ·have:=h.1 y hy;omega
  ·rename_i h1
   refine List.pairwise_cons.2 ⟨fun y hy=>?_,qei j h.2⟩
   rcases insP_mem.1 hy with rfl | hy
   ·omega
   ·exact h.1 y hy
theorem q1v:∀ l:List Job,(byPrio l).Pairwise (fun a b=>b.spec.prio≤a.spec.prio)
 | []=>List.Pairwise.nil
 | j :: l=>by rw [byPrio];exact qei j (q1v l)
theorem qru {x:Job}:∀ {A:List Job} {j:Nat},(∀ a∈A.take j,x.spec.prio≤a.spec.prio)→(∀ a∈A.drop j,a.spec.prio<x.spec.prio)→qk2 x A=A.take j++x :: A.drop j
 | [],j,_,_=>by simp [qk2]
 | a :: A,0,_,h2=>by
  rw [qk2,if_pos (h2 a (by simp))];rfl
 | a :: A,j+1,h1,h2=>by
  have ha:=h1 a (by simp)
  rw [qk2,if_neg (by omega),qru (j:=j) (fun b hb=>h1 b (by simp [hb])) (fun b hb=>h2 b Y1r)]
  rfl
theorem qhz (t:Int):∀ (l:List Int) (x:Int),x∈qri t l↔x=t∨x∈l
 | [],x=>by simp [qri]
 | y :: l,x=>by
  unfold qri
  split
  ·simp
  ·split
   ·rename_i h1 h2
    subst h2
    simp
   ·rw [List.mem_cons,qhz t l x,List.mem_cons]
    grind
theorem qf9 (t:Int):∀ (l:List Int),l.Pairwise (· < ·)→(qri t l).Pairwise (· < ·)
 | [],_=>by simp [qri]
 | y :: l,h=>by
  have h':=List.pairwise_cons.1 h
  unfold qri
  split
  ·rename_i h1
   exact List.pairwise_cons.2 ⟨fun x hx=>by
    rcases List.mem_cons.1 hx with rfl | hx
    ·exact h1
    ·exact Int.lt_trans h1 (h'.1 x hx),h⟩
  ·split
   ·exact h
   ·rename_i h1 h2
    refine List.pairwise_cons.2 ⟨fun x hx=>?_,qf9 t l h'.2⟩
    rcases (qhz t l x).1 hx with rfl | hx
    ·omega
    ·exact h'.1 x hx
theorem qk6:∀ (l:List Int) (x:Int),x∈qc0 l↔x∈l
 | [],x=>by simp [qc0]
 | y :: l,x=>by
  show x∈qri y (qc0 l)↔_
  rw [qhz,qk6 l x,List.mem_cons]
theorem qco:∀ (l:List Int),(qc0 l).Pairwise (· < ·)
 | []=>by simp [qc0]
 | y :: l=>qf9 y _ (qco l)
theorem qo2 (t:Int):∀ (l:List Int),(qri t l).length≤l.length+1
 | []=>by simp [qri]
 | y :: l=>by
  unfold qri
  split
  ·simp
  ·split
   ·simp
   ·have:=qo2 t l
    simp
    omega
theorem qfa:∀ (l:List Int),(qc0 l).length≤l.length
 | []=>by simp [qc0]
 | y :: l=>by
  show (qri y (qc0 l)).length≤_
  have:=qo2 y (qc0 l)
  have:=qfa l
  simp
  omega
theorem q87 (d:Array Int) (hs:∀ i j,i<j→j<d.size→d[i]!≤d[j]!):∀ m,m≤d.size→(Lib.compactUpTo d m).Pairwise (· < ·)∧(∀ x,x∈Lib.compactUpTo d m↔∃ j,j<m∧d[j]! = x)
 | 0,_=>by simp [Lib.compactUpTo]
 | m+1,hm=>by
  obtain ⟨h1,h2⟩:=q87 d hs m (by omega)
  rw [Lib.compactUpTo_succ]
  by_cases hk:Lib.keeps d m=true
  ·rw [if_pos hk]
   have hlt:∀ x,x∈Lib.compactUpTo d m→x<d[m]!:=by
    intro x hx
    obtain ⟨j,hj,rfl⟩:=(h2 x).1 hx
    simp only [Lib.keeps,decide_eq_true_eq] at hk
    rcases hk with rfl | hk
    ·omega
    ·have a1:d[j]!≤d[m-1]!:=by
      rcases Nat.lt_or_ge j (m-1) with h | h
      ·exact hs j (m-1) h (by omega)
      ·have:j=m-1:=by omega
       rw [this];exact Int.le_refl _
     have a2:=hs (m-1) m (by omega) (by omega)
     omega
   refine ⟨List.pairwise_append.2 ⟨h1,by simp,fun a ha b hb=>?_⟩,fun x=>?_⟩
   ·simp only [List.mem_singleton] at hb
    subst hb
    exact hlt a ha
   ·rw [List.mem_append,h2,List.mem_singleton]
    constructor
    ·rintro (⟨j,hj,e⟩ | rfl)
     ·exact ⟨j,by omega,e⟩
     ·exact ⟨m,by omega,rfl⟩
    ·rintro ⟨j,hj,e⟩
     rcases Nat.lt_or_ge j m with h | h
     ·exact .inl ⟨j,h,e⟩
     ·have:j=m:=by omega
      subst this
      exact .inr e.symm
  ·rw [if_neg hk,List.append_nil]
   refine ⟨h1,fun x=>?_⟩
   rw [h2]
   constructor
   ·rintro ⟨j,hj,e⟩
    exact ⟨j,by omega,e⟩
   ·rintro ⟨j,hj,e⟩
    rcases Nat.lt_or_ge j m with h | h
    ·exact ⟨j,h,e⟩
    ·have:j=m:=by omega
     subst this
     simp only [Lib.keeps,decide_eq_true_eq,not_or,Decidable.not_not] at hk
     exact ⟨j-1,by omega,by rw [← hk.2];exact e⟩
theorem qnq (zs:List Int):(Lib.compact zs).length≤zs.length:=by
 unfold Lib.compact Lib.compactUpTo
 rw [List.length_map]
 exact Nat.le_trans (List.length_filter_le _ _) (by simp)
theorem qjz (l:List Int):Lib.compact (l.mergeSort fun x y=>decide (x≤y))=qc0 l:=by
 have hp:(l.mergeSort fun x y=>decide (x≤y)).Pairwise (fun a b=>decide (a≤b)=true):=List.pairwise_mergeSort (fun a b c h1 h2=>by simp only [decide_eq_true_eq] at *;omega) (fun a b=>by simp only [Bool.or_eq_true,decide_eq_true_eq];omega) l
 have hm:∀ x,x∈(l.mergeSort fun x y=>decide (x≤y))↔x∈l:=fun x=>List.mem_mergeSort
 generalize (l.mergeSort fun x y=>decide (x≤y))=z at *
 have hs:∀ i j,i<j→j<z.toArray.size→z.toArray[i]!≤z.toArray[j]!:=by
  intro i j hij hj
  have hj':j<z.length:=by simpa using hj
  have:=List.pairwise_iff_getElem.1 hp i j (by omega) hj' hij
  simp only [decide_eq_true_eq] at this
  simp [hj',show i<z.length by omega]
  exact this
 obtain ⟨h1,h2⟩:=q87 z.toArray hs z.length (by simp)
 refine qc6 h1 (qco l) fun x=>?_
 unfold Lib.compact
 rw [h2,qk6,← hm,List.mem_iff_getElem]
 constructor
 ·rintro ⟨j,hj,e⟩
  exact ⟨j,hj,by simpa [hj] using e⟩
 ·rintro ⟨j,hj,e⟩
  exact ⟨j,hj,by simpa [hj] using e⟩
def JW (l:List Job):Prop:=l.length≤1000000∧∀ j∈l,j.needs.length≤1000000
structure RI (w : Inst) : Prop where
 iw:IW w
 jw:JW w.jobs
theorem JW.do {l:List Job} (h:JW l) (id what at_:Int):JW (q2y l id what at_).1:=by
 unfold q2y
 split
 ·exact h
 ·split
  ·exact h
  ·refine ⟨by rw [List.length_set];exact h.1,fun j hj=>?_⟩
   rcases List.mem_or_eq_of_mem_set hj with hj | rfl
   ·exact h.2 j hj
   ·rw [(qob _ _ _).2.2.1]
    unfold q37
    rw [List.getD_eq_getElem?_getD]
    cases e:l[q1g l id]? with
    | none=>simp [job0]
    | some x=>exact h.2 x (List.mem_of_getElem? e)
theorem HW.drop {l:List Held} (h:HW l) (id:Int):HW (q1o l id).1:=by
 unfold q1o
 split
 ·exact h
 ·split
  ·exact h
  ·exact ⟨Nat.le_trans (List.length_eraseIdx_le _ _) h.1,fun x hx=>h.2 x (List.mem_of_mem_eraseIdx hx)⟩
theorem RI.wdo {w:Inst} (h:RI w) (id what at_:Int):RI (wdo w id what at_).1:=by
 have h1:=h.jw.do id what at_
 unfold Av.wdo
 split
 ·exact h
 ·split
  ·exact ⟨⟨h.iw.graph,h.iw.health,h.iw.lease,h1.1,h.iw.table.drop id⟩,h1⟩
  ·exact ⟨⟨h.iw.graph,h.iw.health,h.iw.lease,h1.1,h.iw.table⟩,h1⟩
def brk (w:Inst) (k:Nat):Inst:=(w.table.take k).foldl (fun a h=>if q33 h.things (q7b w.lease (q2p w.graph w.health 1)) then a else (wdo a h.id 5 a.now).1) w
theorem qyb (w:Inst):brk w 0=w:=rfl
theorem qs5 (w:Inst):brk w w.table.length=q3h w:=by rw [brk,List.take_length];rfl
theorem qwz {w:Inst} {k:Nat} {h:Held} (e:w.table[k]?=some h):brk w (k+1)=if q33 h.things (q7b w.lease (q2p w.graph w.health 1)) then brk w k else (wdo (brk w k) h.id 5 (brk w k).now).1:=by
 rw [brk,brk,List.take_add_one,e,List.foldl_append];rfl
theorem RI.foldl {α:Type} {f:Inst→α→Inst} (hf:∀ a x,RI a→RI (f a x)):∀ (l:List α) {w:Inst},RI w→RI (l.foldl f w)
 | [],_,h=>h
 | x :: l,_,h=>RI.foldl hf l (hf _ x h)
theorem RI.brk {w:Inst} (h:RI w) (k:Nat):RI (brk w k):=RI.foldl (fun a x ha=>by split;exact ha;exact ha.wdo _ _ _) _ h
def rfs (w:Inst) (k:Nat):Inst:=(w.jobs.take k).foldl (fun a j=>if decide (j.state≤1)&&((q43 w.jobs).contains j.id||!qkv a.graph j.spec) then (wdo a j.id 7 a.now).1 else a) w
theorem qsr (w:Inst):rfs w w.jobs.length=q4v w:=by rw [rfs,List.take_length];rfl
theorem qxm {w:Inst} {k:Nat} {j:Job} (e:w.jobs[k]?=some j):rfs w (k+1)=if decide (j.state≤1)&&((q43 w.jobs).contains j.id||!qkv (rfs w k).graph j.spec) then (wdo (rfs w k) j.id 7 (rfs w k).now).1 else rfs w k:=by
 rw [rfs,rfs,List.take_add_one,e,List.foldl_append];rfl
theorem RI.rfs {w:Inst} (h:RI w) (k:Nat):RI (rfs w k):=RI.foldl (fun a x ha=>by split;exact ha.wdo _ _ _;exact ha) _ h
theorem RI.broken {w:Inst} (h:RI w):RI (q3h w):=by rw [← qs5];exact h.brk _
theorem RI.refuse {w:Inst} (h:RI w):RI (q4v w):=by rw [← qsr];exact h.rfs _
theorem qgm (l:List Job) (id what at_:Int):(q2y l id what at_).1.length=l.length:=by
 unfold q2y
 split
 ·rfl
 ·split
  ·rfl
  ·exact List.length_set
theorem qde (w:Inst) (id what at_:Int):(wdo w id what at_).1.jobs.length=w.jobs.length:=by
 unfold wdo
 split
 ·rfl
 ·split
  ·exact qgm _ _ _ _
  ·exact qgm _ _ _ _
theorem q99 {α:Type} {f:Inst→α→Inst} (hf:∀ a x,(f a x).jobs.length=a.jobs.length):∀ (l:List α) (w:Inst),(l.foldl f w).jobs.length=w.jobs.length
 | [],_=>rfl
 | x :: l,w=>by rw [List.foldl_cons,q99 hf l,hf]
theorem qkg (w:Inst):(q3h w).jobs.length=w.jobs.length:=q99 (fun a x=>by split;rfl;exact qde _ _ _ _) _ _
theorem qjp (w:Inst):(q4v w).jobs.length=w.jobs.length:=q99 (fun a x=>by split;exact qde _ _ _ _;rfl) _ _
def tck (i:Inst) (now:Int) (k:Nat):Inst:=((q1r i.table now).2.take k).foldl (fun a h=>(wdo a h.id 5 h.tto).1) { i with now:=now }
theorem qst (i:Inst) (now:Int):tck i now (q1r i.table now).2.length=(q1r i.table now).2.foldl (fun a h=>(wdo a h.id 5 h.tto).1) { i with now:=now }:=by rw [tck,List.take_length]
theorem qz2 {i:Inst} {now:Int} {k:Nat} {h:Held} (e:(q1r i.table now).2[k]?=some h):tck i now (k+1)=(wdo (tck i now k) h.id 5 h.tto).1:=by
 rw [tck,tck,List.take_add_one,e,List.foldl_append];rfl
theorem RI.now {i:Inst} (h:RI i) (now:Int):RI { i with now:=now }:=⟨⟨h.iw.graph,h.iw.health,h.iw.lease,h.iw.jobs,h.iw.table⟩,h.jw⟩
theorem RI.tck {i:Inst} (h:RI i) (now:Int) (k:Nat):RI (tck i now k):=RI.foldl (fun a x ha=>ha.wdo _ _ _) _ (h.now now)
theorem qyt (i:Inst) (now:Int) (k:Nat):(tck i now k).jobs.length=i.jobs.length:=q99 (fun a x=>qde _ _ _ _) _ _
theorem qk8 (l:List Held) (now:Int):(q1r l now).2.length≤l.length:=by
 unfold q1r
 split
 ·exact List.length_filter_le _ _
 ·simp
theorem JW.add {l:List Job} (h:JW l) (s:Spec) {needs:List Int} (now:Int) (hn:needs.length≤1000000) (hl:l.length<1000000):JW (q19 l s needs now).1:=by
 have key:∀ id,JW (l++[⟨id,s,needs,0,now,0,0⟩]):=fun id=>⟨by simp;omega,fun j hj=>by
  rcases List.mem_append.1 hj with hj | hj
  ·exact h.2 j hj
  ·simp only [List.mem_singleton] at hj
   subst hj
   exact hn⟩
 unfold q19
 repeat (first | exact h | exact key _ | split)
theorem qnb (l:List Job) (s:Spec) (needs:List Int) (now:Int):(q19 l s needs now).1.length≤l.length+1:=by
 unfold q19
 split
 ·simp
 ·split
  ·simp
  ·split
   ·simp
   ·split
    ·simp
    ·simp
theorem RI.jobs {i:Inst} (h:RI i) {l:List Job} (hl:JW l):RI { i with jobs:=l }:=⟨⟨h.iw.graph,h.iw.health,h.iw.lease,hl.1,h.iw.table⟩,hl⟩
theorem RI.lend {i:Inst} (h:RI i) {l:List Int} (til:Int) (hl:l.length≤1000000):RI { i with lease:=l,til:=til }:=⟨⟨h.iw.graph,h.iw.health,hl,h.iw.jobs,h.iw.table⟩,h.jw⟩
theorem qx7 (g:List Thing) (h:List Int) (n how:Int):(q57 g h n how).1.length=h.length:=by
 unfold q57
 split
 ·rfl
 ·split
  ·rfl
  ·exact List.length_set
theorem RI.mark {i:Inst} (h:RI i) (n how:Int):RI { i with health:=(q57 i.graph i.health n how).1 }:=⟨⟨h.iw.graph,by show (q57 _ _ _ _).1.length≤_;rw [qx7];exact h.iw.health,h.iw.lease,h.iw.jobs,h.iw.table⟩,h.jw⟩
def IDs (l:List Job):Prop:=∀ (k:Nat) (j:Job),l[k]?=some j→j.id=(k:Int)+1
theorem IDs.ev {w v:Inst} (h:IDs w.jobs) (e:Ev w v):IDs v.jobs:=fun k b hb=>by
 have hk:=(List.getElem?_eq_some_iff.1 hb).1
 have hw:k<w.jobs.length:=by rw [← e.len];exact hk
 rw [(e.jobs k _ b (List.getElem?_eq_getElem hw) hb).id]
 exact h k _ (List.getElem?_eq_getElem hw)
theorem IDs.last {l:List Job} (h:IDs l):(q1t l).id=(l.length:Int):=by
 unfold q1t
 split
 ·rename_i e;rw [e];rfl
 ·rename_i e
  have hl:l.length-1<l.length:=by omega
  have hg:l[l.length-1]?=some l[l.length-1]:=List.getElem?_eq_getElem hl
  rw [q1z hg,h _ _ hg]
  omega
theorem qhv (l:List Job) (s:Spec) (needs:List Int) (now:Int):((q19 l s needs now).2.2≠0∧(q19 l s needs now).2.1=0∧(q19 l s needs now).1=l)∨q19 l s needs now=(l++[⟨(q1t l).id+1,s,needs,0,now,0,0⟩],(q1t l).id+1,0):=by
 unfold q19
 split
 ·exact .inl ⟨by simp,rfl,rfl⟩
 ·split
  ·exact .inl ⟨by simp,rfl,rfl⟩
  ·split
   ·exact .inl ⟨by simp,rfl,rfl⟩
   ·split
    ·exact .inl ⟨by simp,rfl,rfl⟩
    ·exact .inr rfl
theorem IDs.add {l:List Job} (h:IDs l) (s:Spec) (needs:List Int) (now:Int):IDs (q19 l s needs now).1:=by
 rcases qhv l s needs now with ⟨_,_,e⟩ | e
 ·rw [e];exact h
 ·rw [e]
  intro k j hj
  simp only at hj
  by_cases hk:k<l.length
  ·rw [List.getElem?_append_left hk] at hj
   exact h k j hj
  ·rw [List.getElem?_append_right (by omega)] at hj
   have:k-l.length=0:=by
    have:=(List.getElem?_eq_some_iff.1 hj).1
    simpa using this
   rw [this] at hj
   cases hj
   show (q1t l).id+1=_
   rw [h.last]
   omega
structure LT (i n : Inst) (kind id f : Int) : Prop where
 now:n.now=i.now∨kind=2
 lease:(n.lease=i.lease∧n.til=i.til)∨kind=3
 health:n.health=i.health∨kind=4
 policy:n.policy=i.policy
 depth:n.depth=i.depth
 graph:n.graph=i.graph
 came:(kind<1∨4<kind)→(f=0↔n.jobs.length=i.jobs.length+1)
 id:id≠0→id=(n.jobs.length:Int)
 ids:IDs n.jobs
 pos:0≤n.now
theorem LT.same {i:Inst} (h:IDs i.jobs) (hp:0≤i.now) (kind:Int) {f:Int} (hf:f≠0):LT i i kind 0 f:=⟨.inl rfl,.inl ⟨rfl,rfl⟩,.inl rfl,rfl,rfl,rfl,fun _=>⟨fun e=>absurd e hf,fun e=>by omega⟩,fun e=>absurd rfl e,h,hp⟩
theorem Ev.LT {i n:Inst} (e:Ev i n) (h:IDs i.jobs) (hp:0≤i.now) {kind:Int} (hk:¬ (kind<1∨4<kind)):LT i n kind 0 0:=⟨.inl e.now,.inl ⟨e.lease,e.til⟩,.inl e.health,e.policy,e.depth,e.graph,fun k=>absurd k hk,fun x=>absurd rfl x,h.ev e,by rw [e.now];exact hp⟩
structure GJ (w : Inst) : Prop where
 ir:IR w
 long:∀ j∈w.jobs,(j.state=3∨j.state=4)→j.tto-j.frm≤j.spec.long
 past:∀ j∈w.jobs,3≤j.state→j.tto≤w.now
 needs:∀ j∈w.jobs,(j.state=2∨j.state=3∨j.state=4)→∀ n∈j.needs,∃ y∈w.jobs,y.id=n∧y.state=3∧y.tto≤j.frm
theorem qmd {j:Job} (h:q28 j=true):q1c j.spec=true:=by simp only [q28,Bool.and_eq_true] at h;exact h.1.1.1.2
theorem qhe {j:Job} (h:q28 j=true) (h2:2≤j.state∧j.state≤4):tm j.frm=true∧j.came≤j.frm∧0≤j.came:=by
 have h5:tm j.came=true:=by simp only [q28,Bool.and_eq_true] at h;exact h.1.2
 have ht:q4q j=true:=by simp only [q28,Bool.and_eq_true] at h;exact h.2
 have hb:qat j=true:=by
  unfold q4q at ht
  rw [if_neg (by omega)] at ht
  split at ht
  ·rw [Bool.and_eq_true] at ht;exact ht.1
  ·rw [if_pos (by omega),Bool.and_eq_true] at ht;exact ht.1
 rw [qat,Bool.and_eq_true,decide_eq_true_eq] at hb
 exact ⟨hb.1,hb.2,(tm_iff.1 h5).1⟩
theorem qx0 {s:Spec} {t:Int} (hs:q1c s=true) (ht:tm t=true):q21 s t≤t+s.long∧t≤q21 s t:=by
 have:=q4s hs
 have:=tm_iff.1 ht
 unfold q21
 rw [hs,if_pos rfl]
 unfold plus qzy
 omega
theorem GJ.wdo {w:Inst} (h:GJ w) {id what at_:Int} (h3:what≠3) (hn:at_≤w.now) (ht:∀ x∈w.table,x.id=id→at_≤x.tto):GJ (wdo w id what at_).1:=by
 have hir:=q100 h.ir h3 (id:=id) (at_:=at_)
 rcases q6b h.ir.jobs id what at_ with ⟨e,_⟩ | ⟨j,hj,rfl,s,hb,hs,e1,e⟩
 ·rw [e];exact h
 ·have hm:=(qhj h.ir.jobs hj e1 hb hs).2
  have hjr:=(jobs_iff.1 h.ir.jobs).2.1 j hj
  have hf:=qck hs
  have hin:=qhh (q8l hjr).1 hs
  rw [e] at hir ⊢
  have hs2:s≠2:=by rintro rfl;exact h3 (qjb hs).1
  refine ⟨hir,?_,?_,?_⟩
  ·intro y hy hst
   rcases (hm y).1 hy with rfl | ⟨hy,_⟩
   ·have hst:s=3∨s=4:=hst
    have hj2:j.state=2:=by rcases hst with e | e<;>omega
    obtain ⟨x,hx,hid,hfr,hto,_⟩:=h.ir.run j hj hj2
    have h1:=ht x hx hid
    have h2:=qx0 (qmd hjr) (qhe hjr (by omega)).1
    show (if q5h s then at_ else j.tto)-(if s=2 then at_ else j.frm)≤j.spec.long
    rw [if_neg hs2,if_pos (by rw [q5h,Bool.and_eq_true,decide_eq_true_eq,decide_eq_true_eq];omega)]
    omega
   ·exact h.long y hy hst
  ·intro y hy hst
   rcases (hm y).1 hy with rfl | ⟨hy,_⟩
   ·show (if q5h s then at_ else j.tto)≤w.now
    have hst:3≤s:=hst
    rw [if_pos (by rw [q5h,Bool.and_eq_true,decide_eq_true_eq,decide_eq_true_eq];omega)]
    exact hn
   ·exact h.past y hy hst
  ·intro y hy hst n hn'
   have key:∃ z∈w.jobs,z.id=n∧z.state=3∧z.tto≤y.frm:=by
    rcases (hm y).1 hy with rfl | ⟨hy,_⟩
    ·have hst:s=2∨s=3∨s=4:=hst
     have hj2:j.state=2:=by rcases hst with e | e | e<;>omega
     have:=h.needs j hj (.inl hj2) n hn'
     show ∃ z∈w.jobs,z.id=n∧z.state=3∧z.tto≤(if s=2 then at_ else j.frm)
     rw [if_neg hs2];exact this
    ·exact h.needs y hy hst n hn'
   obtain ⟨z,hz,r⟩:=key
   refine ⟨z,(hm z).2 (.inr ⟨hz,fun e=>?_⟩),r⟩
   have:=qa2 h.ir hz hj e
   subst this
   omega
structure GI (w v : Inst) : Prop where
 gj:GJ v
 ev:Ev w v
 lt:∀ x∈v.table,v.now<x.tto
 sub:∀ x∈v.table,x∈w.table
theorem GI.refl {w:Inst} (h:GJ w) (hl:∀ x∈w.table,w.now<x.tto):GI w w:=⟨h,Ev.refl w,hl,fun x hx=>hx⟩
theorem GI.wdo {w v:Inst} (h:GI w v) {id what:Int} (h3:what≠3):GI w (wdo v id what v.now).1:=by
 have hev:=qpg h.gj.ir.jobs id what v.now
 have hsub:=qkc h.gj.ir id what v.now
 refine ⟨h.gj.wdo h3 (Int.le_refl _) fun x hx _=>Int.le_of_lt (h.lt x hx),h.ev.trans hev,fun x hx=>?_,fun x hx=>h.sub x (hsub x hx)⟩
 rw [hev.now]
 exact h.lt x (hsub x hx)
theorem GI.broken {w:Inst} (h:GJ w) (hl:∀ x∈w.table,w.now<x.tto):GI w (q3h w):=by
 unfold q3h
 refine qhy (P:=GI w) _ _ (GI.refl h hl) fun v x _ hv=>?_
 split
 ·exact hv
 ·exact hv.wdo (by decide)
theorem GI.refuse {w:Inst} (h:GJ w) (hl:∀ x∈w.table,w.now<x.tto):GI w (q4v w):=by
 unfold q4v
 refine qhy (P:=GI w) _ _ (GI.refl h hl) fun v x _ hv=>?_
 split
 ·exact hv.wdo (by decide)
 ·exact hv
theorem ithings_iff {g:List Thing} {l:List Int}:q2r g l=true↔sok l=true∧∀ x∈l,x<(g.length:Int):=by
 rw [q2r,Bool.and_eq_true,Bool.or_eq_true,decide_eq_true_eq,decide_eq_true_eq]
 refine and_congr_right fun hs=>?_
 have hp:=q7i hs
 constructor
 ·rintro (h | h) x hx
  ·rw [List.length_eq_zero_iff] at h;subst h;cases hx
  ·obtain ⟨k,hk,rfl⟩:=List.mem_iff_getElem.1 hx
   have hl:l.length-1<l.length:=by omega
   rw [List.getD_eq_getElem?_getD,List.getElem?_eq_getElem hl,Option.getD_some] at h
   by_cases e:k=l.length-1
   ·subst e;exact h
   ·have:=List.pairwise_iff_getElem.1 hp k (l.length-1) hk hl (by omega)
    omega
 ·intro h
  by_cases e:l.length=0
  ·exact .inl e
  ·have hl:l.length-1<l.length:=by omega
   right
   rw [List.getD_eq_getElem?_getD,List.getElem?_eq_getElem hl,Option.getD_some]
   exact h _ (List.getElem_mem hl)
theorem qcx {g:List Thing} {a b:List Int} (h:q2r g b=true) (k:q33 a b=true):q2r g a=true :=
 ithings_iff.2 ⟨(spart_iff.1 k).1,fun x hx=>(ithings_iff.1 h).2 x (qic k x hx)⟩
theorem q84 {w:Inst} (h:q3d w=true):q2r w.graph w.lease=true:=by simp only [q3d,Bool.and_eq_true] at h;exact h.1.1.1.2
theorem qki {w:Inst} (h:q3d w=true):q33 (q6q w) w.lease=true:=qq0 (ithings_iff.1 (q84 h)).1 (q6x _ _ _)
theorem qnm (g:List Thing) (h:List Int):q33 (q2p g h 0) (q2p g h 1)=true:=by
 refine qax (q6x _ _ _) (q6x _ _ _) fun x hx=>?_
 unfold q2p at hx ⊢
 split at hx
 ·rename_i hr
  rw [if_pos hr]
  obtain ⟨k,rfl,hk,e⟩:=idx_mem.1 hx
  refine idx_mem.2 ⟨k,rfl,hk,?_⟩
  rw [decide_eq_true_eq] at e ⊢
  omega
 ·cases hx
theorem qje {w:Inst} (h:q3d w=true):q33 (q6q w) (q7b w.lease (q2p w.graph w.health 1))=true:=by
 have hl:=(ithings_iff.1 (q84 h)).1
 refine spart_iff.2 ⟨qe8 _ _,qe8 _ _,fun n hn=>?_⟩
 rw [q6q,qnh hl (q6x _ _ _),Bool.and_eq_true] at hn
 rw [qnh hl (q6x _ _ _),Bool.and_eq_true]
 exact ⟨hn.1,(spart_iff.1 (qnm _ _)).2.2 n hn.2⟩
structure Todo (w : Inst) (l : List Held) (use : List Int) (B : List Held) (v : Inst) : Prop where
 gj:GJ v
 ev:Ev w v
 lt:∀ x∈v.table,v.now<x.tto
 good:∀ x∈v.table,x∈w.table∨q33 x.things use=true
 tab:∀ x∈v.table,x∈l
 inl:∀ x∈B,x∈l
 frm:∀ x∈B,x.frm=w.now
 part:∀ x∈B,q33 x.things use=true
 dif:B.Pairwise (fun a b=>a.id≠b.id)
 new:∀ x∈B,∀ y∈v.table,y.id≠x.id
 job:∀ x∈B,∃ j∈v.jobs,j.id=x.id∧j.state=0∧x.tto=q21 j.spec w.now∧∀ n∈j.needs,∃ y∈v.jobs,y.id=n∧y.state=3
theorem Todo.step {w:Inst} {l:List Held} {use:List Int} {x:Held} {B:List Held} {v:Inst} (hr:q2a l=true) (hu:q2r w.graph use=true) (h:Todo w l use (x :: B) v):Todo w l use B (qwv v x):=by
 have hx:=List.mem_cons_self (a:=x) (l:=B)
 have hp:=held_iff.1 hr
 have hmay:=hp.2.1 x (h.inl x hx)
 obtain ⟨j0,hj0,e0,s0,to0,nd0⟩:=h.job x hx
 have hnew:=h.new x hx
 have hfr:x.frm=v.now:=by rw [h.frm x hx,h.ev.now]
 have hbeg:Beg v x:=by
  refine ⟨hmay,by rw [h.ev.graph];exact qcx hu (h.part x hx),hfr,⟨j0,hj0,e0,s0,by rw [h.ev.now];exact to0⟩,hnew,?_,fun y hy=>qxl hr (h.tab y hy) (h.inl x hx) (hnew y hy)⟩
  have hnd:(x :: v.table).Nodup:=by
   rw [List.nodup_cons]
   refine ⟨fun hm=>hnew x hm rfl,?_⟩
   exact h.gj.ir.pt.imp fun hlt e=>by rw [e] at hlt;omega
  have:=qod (x :: v.table) l hnd fun y hy=>by
   rcases List.mem_cons.1 hy with rfl | hy
   ·exact h.inl _ hx
   ·exact h.tab y hy
  rw [List.length_cons] at this
  have:=hp.1
  omega
 have hir:=q10o h.gj.ir hbeg
 obtain ⟨j,hj,e,s,hto,ht,hrr,hjr,hev,hm⟩:=qjd h.gj.ir hbeg
 have hjj:j=j0:=qa2 h.gj.ir hj hj0 (by rw [e,e0])
 subst hjj
 have stay:∀ z∈v.jobs,z.state=3→z∈(qwv v x).jobs:=fun z hz h3=>(hm z).2 (.inr ⟨hz,fun e2=>by
  have:=qa2 h.gj.ir hz hj (by rw [e2,e])
  subst this
  omega⟩)
 have hlt:v.now<x.tto:=by
  simp only [hmay,Go.Av.hmay,Bool.and_eq_true,decide_eq_true_eq] at hmay
  omega
 refine ⟨⟨hir,?_,?_,?_⟩,h.ev.trans hev,?_,?_,?_,fun y hy=>h.inl y (List.mem_cons_of_mem _ hy),fun y hy=>h.frm y (List.mem_cons_of_mem _ hy),fun y hy=>h.part y (List.mem_cons_of_mem _ hy),(List.pairwise_cons.1 h.dif).2,?_,?_⟩
 ·intro y hy hst
  rcases (hm y).1 hy with rfl | ⟨hy,_⟩
  ·have:(2:Int)=3∨(2:Int)=4:=hst
   omega
  ·exact h.gj.long y hy hst
 ·intro y hy hst
  rw [hev.now]
  rcases (hm y).1 hy with rfl | ⟨hy,_⟩
  ·have:(3:Int)≤2:=hst
   omega
  ·exact h.gj.past y hy hst
 ·intro y hy hst n hn
  rcases (hm y).1 hy with rfl | ⟨hy,_⟩
  ·obtain ⟨z,hz,h1,h2⟩:=nd0 n hn
   exact ⟨z,stay z hz h2,h1,h2,h.gj.past z hz (by omega)⟩
  ·obtain ⟨z,hz,h1,h2,h4⟩:=h.gj.needs y hy hst n hn
   exact ⟨z,stay z hz h2,h1,h2,h4⟩
 ·intro y hy
  rw [hev.now]
  rw [ht] at hy
  rcases kput_mem.1 hy with rfl | hy
  ·exact hlt
  ·exact h.lt y hy
 ·intro y hy
  rw [ht] at hy
  rcases kput_mem.1 hy with rfl | hy
  ·exact .inr (h.part _ hx)
  ·exact h.good y hy
 ·intro y hy
  rw [ht] at hy
  rcases kput_mem.1 hy with rfl | hy
  ·exact h.inl _ hx
  ·exact h.tab y hy
 ·intro y hy z hz
  rw [ht] at hz
  rcases kput_mem.1 hz with rfl | hz
  ·exact (List.pairwise_cons.1 h.dif).1 y hy
  ·exact h.new y (List.mem_cons_of_mem _ hy) z hz
 ·intro y hy
  obtain ⟨k,hk,k1,k2,k3,k4⟩:=h.job y (List.mem_cons_of_mem _ hy)
  refine ⟨k,(hm k).2 (.inr ⟨hk,?_⟩),k1,k2,k3,fun n hn=>?_⟩
  ·rw [k1]
   exact fun e=>(List.pairwise_cons.1 h.dif).1 y hy e.symm
  ·obtain ⟨z,hz,z1,z2⟩:=k4 n hn
   exact ⟨z,stay z hz z2,z1,z2⟩
theorem Todo.all {w:Inst} {l:List Held} {use:List Int} (hr:q2a l=true) (hu:q2r w.graph use=true):∀ (B:List Held) (v:Inst),Todo w l use B v→Todo w l use [] (B.foldl qwv v)
 | [],v,h=>h
 | x :: B,v,h=>Todo.all hr hu B _ (h.step hr hu)
theorem qu5 {w:Inst} (h:IR w) {wt:Want} (hw:wt∈q6j w):∃ j∈w.jobs,j.id=wt.id∧j.state=0∧wt.spec=j.spec∧∀ n∈j.needs,∃ y∈w.jobs,y.id=n∧y.state=3:=by
 obtain ⟨id,hid,rfl⟩:=List.mem_map.1 hw
 unfold q1h at hid
 rw [h.jobs,if_pos rfl] at hid
 obtain ⟨j,hj,rfl⟩:=List.mem_map.1 hid
 have hj:=byPrio_mem.1 hj
 rw [qlb,List.mem_filter,Bool.and_eq_true,decide_eq_true_eq,List.all_eq_true] at hj
 obtain ⟨hj,hs,hn⟩:=hj
 refine ⟨j,hj,rfl,hs,by simp only [qhf h.jobs hj],fun n hnn=>?_⟩
 obtain ⟨k,hk⟩:=List.mem_iff_getElem?.1 hj
 have hin:=(jobs_iff.1 h.jobs).2.2.2.2 k j hk n hnn
 obtain ⟨y,hy,rfl⟩:=List.mem_map.1 (List.mem_of_mem_take hin)
 have:=hn _ hnn
 rw [decide_eq_true_eq,q1z (qae h.pj hy)] at this
 exact ⟨y,hy,rfl,this⟩
theorem qxq {w:Inst} (h:GJ w) (hl:∀ x∈w.table,w.now<x.tto) (hs:q3d w=true):GJ (q6a w)∧Ev w (q6a w)∧(∀ x∈(q6a w).table,(q6a w).now<x.tto)∧∀ x∈(q6a w).table,x∈w.table∨q33 x.things (q6q w)=true:=by
 have hu:=qki hs
 obtain ⟨l,pk⟩:=qqp (g:=w.graph) (use:=q6q w) (l0:=w.table) (ws:=q6j w) (now:=w.now) (til:=w.til) (policy:=w.policy) (depth:=w.depth) (qe8 _ _) h.ir.table
 have t0:Todo w l (q6q w) (q5l w) w:=⟨h,Ev.refl w,hl,fun x hx=>.inl hx,pk.old,pk.isin,pk.frm,pk.part,pk.dif,pk.new,fun x hx=>by
  obtain ⟨wt,hw,e,hto⟩:=pk.of x hx
  obtain ⟨j,hj,j1,j2,j3,j4⟩:=qu5 h.ir hw
  exact ⟨j,hj,j1.trans e,j2,by rw [hto,j3],j4⟩⟩
 have:=Todo.all pk.r (qcx (q84 hs) hu) _ _ t0
 exact ⟨this.gj,this.ev,this.lt,this.good⟩
theorem q119 {w:Inst} (h:GJ w) (hl:∀ x∈w.table,w.now<x.tto) (hs:q3d w=true):GJ (q5w w)∧(∀ x∈(q5w w).table,(q5w w).now<x.tto)∧q3d (q5w w)=true∧∀ x∈(q5w w).table,q33 x.things (q7b (q5w w).lease (q2p (q5w w).graph (q5w w).health 1))=true:=by
 have b:=GI.broken h hl
 have r:=GI.refuse b.gj b.lt
 have st:∀ {a c:Inst},Ev a c→q3d a=true→q3d c=true:=fun e k=>by
  unfold q3d at k ⊢
  rw [e.graph,e.health,e.lease,e.til,e.now,e.policy,e.depth];exact k
 have e1:=b.ev.trans r.ev
 obtain ⟨g1,g2,g3,g4⟩:=qxq r.gj r.lt (st e1 hs)
 have ev:=e1.trans g2
 refine ⟨g1,g3,st ev hs,fun x hx=>?_⟩
 show q33 x.things (q7b (q6a (q4v (q3h w))).lease (q2p (q6a (q4v (q3h w))).graph (q6a (q4v (q3h w))).health 1))=true
 rw [ev.lease,ev.graph,ev.health]
 rcases g4 x hx with hx | hx
 ·exact qjt h.ir x (r.sub x hx)
 ·have:=qh3 hx (qje (st e1 hs))
  rwa [e1.lease,e1.graph,e1.health] at this
structure GS (i : Inst) : Prop where
 gj:GJ i
 lt:∀ x∈i.table,i.now<x.tto
 st:q3d i=true
theorem GS.right {i:Inst} (h:GS i):q3c i=true:=iright_iff.2 ⟨h.st,h.gj.ir,h.lt⟩
def Used (i:Inst):Prop:=∀ x∈i.table,q33 x.things (q7b i.lease (q2p i.graph i.health 1))=true
theorem GS.look {w:Inst} (h:GS w):GS (q5w w)∧Used (q5w w):=by
 obtain ⟨a,b,c,d⟩:=q119 h.gj h.lt h.st
 exact ⟨⟨a,b,c⟩,d⟩
theorem qa0 {l:List Job} (hp:l.Pairwise (fun a b=>a.id<b.id)) (hc:l.Pairwise (fun a b=>a.came≤b.came)) {a:Job} (ha:a∈l):a.id≤(q1t l).id∧a.came≤(q1t l).came:=by
 obtain ⟨k,hk,rfl⟩:=List.mem_iff_getElem.1 ha
 have hl:l.length-1<l.length:=by omega
 unfold q1t
 rw [if_neg (by omega),q1z (List.getElem?_eq_getElem hl)]
 by_cases e:k=l.length-1
 ·subst e;exact ⟨Int.le_refl _,Int.le_refl _⟩
 ·exact ⟨Int.le_of_lt (List.pairwise_iff_getElem.1 hp k (l.length-1) hk hl (by omega)),List.pairwise_iff_getElem.1 hc k (l.length-1) hk hl (by omega)⟩
theorem qrm {l:List Job} (hr:∀ j∈l,q28 j=true):0≤(q1t l).id∧(q1t l).id≤1073741824:=by
 unfold q1t
 split
 ·exact ⟨by decide,by decide⟩
 ·have hl:l.length-1<l.length:=by omega
  rw [q1z (List.getElem?_eq_getElem hl)]
  have:=hr _ (List.getElem_mem hl)
  simp only [q28,Bool.and_eq_true,decide_eq_true_eq] at this
  omega
theorem qpp {l:List Job} {s:Spec} {needs:List Int} {now:Int} (e:(q19 l s needs now).2.2=0):q2v l=true∧q1c s=true∧qai needs=true∧tm now=true∧(q1t l).came≤now∧(∀ n∈needs,q2u l n=true)∧l.length≠64∧(q1t l).id≠1073741824∧(q19 l s needs now).1=l++[⟨(q1t l).id+1,s,needs,0,now,0,0⟩]:=by
 unfold q19 at e ⊢
 split at e
 ·simp at e
 rename_i h1
 rw [if_neg h1]
 split at e
 ·simp at e
 rename_i h2
 rw [if_neg h2]
 split at e
 ·simp at e
 rename_i h3
 rw [if_neg h3]
 split at e
 ·simp at e
 rename_i h4
 rw [if_neg h4]
 simp only [Bool.or_eq_true,Bool.not_eq_true',decide_eq_true_eq,not_or,Bool.not_eq_false,Bool.and_eq_true,Int.not_lt] at h1
 simp only [Bool.not_eq_true',Bool.not_eq_false,List.all_eq_true] at h2
 exact ⟨h1.1.1.1.1,h1.1.1.1.2,h1.1.1.2,h1.1.2,h1.2,h2,h3,h4,rfl⟩
theorem qfq {l:List Job} {s:Spec} {needs:List Int} {now:Int} (hr:q2v l=true) (hs:q1c s=true) (hri:qai needs=true) (ht:tm now=true) (hc:(q1t l).came≤now) (hn:∀ n∈needs,q2u l n=true) (h64:l.length≠64) (hid:(q1t l).id≠1073741824) :
  q2v (l++[⟨(q1t l).id+1,s,needs,0,now,0,0⟩])=true:=by
 obtain ⟨h1,h2,h3,h4,h5⟩:=jobs_iff.1 hr
 have hl:=qrm h2
 have hnd:∀ n∈needs,∃ j∈l,j.id=n:=fun n hnn=>(q54 h3).1 (hn n hnn)
 refine jobs_iff.2 ⟨by simp;omega,fun j hj=>?_,?_,?_,?_⟩
 ·rcases List.mem_append.1 hj with hj | hj
  ·exact h2 j hj
  ·rw [List.mem_singleton] at hj
   subst hj
   rw [qai,Bool.and_eq_true,decide_eq_true_eq] at hri
   have hnn:qnf ((q1t l).id+1) needs=true:=qui fun k hk=>by
    have hg:needs[k]?=some needs[k]:=List.getElem?_eq_getElem hk
    obtain ⟨j,hj,e⟩:=hnd needs[k] (List.getElem_mem hk)
    have hm:=(qa0 h3 h4 hj).1
    have hj1:=h2 j hj
    simp only [q28,Bool.and_eq_true,decide_eq_true_eq] at hj1
    rw [qlr hg]
    simp only [Bool.and_eq_true,Bool.or_eq_true,decide_eq_true_eq,beq_iff_eq]
    refine ⟨⟨by omega,by omega⟩,?_⟩
    by_cases h0:k=0
    ·exact .inl h0
    ·right
     have hk1:k-1<needs.length:=by omega
     have:=q5b hri.1 hk
     rw [decide_eq_true_eq,if_neg h0,List.getD_eq_getElem?_getD,List.getD_eq_getElem?_getD,hg,List.getElem?_eq_getElem hk1] at this
     rw [List.getElem?_eq_getElem hk1]
     simpa using this
   have ht2:=ht
   rw [tm_iff] at ht
   simp only [q28,qah,q4q,Bool.and_eq_true,decide_eq_true_eq]
   refine ⟨⟨⟨⟨⟨by omega,by omega⟩,hs⟩,hri.2,hnn⟩,ht2⟩,by simp⟩
 ·rw [List.pairwise_append]
  refine ⟨h3,List.pairwise_singleton _ _,fun a ha b hb=>?_⟩
  rw [List.mem_singleton] at hb;subst hb
  have:=(qa0 h3 h4 ha).1
  show a.id<(q1t l).id+1
  omega
 ·rw [List.pairwise_append]
  refine ⟨h4,List.pairwise_singleton _ _,fun a ha b hb=>?_⟩
  rw [List.mem_singleton] at hb;subst hb
  have:=(qa0 h3 h4 ha).2
  show a.came≤now
  omega
 ·intro k j hj n hnn
  have hk:=(List.getElem?_eq_some_iff.1 hj).1
  rw [List.length_append,List.length_singleton] at hk
  rw [List.map_append,List.take_append_of_le_length (by rw [List.length_map];omega)]
  by_cases hk2:k<l.length
  ·rw [List.getElem?_append_left hk2] at hj
   exact h5 k j hj n hnn
  ·have:k=l.length:=by omega
   subst this
   rw [List.getElem?_append_right (Nat.le_refl _),Nat.sub_self] at hj
   cases hj
   obtain ⟨j,hj,e⟩:=hnd n hnn
   rw [List.take_of_length_le (by rw [List.length_map];exact Nat.le_refl _)]
   exact List.mem_map.2 ⟨j,hj,e⟩
theorem GS.add {i:Inst} (h:GS i) {s:Spec} {needs:List Int} (e:(q19 i.jobs s needs i.now).2.2=0):GS { i with jobs:=(q19 i.jobs s needs i.now).1 }:=by
 obtain ⟨a1,a2,a3,a4,a5,a6,a7,a8,a9⟩:=qpp e
 have hr:=qfq a1 a2 a3 a4 a5 a6 a7 a8
 rw [a9]
 have hm:∀ y,y∈i.jobs++[⟨(q1t i.jobs).id+1,s,needs,0,i.now,0,0⟩]→y∈i.jobs∨y=⟨(q1t i.jobs).id+1,s,needs,0,i.now,0,0⟩:=fun y hy=>by
  rcases List.mem_append.1 hy with hy | hy
  ·exact .inl hy
  ·exact .inr (List.mem_singleton.1 hy)
 have h0:=(tm_iff.1 a4).1
 refine ⟨⟨⟨hr,h.gj.ir.table,?_,?_,?_,h.gj.ir.now⟩,?_,?_,?_⟩,h.lt,h.st⟩
 ·intro j hj
  rcases hm j hj with hj | rfl
  ·exact h.gj.ir.came j hj
  ·exact ⟨Int.le_refl _,h0⟩
 ·intro j hj hs
  rcases hm j hj with hj | rfl
  ·exact h.gj.ir.run j hj hs
  ·have:(0:Int)=2:=hs
   omega
 ·intro x hx
  obtain ⟨j,hj,r⟩:=h.gj.ir.held x hx
  exact ⟨j,List.mem_append_left _ hj,r⟩
 ·intro j hj hs
  rcases hm j hj with hj | rfl
  ·exact h.gj.long j hj hs
  ·have:(0:Int)=3∨(0:Int)=4:=hs
   omega
 ·intro j hj hs
  rcases hm j hj with hj | rfl
  ·exact h.gj.past j hj hs
  ·have:(3:Int)≤0:=hs
   omega
 ·intro j hj hs n hn
  rcases hm j hj with hj | rfl
  ·obtain ⟨y,hy,r⟩:=h.gj.needs j hj hs n hn
   exact ⟨y,List.mem_append_left _ hy,r⟩
  ·have:(0:Int)=2∨(0:Int)=3∨(0:Int)=4:=hs
   omega
theorem qro {i:Inst} (h:GS i) (s:Spec) (needs:List Int):GS (q3l i s needs).1∧((q3l i s needs).2.2=0→Used (q3l i s needs).1)∧((q3l i s needs).2.2≠0→(q3l i s needs).1=i):=by
 unfold q3l
 split
 ·exact ⟨h,fun e=>by simp at e,fun _=>rfl⟩
 ·split
  ·rename_i h2
   exact ⟨h,fun e=>absurd e h2,fun _=>rfl⟩
  ·rename_i h2
   have:=(h.add (Classical.not_not.1 h2)).look
   exact ⟨this.1,fun _=>this.2,fun e=>absurd rfl e⟩
theorem q12m {i:Inst} (h:GS i) (id what:Int):GS (ido i id what).1∧((ido i id what).2=0→Used (ido i id what).1)∧((ido i id what).2≠0→(ido i id what).1=i):=by
 unfold ido
 split
 ·exact ⟨h,fun e=>by simp at e,fun _=>rfl⟩
 ·rename_i h1
  split
  ·rename_i h2
   exact ⟨h,fun e=>absurd e h2,fun _=>rfl⟩
  ·have h3:what≠3:=by rintro rfl;simp at h1
   have g:=(GI.refl h.gj h.lt).wdo (id:=id) h3
   have st:q3d (wdo i id what i.now).1=true:=by
    have e:=g.ev
    have k:=h.st
    unfold q3d at k ⊢
    rw [e.graph,e.health,e.lease,e.til,e.now,e.policy,e.depth];exact k
   have:=GS.look ⟨g.gj,g.lt,st⟩
   exact ⟨this.1,fun _=>this.2,fun e=>absurd rfl e⟩
theorem qy7 {i:Inst} (h:GS i) (l:List Int) (til:Int):GS (q9i i l til).1∧((q9i i l til).2=0→Used (q9i i l til).1)∧((q9i i l til).2≠0→(q9i i l til).1=i):=by
 unfold q9i
 split
 ·exact ⟨h,fun e=>by simp at e,fun _=>rfl⟩
 ·rename_i h1
  simp only [Bool.or_eq_true,Bool.not_eq_true',not_or,Bool.not_eq_false] at h1
  have k:=h.st
  have:GS { i with lease:=l,til:=til }:=⟨⟨⟨h.gj.ir.jobs,h.gj.ir.table,h.gj.ir.came,h.gj.ir.run,h.gj.ir.held,h.gj.ir.now⟩,h.gj.long,h.gj.past,h.gj.needs⟩,h.lt,by
   simp only [q3d,Bool.and_eq_true] at k ⊢
   exact ⟨⟨⟨⟨k.1.1.1.1,h1.1.2⟩,h1.2⟩,k.1.2⟩,k.2⟩⟩
  exact ⟨this.look.1,fun _=>this.look.2,fun e=>absurd rfl e⟩
theorem qql {g:List Thing} {h:List Int} {n how:Int} (e:(q57 g h n how).2=0):q51 g (q57 g h n how).1=true:=by
 unfold q57 at e ⊢
 split at e
 ·simp at e
 rename_i h1
 rw [if_neg h1]
 split at e
 ·simp at e
 rename_i h2
 rw [if_neg h2]
 simp only [Bool.or_eq_true,Bool.not_eq_true',decide_eq_true_eq,not_or,Bool.not_eq_false,Int.not_lt] at h1
 obtain ⟨⟨hr,l1⟩,l2⟩:=h1
 obtain ⟨g1,g2,g3⟩:=q6k hr
 have ha:((h.set n.toNat how).any fun n=>decide (n<0)||decide (2<n))=false:=by
  rw [List.any_eq_false] at g3 ⊢
  intro x hx
  rcases List.mem_or_eq_of_mem_set hx with hx | rfl
  ·exact g3 x hx
  ·simp;omega
 show q51 g (h.set n.toNat how)=true
 unfold q51
 rw [g1,ha]
 simp [g2]
theorem qy6 {i:Inst} (h:GS i) (n how:Int):GS (q8c i n how).1∧((q8c i n how).2=0→Used (q8c i n how).1)∧((q8c i n how).2≠0→(q8c i n how).1=i):=by
 unfold q8c
 split
 ·exact ⟨h,fun e=>by simp at e,fun _=>rfl⟩
 ·split
  ·rename_i h2
   exact ⟨h,fun e=>absurd e h2,fun _=>rfl⟩
  ·rename_i h2
   have k:=h.st
   have:GS { i with health:=(q57 i.graph i.health n how).1 }:=⟨⟨⟨h.gj.ir.jobs,h.gj.ir.table,h.gj.ir.came,h.gj.ir.run,h.gj.ir.held,h.gj.ir.now⟩,h.gj.long,h.gj.past,h.gj.needs⟩,h.lt,by
    simp only [q3d,Bool.and_eq_true] at k ⊢
    exact ⟨⟨⟨⟨qql (Classical.not_not.1 h2),k.1.1.1.2⟩,k.1.1.2⟩,k.1.2⟩,k.2⟩⟩
   exact ⟨this.look.1,fun _=>this.look.2,fun e=>absurd rfl e⟩
theorem qxf {v:Inst} (h:GJ v) {x:Held} (hx:x∈v.table) (ht:x.tto≤v.now):GJ (wdo v x.id 5 x.tto).1∧∀ y∈(wdo v x.id 5 x.tto).1.table,y∈v.table∧y.id≠x.id:=by
 refine ⟨h.wdo (by decide) ht fun y hy e=>by rw [qoo h.ir hy hx e];exact Int.le_refl _,qnw h.ir hx fun j hj e=>?_⟩
 obtain ⟨j',hj',e',s',hf,hto,_⟩:=h.ir.of hx
 have:=qa2 h.ir hj hj' (by rw [e,e'])
 subst this
 have hjr:=(jobs_iff.1 h.ir.jobs).2.1 j hj
 have hfr:=qhe hjr (by omega)
 have hh:=(held_iff.1 h.ir.table).2.1 x hx
 simp only [hmay,Bool.and_eq_true,decide_eq_true_eq] at hh
 obtain ⟨⟨⟨⟨_,_⟩,h3⟩,h4⟩,h5⟩:=hh
 simp only [qmz,hjr,h4,Bool.not_true,Bool.false_or,Bool.or_eq_false_iff,decide_eq_false_iff_not]
 refine ⟨⟨⟨?_,?_⟩,?_⟩,?_⟩<;>first | trivial | omega
theorem qkt {i:Inst} {now:Int}:∀ (B:List Held) (v:Inst),GJ v→Ev { i with now:=now } v→(∀ x∈B,x∈i.table∧x.tto≤now)→B.Pairwise (fun a b=>a.id≠b.id)→(∀ x∈B,x∈v.table)→(∀ x∈v.table,x∈i.table∧(x∈B∨now<x.tto)) →
  GJ (B.foldl (fun a h=>(wdo a h.id 5 h.tto).1) v)∧Ev { i with now:=now } (B.foldl (fun a h=>(wdo a h.id 5 h.tto).1) v)∧∀ x∈(B.foldl (fun a h=>(wdo a h.id 5 h.tto).1) v).table,x∈i.table∧now<x.tto
 | [],v,h,ev,_,_,_,ht=>⟨h,ev,fun x hx=>⟨(ht x hx).1,(ht x hx).2.resolve_left (by simp)⟩⟩
 | b :: B,v,h,ev,hB,hp,hin,ht=>by
  have hb:=hB b List.mem_cons_self
  have hbv:=hin b List.mem_cons_self
  have hnow:v.now=now:=ev.now
  obtain ⟨k1,k2⟩:=qxf h hbv (by rw [hnow];exact hb.2)
  rw [List.pairwise_cons] at hp
  refine qkt B _ k1 (ev.trans (qpg h.ir.jobs _ _ _)) (fun x hx=>hB x (List.mem_cons_of_mem _ hx)) hp.2 (fun x hx=>?_) fun x hx=>?_
  ·
   have hxv:=hin x (List.mem_cons_of_mem _ hx)
   show x∈(Go.Av.wdo v b.id 5 b.tto).1.table
   rcases q6b h.ir.jobs b.id 5 b.tto with ⟨e,_⟩ | ⟨j,hj,_,s,hb',hs,e1,e⟩
   ·rw [e];exact hxv
   ·rw [e]
    show x∈(if q5h s then (q1o v.table b.id).1 else v.table)
    split
    ·exact ((qdl h.ir.table b.id).2 x).2 ⟨hxv,fun e=>hp.1 x hx e.symm⟩
    ·exact hxv
  ·obtain ⟨k3,k4⟩:=k2 x hx
   refine ⟨(ht x k3).1,?_⟩
   rcases (ht x k3).2 with h5 | h5
   ·rcases List.mem_cons.1 h5 with rfl | h5
    ·exact absurd rfl k4
    ·exact .inl h5
   ·exact .inr h5
theorem qyw {i:Inst} (h:GS i) (now:Int):GS (q8j i now).1∧((q8j i now).2=0→Used (q8j i now).1)∧((q8j i now).2≠0→(q8j i now).1=i)∧(tm now=true→i.now≤now→(q8j i now).2=0):=by
 unfold q8j
 split
 ·rename_i h1
  refine ⟨h,fun e=>by simp at e,fun _=>rfl,fun h2 h3=>?_⟩
  rw [h.right,h2] at h1
  simp at h1
  omega
 ·rename_i h1
  simp only [Bool.or_eq_true,Bool.not_eq_true',decide_eq_true_eq,not_or,Bool.not_eq_false,Int.not_lt] at h1
  obtain ⟨⟨_,h2⟩,h3⟩:=h1
  have g0:GJ { i with now:=now }:=⟨⟨h.gj.ir.jobs,h.gj.ir.table,fun j hj=>⟨Int.le_trans (h.gj.ir.came j hj).1 h3,Int.le_trans (h.gj.ir.came j hj).2 h3⟩,h.gj.ir.run,h.gj.ir.held,h2⟩,h.gj.long,fun j hj hs=>Int.le_trans (h.gj.past j hj hs) h3,h.gj.needs⟩
  have hov:(q1r i.table now).2=i.table.filter fun h=>decide (h.tto≤now):=by unfold q1r;rw [h.gj.ir.table,if_pos rfl]
  obtain ⟨k1,k2,k3⟩:=qkt (i:=i) (now:=now) (q1r i.table now).2 { i with now:=now } g0 (Ev.refl _) (fun x hx=>by
    rw [hov,List.mem_filter,decide_eq_true_eq] at hx;exact hx)
   (by rw [hov];exact (h.gj.ir.pt.filter _).imp fun h e=>by omega)
   (fun x hx=>by rw [hov,List.mem_filter] at hx;exact hx.1)
   (fun x hx=>⟨hx,by
    by_cases e:x.tto≤now
    ·exact .inl (by rw [hov,List.mem_filter,decide_eq_true_eq];exact ⟨hx,e⟩)
    ·exact .inr (by omega)⟩)
  have k:=h.st
  have:GS ((q1r i.table now).2.foldl (fun a h=>(wdo a h.id 5 h.tto).1) { i with now:=now }):=⟨k1,fun x hx=>by rw [k2.now];exact (k3 x hx).2,by
   simp only [q3d,Bool.and_eq_true] at k ⊢
   rw [k2.graph,k2.health,k2.lease,k2.til,k2.now,k2.policy,k2.depth]
   exact ⟨⟨k.1.1,h2⟩,k.2⟩⟩
  exact ⟨this.look.1,fun _=>this.look.2,fun e=>absurd rfl e,fun _ _=>rfl⟩
theorem q10z {g:List Thing} {p d:Int} (e:(qiv g p d).2=0):GS (qiv g p d).1:=by
 unfold qiv at e ⊢
 split at e
 ·simp at e
 rename_i h1
 rw [if_neg h1]
 simp only [Bool.or_eq_true,Bool.not_eq_true',not_or,Bool.not_eq_false] at h1
 have hl:=(q32 h1.1).2
 refine ⟨⟨⟨show q2v []=true by decide,show q2a []=true by decide,(fun _ h=>nomatch h),(fun _ h=>nomatch h),(fun _ h=>nomatch h),show tm 0=true by decide⟩,(fun _ h=>nomatch h),(fun _ h=>nomatch h),(fun _ h=>nomatch h)⟩,(fun _ h=>nomatch h),?_⟩
 simp only [q3d,Bool.and_eq_true]
 refine ⟨⟨⟨⟨?_,ithings_iff.2 ⟨?_,fun x hx=>?_⟩⟩,show tm 4611686018427387904=true by decide⟩,show tm 0=true by decide⟩,h1.2⟩
 ·unfold q51
  rw [h1.1]
  simp
 ·unfold q68
  split
  ·exact qna _ hl
  ·exact qng
 ·unfold q68 at hx
  split at hx
  ·obtain ⟨k,rfl,hk,_⟩:=idx_mem.1 hx
   show (k:Int)<(g.length:Int)
   omega
  ·cases hx
structure Seat where
 graph:List Thing
 policy:Int
 depth:Int
 log:List UInt8
 inst:Inst
def q11n:Seat:=⟨[],0,0,[],qye⟩
def qdt (g:List Thing) (p d:Int):Seat×Int:=if (qiv g p d).2≠0 then (q11n,(qiv g p d).2) else (⟨g,p,d,[],(qiv g p d).1⟩,0)
def q4i (i:Inst) (o:OOp):Inst×Int×Int :=
 if o.kind=1 then q3l i o.spec o.needs
 else if o.kind=2 then ((ido i o.id o.what).1,0,(ido i o.id o.what).2)
 else if o.kind=3 then ((q8j i o.at_).1,0,(q8j i o.at_).2)
 else if o.kind=4 then ((q9i i o.set o.at_).1,0,(q9i i o.set o.at_).2)
 else if o.kind=5 then ((q8c i o.id o.what).1,0,(q8c i o.id o.what).2) else (i,0,1)
def sdo (s:Seat) (o:OOp):Seat×Int×Int :=
 if q3q o=false then (s,0,1)
 else if 1048576<(q78 s.log (q38 o)).1.length then (s,0,4)
 else if (q4i s.inst o).2.2≠0 then (s,0,(q4i s.inst o).2.2)
 else ({ s with inst:=(q4i s.inst o).1,log:=(q78 s.log (q38 o)).1 },(q4i s.inst o).2.1,0)
def q5o (s:Seat):List (List UInt8)→Seat
 | []=>s
 | x :: t=>if (q22 x).2≠0 then s else if (sdo s (q22 x).1).2.2≠0 then s else q5o (sdo s (q22 x).1).1 t
def qd4 (g:List Thing) (p d:Int) (b:List UInt8):Seat×Int :=
 if (qdt g p d).2≠0 then (q11n,(qdt g p d).2) else (q5o (qdt g p d).1 (q6e b).1,0)
theorem qhn {o:OOp} (h:q3q o=true):o.kind=1∨o.kind=2∨o.kind=3∨o.kind=4∨o.kind=5:=by
 unfold q3q at h
 split at h
 ·exact .inl ‹_›
 ·split at h
  ·rename_i e;rcases e with e | e<;>simp [e]
  ·split at h
   ·simp [*]
   ·split at h
    ·simp [*]
    ·cases h
theorem qpn {o:OOp} (h:q3q o=true) (i:Inst):q4i i (q41 o)=q4i i o:=by
 unfold q41
 rcases qhn h with e | e | e | e | e<;>simp [q4i,e]
theorem qsy {o:OOp} (h:q3q o=true):q3q (q41 o)=true∧q38 (q41 o)=q38 o:=by
 have:=q6y (b:=q38 o) (by rw [qcg h])
 exact ⟨this.1,this.2.1⟩
theorem qao {o:OOp} (h:q3q o=true):okE (q38 o)=true∧(q38 o).length≤1100:=by
 have hm:=h
 unfold q3q at hm
 have hu:(q38 o).length≤1100:=by
  unfold q38
  rw [List.length_cons]
  rcases qhn h with e | e | e | e | e
  ·rw [if_pos e] at hm
   simp only [Bool.and_eq_true,decide_eq_true_eq] at hm
   have:=q6w hm.1.1
   rw [if_pos e,List.length_append,List.length_cons,q8t];omega
  ·rw [if_neg (by omega),if_pos (by omega),List.length_append,q27,q27];omega
  ·rw [if_neg (by omega),if_neg (by omega),if_pos e,q27];omega
  ·have:=qur o.set
   rw [if_neg (by omega),if_neg (by omega),if_neg (by omega),List.length_append,q27];omega
  ·rw [if_neg (by omega),if_pos (by omega),List.length_append,q27,q27];omega
 refine ⟨?_,hu⟩
 unfold okE
 rw [Bool.and_eq_true,decide_eq_true_eq,decide_eq_true_eq]
 refine ⟨?_,by omega⟩
 unfold q38;rw [List.length_cons];omega
theorem q13j {o:OOp} (h:q3q o=true) (b:List UInt8):q78 b (q38 o)=(b++q4y (q38 o),0):=by rw [q78,if_pos (qao h).1]
theorem qh4 (s:Seat) (o:OOp):((sdo s o).2.2≠0∧sdo s o=(s,0,(sdo s o).2.2))∨((sdo s o).2.2=0∧q3q o=true∧s.log.length+(q4y (q38 o)).length≤1048576∧(q4i s.inst o).2.2=0∧sdo s o=(⟨s.graph,s.policy,s.depth,s.log++q4y (q38 o),(q4i s.inst o).1⟩,(q4i s.inst o).2.1,0)):=by
 unfold sdo
 by_cases h1:q3q o=false
 ·rw [if_pos h1];exact .inl ⟨(by show (1:Int)≠0;decide),rfl⟩
 ·rw [if_neg h1]
  have hm:q3q o=true:=by simpa using h1
  rw [q13j hm]
  by_cases h2:1048576<(s.log++q4y (q38 o)).length
  ·rw [if_pos h2];exact .inl ⟨(by show (4:Int)≠0;decide),rfl⟩
  ·rw [if_neg h2]
   by_cases h3:(q4i s.inst o).2.2≠0
   ·rw [if_pos h3];exact .inl ⟨h3,rfl⟩
   ·rw [if_neg h3]
    rw [List.length_append] at h2
    exact .inr ⟨rfl,hm,by omega,by omega,rfl⟩
theorem qv9 {o:OOp} (h:q3q o=true) (s:Seat):sdo s (q41 o)=sdo s o:=by
 obtain ⟨h1,h2⟩:=qsy h
 unfold sdo
 rw [h1,h2,h,qpn h]
inductive Tr : Seat → List OOp → Seat → Prop where
 | nil (s:Seat):Tr s [] s
 | cons {s t:Seat} {o:OOp} {os:List OOp} (h:(sdo s o).2.2=0) (r:Tr (sdo s o).1 os t):Tr s (o :: os) t
theorem Tr.app {s t u:Seat} {os ps:List OOp} (h:Tr s os t) (g:Tr t ps u):Tr s (os++ps) u:=by
 induction h with
 | nil=>exact g
 | cons h _ ih=>exact .cons h (ih g)
theorem Tr.snoc {s t:Seat} {os:List OOp} {o:OOp} (h:Tr s os t) (g:(sdo t o).2.2=0):Tr s (os++[o]) (sdo t o).1:=h.app (.cons g (.nil _))
theorem Tr.may {s t:Seat} {os:List OOp} (h:Tr s os t):∀ o∈os,q3q o=true:=by
 induction h with
 | nil=>intro o ho;cases ho
 | @cons s t o os h _ ih =>
  intro p hp
  rcases List.mem_cons.1 hp with rfl | hp
  ·rcases qh4 s p with e | e
   ·exact absurd h e.1
   ·exact e.2.1
  ·exact ih p hp
theorem Tr.log {s t:Seat} {os:List OOp} (h:Tr s os t):t.log=s.log++qag (os.map q38)∧t.graph=s.graph∧t.policy=s.policy∧t.depth=s.depth:=by
 induction h with
 | nil=>simp [qag]
 | @cons s t o os h _ ih =>
  rcases qh4 s o with e | e
  ·exact absurd h e.1
  ·rw [e.2.2.2.2] at ih
   simp only at ih
   rw [List.map_cons,q6z,ih.1,List.append_assoc]
   exact ⟨rfl,ih.2⟩
theorem Tr.split {s u:Seat} {os ps:List OOp} (h:Tr s (os++ps) u):∃ t,Tr s os t∧Tr t ps u:=by
 induction os generalizing s with
 | nil=>exact ⟨s,.nil s,h⟩
 | cons o os ih =>
  cases h with
  | cons h r =>
   obtain ⟨t,h1,h2⟩:=ih r
   exact ⟨t,.cons h h1,h2⟩
theorem Tr.okE {s t:Seat} {os:List OOp} (h:Tr s os t):∀ e∈os.map q38,okE e=true:=fun e he=>by
 obtain ⟨o,ho,rfl⟩:=List.mem_map.1 he
 exact (qao (h.may o ho)).1
theorem Tr.raise {s t:Seat} {os:List OOp} (h:Tr s os t):q5o s (os.map q38)=t:=by
 induction h with
 | nil=>rfl
 | @cons s t o os h _ ih =>
  have hm:q3q o=true:=by
   rcases qh4 s o with e | e
   ·exact absurd h e.1
   ·exact e.2.1
  rw [List.map_cons,q5o,qcg hm]
  simp only
  rw [if_neg (by decide),qv9 hm,if_neg (by omega),ih]
theorem qpi {g:List Thing} {p d:Int} (h:(qdt g p d).2=0):(qdt g p d).1=⟨g,p,d,[],(qiv g p d).1⟩∧(qiv g p d).2=0:=by
 unfold qdt at h ⊢
 split at h
 ·rename_i h1;exact absurd h h1
 ·rename_i h1
  rw [if_neg h1]
  exact ⟨rfl,by omega⟩
theorem qgk {g:List Thing} {p d:Int} (h:(qdt g p d).2=0) (b:List UInt8):qd4 g p d b=(q5o (qdt g p d).1 (q6e b).1,0):=by rw [qd4,if_neg (by omega)]
theorem Tr.own {g:List Thing} {p d:Int} (h:(qdt g p d).2=0) {os:List OOp} {t:Seat} (r:Tr (qdt g p d).1 os t):t.log=qag (os.map q38):=by
 have:=r.log.1
 rwa [(qpi h).1,List.nil_append] at this
theorem qti {g:List Thing} {p d:Int} (h:(qdt g p d).2=0) {os:List OOp} {t:Seat} (r:Tr (qdt g p d).1 os t) {more:List UInt8} (hm:(q36 more).2=0):qd4 g p d (t.log++more)=(t,0):=by
 rw [qgk h,r.own h,ql8 _ _ r.okE hm,r.raise]
theorem qua {i:Inst} (h:GS i) (o:OOp):GS (q4i i o).1:=by
 unfold q4i
 split
 ·exact (qro h _ _).1
 ·split
  ·exact (q12m h _ _).1
  ·split
   ·exact (qyw h _).1
   ·split
    ·exact (qy7 h _ _).1
    ·split
     ·exact (qy6 h _ _).1
     ·exact h
theorem Tr.gs {s t:Seat} {os:List OOp} (h:Tr s os t) (g:GS s.inst):GS t.inst:=by
 induction h with
 | nil=>exact g
 | @cons s t o os h _ ih =>
  rcases qh4 s o with e | e
  ·exact absurd h e.1
  ·refine ih ?_
   rw [e.2.2.2.2]
   exact qua g o
theorem qjf {α:Type} {sz:Nat}:∀ {rows:List (List α)},(∀ r∈rows,r.length=sz)→∀ {i:Nat} {r:List α} {j:Nat},rows[i]?=some r→j<sz→rows.flatten[i * sz+j]?=r[j]?
 | [],_,i,r,j,hr,_=>by simp at hr
 | x :: rows,hw,i,r,j,hr,hj=>by
  have hx:x.length=sz:=hw x (by simp)
  cases i with
  | zero =>
   simp at hr
   subst hr
   rw [List.flatten_cons,List.getElem?_append_left (by omega)]
   simp
  | succ i =>
   have:=qjf (rows:=rows) (fun r h=>hw r (by simp [h])) (i:=i) (r:=r) (j:=j) (by simpa using hr) hj
   rw [List.flatten_cons,List.getElem?_append_right (by rw [hx,Nat.succ_mul];omega),hx,show (i+1) * sz+j-sz=i * sz+j by rw [Nat.succ_mul];omega]
   exact this
def tile (P:Program) (rec:TypeId→Option (List TypeId)) (total:Nat):Nat→List Field→Option (List TypeId)
 | off,[]=>if off=total then some [] else none
 | off,f :: fs=>if f.offset=off then
   match rec f.type with
   | some a=>if a.length=P.cellsOf f.type then
     match tile P rec total (off+P.cellsOf f.type) fs with
     | some r=>some (a++r)
     | none=>none
    else none
   | none=>none
  else none
def q53 (P:Program):Nat→TypeId→Option (List TypeId)
 | 0,_=>none
 | n+1,t=>match P.underlying t with
  | some .bool | some (.int _) | some .string=>some [t]
  | some (.slice e)=>if P.cellsOf e=0 then none else some [t]
  | some (.struct fs)=>tile P (q53 P n) (P.cellsOf t) 0 fs.toList
  | some (.array m e)=>match q53 P n e with
   | some a=>if a.length=P.cellsOf e∧P.cellsOf t=m * P.cellsOf e then some (List.replicate m a).flatten else none
   | none=>none
  | _=>none
def q4c (P:Program):Nat→TypeId→AV→Prop
 | 0,_,_=>False
 | n+1,t,v=>match P.underlying t with
  | some .bool=>∃ b,v = .bool b
  | some (.int k)=>∃ i,v = .int k i∧(Lit.int k i).wf=true
  | some .string=>∃ s:ByteArray,v = .str s∧s.size≤maxLen
  | some (.slice e)=>∃ rows,v = .pl rows∧rows.length≤maxLen∧∀ r∈rows,∃ ts,q53 P (n+1) e=some ts∧r.length=ts.length∧∀ (j:Nat) (t':TypeId) (v':AV),ts[j]?=some t'→r[j]?=some v'→q4c P n t' v'
  | _=>False
def ql1 (P:Program) (n:Nat) (ts:List TypeId) (r:List AV):Prop:=r.length=ts.length∧∀ (j:Nat) (t':TypeId) (v':AV),ts[j]?=some t'→r[j]?=some v'→q4c P n t' v'
section
variable {P : Program} {Hd : Type} {enc : TypeId × Value → Hd} {w : World} {base : Nat} {spare : Nat → Bool} {held : Bool}
theorem qke {rec:TypeId→Option (List TypeId)} {total:Nat}:∀ (fs:List Field) (off:Nat) (ts:List TypeId),tile P rec total off fs=some ts→off+ts.length=total∧off≤total ∧
  ∀ (f:Field),f∈fs→∃ a,rec f.type=some a∧a.length=P.cellsOf f.type∧off≤f.offset∧f.offset+a.length≤total∧(∀ j,j<a.length→ts[f.offset-off+j]?=a[j]?)
 | [],off,ts,h=>by
  unfold tile at h
  split at h
  ·cases h;simp_all
  ·cases h
 | f :: fs,off,ts,h=>by
  unfold tile at h
  split at h
  ·rename_i ho
   split at h
   ·rename_i a ha
    split at h
    ·rename_i hl
     split at h
     ·rename_i r hr
      cases h
      obtain ⟨h1,h2,h3⟩:=qke fs _ _ hr
      refine ⟨by simp;omega,by omega,fun g hg=>?_⟩
      rcases List.mem_cons.1 hg with rfl | hg
      ·refine ⟨a,ha,hl,by omega,by omega,fun j hj=>?_⟩
       rw [ho,Nat.sub_self,Nat.zero_add,List.getElem?_append_left hj]
      ·obtain ⟨b,k1,k2,k3,k4,k5⟩:=h3 g hg
       refine ⟨b,k1,k2,by omega,k4,fun j hj=>?_⟩
       rw [List.getElem?_append_right (by omega),← k5 j hj]
       congr 1
       omega
     ·cases h
    ·cases h
   ·cases h
  ·cases h
theorem qgs {rec:TypeId→Option (List TypeId)} {total:Nat}:∀ (fs:List Field) (off:Nat) (ts:List TypeId),tile P rec total off fs=some ts→∀ j,off≤j→j<total→∃ f∈fs,f.offset≤j∧j<f.offset+P.cellsOf f.type
 | [],off,ts,h,j,h1,h2=>by
  unfold tile at h
  split at h
  ·omega
  ·cases h
 | f :: fs,off,ts,h,j,h1,h2=>by
  unfold tile at h
  split at h
  ·rename_i ho
   split at h
   ·split at h
    ·split at h
     ·rename_i r hr
      by_cases hj:j<off+P.cellsOf f.type
      ·exact ⟨f,List.mem_cons_self,by omega,by omega⟩
      ·obtain ⟨g,hg,k⟩:=qgs fs _ _ hr j (by omega) h2
       exact ⟨g,List.mem_cons_of_mem _ hg,k⟩
     ·cases h
    ·cases h
   ·cases h
  ·cases h
theorem qdo {t:TypeId} {fuel:Nat} {cs:List Value} {x:DataW Hd×List MemPlace} (hu:P.underlying t=some .bool∨(∃ k,P.underlying t=some (.int k))∨P.underlying t=some .string∨∃ e,P.underlying t=some (.slice e)) (h:DataW.trod enc P w base spare held (fuel+1) t cs=some x):∃ u,cs=[u]:=by
 unfold DataW.trod at h
 rcases hu with hu | ⟨k,hu⟩ | hu | ⟨e,hu⟩<;>rw [hu] at h<;>split at h<;>first | exact ⟨_,rfl⟩ | (simp_all;done)
theorem q92:∀ (n:Nat) (t:TypeId) (ts:List TypeId) (fuel:Nat) (cs:List Value) (x:DataW Hd×List MemPlace),q53 P n t=some ts→DataW.trod enc P w base spare held fuel t cs=some x →
  cs.length=ts.length∧∀ (j:Nat) (t':TypeId) (u:Value),ts[j]?=some t'→cs[j]?=some u→∃ fuel' x',DataW.trod enc P w base spare held fuel' t' [u]=some x'∧(P.underlying t'=some .bool∨(∃ k,P.underlying t'=some (.int k))∨P.underlying t'=some .string∨∃ e,P.underlying t'=some (.slice e)∧P.cellsOf e≠0)
 | 0,_,_,_,_,_,h,_=>by cases h
 | _+1,_,_,0,_,_,_,h=>by cases h
 | n+1,t,ts,fuel+1,cs,x,h,hx=>by
  have one:∀ u,cs=[u]→ts=[t]→(P.underlying t=some .bool∨(∃ k,P.underlying t=some (.int k))∨P.underlying t=some .string∨∃ e,P.underlying t=some (.slice e)∧P.cellsOf e≠0)→cs.length=ts.length∧∀ (j:Nat) (t':TypeId) (u:Value),ts[j]?=some t'→cs[j]?=some u→∃ fuel' x',DataW.trod enc P w base spare held fuel' t' [u]=some x'∧(P.underlying t'=some .bool∨(∃ k,P.underlying t'=some (.int k))∨P.underlying t'=some .string∨∃ e,P.underlying t'=some (.slice e)∧P.cellsOf e≠0):=by
   rintro u rfl rfl hk
   refine ⟨rfl,fun j t' u' h1 h2=>?_⟩
   cases j with
   | zero=>simp at h1 h2;subst h1;subst h2;exact ⟨fuel+1,x,hx,hk⟩
   | succ j=>simp at h1
  unfold q53 at h
  split at h
  ·rename_i hu
   cases h
   obtain ⟨u,hcs⟩:=qdo (.inl hu) hx
   exact one u hcs rfl (.inl hu)
  ·rename_i k hu
   cases h
   obtain ⟨u,hcs⟩:=qdo (.inr (.inl ⟨k,hu⟩)) hx
   exact one u hcs rfl (.inr (.inl ⟨k,hu⟩))
  ·rename_i hu
   cases h
   obtain ⟨u,hcs⟩:=qdo (.inr (.inr (.inl hu))) hx
   exact one u hcs rfl (.inr (.inr (.inl hu)))
  ·rename_i e hu
   split at h
   ·cases h
   ·rename_i he
    cases h
    obtain ⟨u,hcs⟩:=qdo (.inr (.inr (.inr ⟨e,hu⟩))) hx
    exact one u hcs rfl (.inr (.inr (.inr ⟨e,hu,he⟩)))
  ·rename_i fs hu
   obtain ⟨h1,_,h3⟩:=qke _ _ _ h
   rw [Nat.zero_add] at h1
   unfold DataW.trod at hx
   rw [hu] at hx
   simp only at hx
   split at hx
   ·rename_i hl
    cases hm:fs.toList.mapM (fun f=>DataW.trod enc P w base spare held fuel f.type ((cs.drop f.offset).take (P.cellsOf f.type))) with
    | none=>rw [hm] at hx;simp at hx
    | some xs =>
     have hg:=mapM_some_get hm
     refine ⟨hl.trans h1.symm,fun j t' u hj hu'=>?_⟩
     have hjt:j<P.cellsOf t:=by rw [← h1];exact (List.getElem?_eq_some_iff.1 hj).1
     obtain ⟨f,hf,k1,k2⟩:=qgs _ _ _ h j (Nat.zero_le _) hjt
     obtain ⟨a,ha,hal,_,_,hat⟩:=h3 f hf
     obtain ⟨i,hi⟩:=List.mem_iff_getElem?.1 hf
     have hx1:=hg i f hi
     have hil:i<xs.length:=by rw [mapM_some_length hm];exact (List.getElem?_eq_some_iff.1 hi).1
     rw [List.getElem?_eq_getElem hil] at hx1
     obtain ⟨_,hrec⟩:=q92 n f.type a fuel _ _ ha hx1
     have hj2:j-f.offset<a.length:=by omega
     have e1:=hat (j-f.offset) hj2
     rw [show f.offset-0+(j-f.offset)=j by omega,hj] at e1
     refine hrec (j-f.offset) t' u e1.symm ?_
     rw [List.getElem?_take,if_pos (by omega),List.getElem?_drop,show f.offset+(j-f.offset)=j by omega]
     exact hu'
   ·cases hx
  ·rename_i m e hu
   split at h
   ·rename_i a ha
    split at h
    ·rename_i hal
     cases h
     unfold DataW.trod at hx
     rw [hu] at hx
     simp only at hx
     split at hx
     ·rename_i hl
      cases hm:(List.range m).mapM (fun i=>DataW.trod enc P w base spare held fuel e ((cs.drop (i * P.cellsOf e)).take (P.cellsOf e))) with
      | none=>rw [hm] at hx;simp at hx
      | some xs =>
       have hg:=mapM_some_get hm
       have hfl:(List.replicate m a).flatten.length=m * P.cellsOf e:=by simp [hal.1]
       refine ⟨by rw [hl,hal.2,hfl],fun j t' u hj hu'=>?_⟩
       have hjt:j<m * P.cellsOf e:=by rw [← hfl];exact (List.getElem?_eq_some_iff.1 hj).1
       have hpos:0<P.cellsOf e:=by
        rcases Nat.eq_zero_or_pos (P.cellsOf e) with h0 | h0
        ·rw [h0] at hjt;simp at hjt
        ·exact h0
       have hi:j / P.cellsOf e<m:=(Nat.div_lt_iff_lt_mul hpos).2 hjt
       have hx1:=hg (j / P.cellsOf e) (j / P.cellsOf e) (by simp [hi])
       have hil:j / P.cellsOf e<xs.length:=by rw [mapM_some_length hm];simpa using hi
       rw [List.getElem?_eq_getElem hil] at hx1
       obtain ⟨_,hrec⟩:=q92 n e a fuel _ _ ha hx1
       have hdm:j / P.cellsOf e * P.cellsOf e+j % P.cellsOf e=j:=Nat.div_add_mod' _ _
       have hmod:j % P.cellsOf e<P.cellsOf e:=Nat.mod_lt _ hpos
       refine hrec (j % P.cellsOf e) t' u ?_ ?_
       ·have hw:∀ r∈List.replicate m a,r.length=P.cellsOf e:=fun r hr=>by rw [List.eq_of_mem_replicate hr];exact hal.1
        have h3:=qjf (sz:=P.cellsOf e) hw (i:=j / P.cellsOf e) (r:=a) (by rw [List.getElem?_replicate,if_pos hi]) hmod
        rw [hdm] at h3
        rw [← h3];exact hj
       ·rw [List.getElem?_take,if_pos hmod,List.getElem?_drop,hdm]
        exact hu'
     ·cases hx
    ·cases h
   ·cases h
  ·cases h
theorem q7m {α:Type} {p:Nat→α→Prop}:∀ (n:Nat),(∀ j,j<n→∃ v,p j v)→∃ l:List α,l.length=n∧∀ (j:Nat) (v:α),l[j]?=some v→p j v
 | 0,_=>⟨[],rfl,fun _ _ h=>by simp at h⟩
 | n+1,h=>by
  obtain ⟨l,h1,h2⟩:=q7m n (fun j hj=>h j (by omega))
  obtain ⟨v,hv⟩:=h n (by omega)
  refine ⟨l++[v],by simp [h1],fun j x hx=>?_⟩
  rcases Nat.lt_or_ge j l.length with hj | hj
  ·rw [List.getElem?_append_left hj] at hx;exact h2 j x hx
  ·rw [List.getElem?_append_right hj] at hx
   have:j-l.length=0:=by
    rcases Nat.eq_zero_or_pos (j-l.length) with e | e
    ·exact e
    ·rw [List.getElem?_eq_none Y1x] at hx;cases hx
   rw [this] at hx
   simp at hx
   subst hx
   rw [show j=n by omega]
   exact hv
def q80 (P:Program):Nat→TypeId→Bool
 | 0,_=>false
 | n+1,t=>match P.underlying t with
  | some .bool | some (.int _) | some .string=>true
  | some (.slice e)=>match q53 P (n+1) e with
   | some ts=>decide (P.cellsOf e≠0)&&decide (ts.length=P.cellsOf e)&&ts.all (q80 P n)
   | none=>false
  | _=>false
theorem qm1:∀ (n:Nat) (t:TypeId) (u:Value) (fuel:Nat) (x:DataW Hd×List MemPlace),q80 P n t=true→DataW.trod enc P w base spare held fuel t [u]=some x→∃ v,q4c P n t v∧v.leaf=true∧VR (own []) w [] v u
 | 0,_,_,_,_,h,_=>by cases h
 | _+1,_,_,0,_,_,h=>by cases h
 | n+1,t,u,fuel+1,x,h,hx=>by
  unfold q80 at h
  unfold q4c
  unfold DataW.trod at hx
  split at h
  ·rename_i hu
   rw [hu] at hx
   split at hx<;>first | (simp_all;done) | skip
   rename_i b _ hc
   obtain rfl:=(List.cons.inj hc).1
   exact ⟨_,⟨_,rfl⟩,rfl,.bool⟩
  ·rename_i k hu
   rw [hu] at hx
   split at hx<;>first | (simp_all;done) | skip
   split at hx
   ·rename_i k' k'' i hk hc hw
    obtain rfl:=(List.cons.inj hc).1
    injection hk with hk
    injection hk with hk
    subst hk
    obtain ⟨rfl,hw⟩:=hw
    exact ⟨_,⟨_,rfl,hw⟩,rfl,.int⟩
   ·cases hx
  ·rename_i hu
   rw [hu] at hx
   split at hx<;>first | (simp_all;done) | skip
   split at hx
   ·rename_i s _ hc hw
    obtain rfl:=(List.cons.inj hc).1
    exact ⟨_,⟨_,rfl,hw⟩,rfl,.str⟩
   ·cases hx
  ·rename_i e hu
   rw [hu] at hx
   split at h
   ·rename_i ts hts
    simp only [Bool.and_eq_true,decide_eq_true_eq] at h
    obtain ⟨⟨he,htl⟩,hall⟩:=h
    split at hx<;>first | (simp_all;done) | skip
    ·rename_i e' hk hc
     obtain rfl:=(List.cons.inj hc).1
     refine ⟨.pl [],⟨[],rfl,Nat.zero_le _,by simp⟩,rfl,.pl (xs:=[]) default 0 (fun _ _=>undef) (Nat.zero_le _) (fun h=>absurd rfl h) (fun _ _ h=>by simp at h) (fun _ h=>by simp at h) (fun _ _ _ _ h=>by simp at h) (fun _ _ _ _ h=>by simp at h)⟩
    ·rename_i e' a len cap hk hc
     obtain rfl:=(List.cons.inj hc).1
     injection hk with hk
     injection hk with hk
     subst hk
     simp only at hx
     split at hx
     ·rename_i hcnd
      cases hm:(List.range len).mapM (fun i=>(w.cells? base (a.add (i * P.cellsOf e)) (P.cellsOf e)).bind (DataW.trod enc P w base spare held fuel e)) with
      | none=>rw [hm] at hx;simp at hx
      | some xs =>
       have hg:=mapM_some_get hm
       have row:∀ i,i<len→∃ r:List AV,r.length=P.cellsOf e∧(∀ (j:Nat) (t':TypeId) (v':AV),ts[j]?=some t'→r[j]?=some v'→q4c P n t' v')∧a.block<w.heap.size ∧
         ∀ (j:Nat) (v:AV),r[j]?=some v→v.leaf=true∧∃ u,w.cell? (a.add (i * P.cellsOf e+j))=some u∧VR (own []) w [] v u:=by
        intro i hi
        have hx1:=hg i i (by simp [hi])
        have hil:i<xs.length:=by rw [mapM_some_length hm];simpa using hi
        rw [List.getElem?_eq_getElem hil] at hx1
        cases hcs:w.cells? base (a.add (i * P.cellsOf e)) (P.cellsOf e) with
        | none=>rw [hcs] at hx1;simp at hx1
        | some cs =>
         rw [hcs] at hx1
         simp only [Option.bind_some] at hx1
         obtain ⟨_,hcl,hcell⟩:=World.cells?_some hcs
         obtain ⟨hl,hrec⟩:=q92 (n+1) e ts fuel cs _ hts hx1
         have hblk:=World.cells?_block hcs (by omega)
         rw [q7j] at hblk
         obtain ⟨r,hr1,hr2⟩:=q7m (p:=fun j v=>v.leaf=true∧(∀ t',ts[j]?=some t'→q4c P n t' v)∧∃ u,w.cell? (a.add (i * P.cellsOf e+j))=some u∧VR (own []) w [] v u) (P.cellsOf e) (fun j hj=>by
          have hjc:j<cs.length:=by omega
          have hjt:j<ts.length:=by omega
          obtain ⟨fuel',x',hx',_⟩:=hrec j _ _ (List.getElem?_eq_getElem hjt) (List.getElem?_eq_getElem hjc)
          obtain ⟨v,k1,k2,k3⟩:=qm1 n _ _ fuel' x' (List.all_eq_true.1 hall _ (List.getElem_mem hjt)) hx'
          refine ⟨v,k2,fun t' ht'=>?_,_,?_,k3⟩
          ·rw [List.getElem?_eq_getElem hjt] at ht'
           obtain rfl:=Option.some.inj ht'
           exact k1
          ·have:=hcell j hj
           rw [qbp] at this
           rw [this,List.getElem?_eq_getElem hjc])
         exact ⟨r,hr1,fun j t' v' ht' hv'=>(hr2 j v' hv').2.1 t' ht',hblk,fun j v hv=>⟨(hr2 j v hv).1,(hr2 j v hv).2.2⟩⟩
       obtain ⟨rows,hr1,hr2⟩:=q7m len row
       have hrows:∀ i r,rows[i]?=some r→i<len:=fun i r hr=>by rw [← hr1];exact (List.getElem?_eq_some_iff.1 hr).1
       refine ⟨.pl rows,⟨rows,rfl,by omega,fun r hr=>?_⟩,rfl,?_⟩
       ·obtain ⟨i,hi⟩:=List.mem_iff_getElem?.1 hr
        obtain ⟨k1,k2,_,_⟩:=hr2 i r hi
        exact ⟨ts,hts,by omega,k2⟩
       ·rw [← hr1]
        refine .pl a (P.cellsOf e) (fun i j=>(w.cell? (a.add (i * P.cellsOf e+j))).getD undef) (by omega) (fun hne=>?_) (fun i r hr=>(hr2 i r hr).1) (fun i hi j hj=>?_) (fun i j r v hr hv=>((hr2 i r hr).2.2.2 j v hv).1) (fun i j r v hr hv=>?_)
        ·have hpos:0<rows.length:=List.length_pos_iff.2 hne
         exact ⟨rfl,by rintro ⟨i,s,hs,_⟩;simp at hs,(hr2 0 _ (List.getElem?_eq_getElem hpos)).2.2.1⟩
        ·have hk:=hr2 i _ (List.getElem?_eq_getElem hi)
         obtain ⟨_,u,hu',_⟩:=hk.2.2.2 j _ (List.getElem?_eq_getElem (by rw [hk.1];exact hj))
         rw [hu'];rfl
        ·obtain ⟨_,u,hu',hv'⟩:=(hr2 i r hr).2.2.2 j v hv
         rw [hu'];exact hv'
     ·cases hx
   ·cases h
  ·cases h
theorem q12d {n:Nat} {t:TypeId} {ts:List TypeId} {v:Value} {d:DataW Hd} {ps:List MemPlace} (hts:q53 P (n+1) t=some ts) (hd:ts.all (q80 P n)=true) (h:DataW.Trod enc P w base spare held t v d ps) :
  ∃ r:List AV,ql1 P n ts r∧r.length=v.cells.size∧∀ (j:Nat) (a:AV) (u:Value),r[j]?=some a→v.cells[j]?=some u→a.leaf=true∧VR (own []) w [] a u:=by
 obtain ⟨fuel,h⟩:=h
 obtain ⟨hl,hrec⟩:=q92 (n+1) t ts fuel _ _ hts h
 obtain ⟨r,hr1,hr2⟩:=q7m (p:=fun j a=>a.leaf=true∧(∀ t',ts[j]?=some t'→q4c P n t' a)∧∀ u,v.cells.toList[j]?=some u→VR (own []) w [] a u) ts.length (fun j hj=>by
  have hjc:j<v.cells.toList.length:=by omega
  obtain ⟨fuel',x',hx',_⟩:=hrec j _ _ (List.getElem?_eq_getElem hj) (List.getElem?_eq_getElem hjc)
  obtain ⟨a,k1,k2,k3⟩:=qm1 n _ _ fuel' x' (List.all_eq_true.1 hd _ (List.getElem_mem hj)) hx'
  refine ⟨a,k2,fun t' ht'=>?_,fun u hu=>?_⟩
  ·rw [List.getElem?_eq_getElem hj] at ht'
   obtain rfl:=Option.some.inj ht'
   exact k1
  ·rw [List.getElem?_eq_getElem hjc] at hu
   obtain rfl:=Option.some.inj hu
   exact k3)
 refine ⟨r,⟨hr1,fun j t' v' ht' hv'=>(hr2 j v' hv').2.1 t' ht'⟩,by rw [hr1,← hl];simp,fun j a u ha hu=>⟨(hr2 j a ha).1,(hr2 j a ha).2.2 u (by simpa using hu)⟩⟩
end
end Go.Av
namespace Go.Av
open Go.RowKit
section
variable {P : Program} {Hd : Type} {enc : TypeId × Value → Hd} {w : World} {base b : Nat} {spare : Nat → Bool} {held : Bool}
theorem qxo {n:Nat} {t:TypeId} {v:Value} {d:DataW Hd} {ps:List MemPlace} (hd:q80 P n t=true) (hval:Value.okWide P w .any b t v) (h:DataW.Trod enc P w base spare held t v d ps):∃ a,q4c P n t a∧VR (own []) w [] a v:=by
 have hc:v.cells = #[v]:=by
  cases n with
  | zero=>cases hd
  | succ n =>
   unfold q80 at hd
   unfold Value.okWide at hval
   cases v with
   | agg cs =>
    exfalso
    split at hd<;>rename_i hu<;>simp [hu,Cell.okWide,Cell.ok] at hval hd
   | _=>rfl
 obtain ⟨fuel,h⟩:=h
 rw [hc] at h
 obtain ⟨a,h1,_,h2⟩:=qm1 n t v fuel _ hd h
 exact ⟨a,h1,h2⟩
theorem q10f {n:Nat} {t:TypeId} {ts:List TypeId} {v:Value} {d:DataW Hd} {ps:List MemPlace} (hts:q53 P (n+1) t=some ts) (hall:ts.all (q80 P n)=true) (hagg:(∃ fs,P.underlying t=some (.struct fs))∨∃ m e,P.underlying t=some (.array m e)) (hval:Value.okWide P w .any b t v) (h:DataW.Trod enc P w base spare held t v d ps):∃ r,ql1 P n ts r∧VR (own []) w [] (.agg r) v:=by
 obtain ⟨r,h1,h2,h3⟩:=q12d hts hall h
 have hv:∃ cs,v = .agg cs:=by
  unfold Value.okWide at hval
  rcases hagg with ⟨fs,hu⟩ | ⟨m,e,hu⟩<;>rw [hu] at hval<;>exact ⟨_,hval.choose_spec.1⟩
 obtain ⟨cs,rfl⟩:=hv
 have hc:(Value.agg cs).cells=cs:=rfl
 rw [hc] at h2 h3
 exact ⟨r,h1,.agg h2 (fun j a ha=>by
  have hj:j<cs.size:=by rw [← h2];exact (List.getElem?_eq_some_iff.1 ha).1
  exact (h3 j a _ ha (Array.getElem?_eq_getElem hj)).1) (fun j a u ha hu=>(h3 j a u ha hu).2)⟩
theorem quf {n:Nat} {t:TypeId} {a:AV} (hu:P.underlying t=some .bool) (h:q4c P (n+1) t a):∃ b,a = .bool b:=by
 unfold q4c at h;rw [hu] at h;exact h
theorem q4w {n:Nat} {t:TypeId} {k:IntKind} {a:AV} (hu:P.underlying t=some (.int k)) (h:q4c P (n+1) t a):∃ i,a = .int k i∧(Lit.int k i).wf=true:=by
 unfold q4c at h;rw [hu] at h;exact h
theorem qx5 {n:Nat} {t:TypeId} {a:AV} (hu:P.underlying t=some .string) (h:q4c P (n+1) t a):∃ s:ByteArray,a = .str s∧s.size≤maxLen:=by
 unfold q4c at h;rw [hu] at h;exact h
theorem qvl {n:Nat} {t e:TypeId} {ts:List TypeId} {a:AV} (hu:P.underlying t=some (.slice e)) (hts:q53 P (n+1) e=some ts) (h:q4c P (n+1) t a):∃ rows,a = .pl rows∧rows.length≤maxLen∧∀ r∈rows,ql1 P n ts r:=by
 unfold q4c at h
 rw [hu] at h
 obtain ⟨rows,h1,h2,h3⟩:=h
 refine ⟨rows,h1,h2,fun r hr=>?_⟩
 obtain ⟨ts',k1,k2,k3⟩:=h3 r hr
 rw [hts] at k1
 obtain rfl:=Option.some.inj k1
 exact ⟨k2,k3⟩
theorem qnp {n:Nat} {r:List AV} (h:ql1 P n [] r):r=[]:=List.eq_nil_of_length_eq_zero h.1
theorem q3n {n:Nat} {t:TypeId} {ts:List TypeId} {r:List AV} (h:ql1 P n (t :: ts) r):∃ v r',r=v :: r'∧q4c P n t v∧ql1 P n ts r':=by
 cases r with
 | nil=>have:=h.1;simp at this
 | cons v r=>exact ⟨v,r,rfl,h.2 0 t v rfl rfl,by simpa using h.1,fun j t' v' h1 h2=>h.2 (j+1) t' v' h1 h2⟩
theorem qil {α:Type} {e:α→List AV}:∀ {rows:List (List AV)},(∀ r∈rows,∃ x,r=e x)→∃ l:List α,rows=l.map e
 | [],_=>⟨[],rfl⟩
 | r :: rows,h=>by
  obtain ⟨x,rfl⟩:=h r List.mem_cons_self
  obtain ⟨l,rfl⟩:=qil (rows:=rows) fun r hr=>h r (List.mem_cons_of_mem _ hr)
  exact ⟨x :: l,rfl⟩
theorem quw {n:Nat} {t:TypeId} {a:AV} (hu:P.underlying t=some (.int .u8)) (h:q4c P (n+1) t a):∃ c:UInt8,a = .int .u8 (c.toNat:Int):=by
 obtain ⟨i,rfl,hw⟩:=q4w hu h
 have h2:0≤i∧i<256:=by
  have e1:IntKind.u8.min=0:=rfl
  have e2:IntKind.u8.max=255:=rfl
  simp [Lit.wf,e1,e2] at hw
  omega
 refine ⟨UInt8.ofNat i.toNat,?_⟩
 congr 1
 have:i.toNat<256:=by omega
 simp [UInt8.toNat_ofNat',Nat.mod_eq_of_lt this]
 omega
theorem qqd {n:Nat} {t e:TypeId} {a:AV} (hu:P.underlying t=some (.slice e)) (he:P.underlying e=some (.int .u8)) (h:q4c P (n+2) t a):∃ bs:List UInt8,a = .pl (bs.map qz):=by
 have hts:q53 P (n+1+1) e=some [e]:=by unfold q53;rw [he]
 obtain ⟨rows,rfl,_,h3⟩:=qvl hu hts h
 obtain ⟨l,rfl⟩:=qil (e:=qz) (rows:=rows) fun r hr=>by
  obtain ⟨v,r',rfl,h1,h2⟩:=q3n (h3 r hr)
  obtain rfl:=qnp h2
  obtain ⟨c,rfl⟩:=quw he h1
  exact ⟨c,rfl⟩
 exact ⟨l,rfl⟩
inductive All2 {α β : Type} (R : α → β → Prop) : List α → List β → Prop where
 | nil:All2 R [] []
 | cons {a b as1 bs} (h:R a b) (k:All2 R as1 bs):All2 R (a :: as1) (b :: bs)
theorem All2.vrs {O:Nat→Prop} {S:List Slot} {vs:List AV} {us:List Value} (h:All2 (VR O w S) vs us):VRs O w S vs us.toArray:=by
 induction h with
 | nil=>exact ⟨rfl,fun i v u hv=>by simp at hv⟩
 | cons h k ih =>
  refine ⟨by simpa using ih.1,fun i v u hv hu=>?_⟩
  cases i with
  | zero=>simp at hv hu;subst hv;subst hu;exact h
  | succ i=>exact ih.2 i v u (by simpa using hv) (by simpa using hu)
end
end Go.Av
namespace Go.Av
end Go.Av
