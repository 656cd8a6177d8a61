/- Parts of the proof: rules for an abstract memory, plain laws, and walks through the program. -/
import Derived.Test.YtcncbmpblkgfjaaGreatDoorRightP0
import Derived.Test.YtcncbmpblkgfjaaGreatDoorRightP1
import Derived.DataReads
import Derived.ChangeOld
import Derived.WalkKit
import Derived.ProofKit
import Derived.OpenShut
import Derived.ShutString
import Derived.Below
import Derived.SizedLaws
import Derived.Carry
import Derived.Test.YtcncbmpblkgfjaaGreatDoorProg
import Derived.KernelRfl
import Derived.Laws.StructEq
set_option maxRecDepth 10000
set_option linter.unusedVariables false
set_option linter.unusedSimpArgs false
namespace Go.Av
def qh4 (p:Nat→Bool) (n:Nat):Bool:=(List.range n).all p
theorem q2s {p:Nat→Bool} {n:Nat} (h:∀ i,i<n→p i=true):qh4 p n=true:=List.all_eq_true.2 fun k hk=>h k Y18
theorem q4f {p:Nat→Bool} {n k:Nat} (h:qh4 p n=true) (hk:k<n):p k=true:=List.all_eq_true.1 h k Y18
theorem q1z {p:Nat→Bool} {n k:Nat} (hk:k<n) (h:p k=false):qh4 p n=false:=by
 cases e:qh4 p n with
 | false=>rfl
 | true=>rw [q4f e hk] at h;cases h
def idx (p:Nat→Bool) (n:Nat):List Int:=((List.range n).filter p).map fun j:Nat=>(j:Int)
theorem q5t (p:Nat→Bool) (n:Nat):idx p (n+1)=idx p n++if p n then [(n:Int)] else []:=by
 rw [idx,List.range_succ,List.filter_append,List.map_append,idx]
 congr 1
 cases h:p n<;>simp [h]
theorem q62 (p:Nat→Bool) (n:Nat):(idx p n).length≤n:=by
 rw [idx,List.length_map]
 exact Nat.le_trans (List.length_filter_le _ _) (by simp)
theorem idx_mem {p:Nat→Bool} {n:Nat} {x:Int}:x∈idx p n↔∃ k:Nat,x=k∧k<n∧p k=true:=by
 simp only [idx,List.mem_map,List.mem_filter,List.mem_range]
 constructor
 ·rintro ⟨k,⟨h1,h2⟩,rfl⟩;exact ⟨k,rfl,h1,h2⟩
 ·rintro ⟨k,rfl,h1,h2⟩;exact ⟨k,⟨h1,h2⟩,rfl⟩
theorem qeu (p:Nat→Bool) (n:Nat):(idx p n).Pairwise (· < ·):=by
 unfold idx
 rw [List.pairwise_map]
 exact (List.pairwise_lt_range.filter _).imp fun h=>by omega
theorem qg3 (p:Nat→Bool) {n:Nat} (h:n≤256):sok (idx p n)=true:=q3b (qeu p n) fun x hx=>by
 obtain ⟨k,rfl,h1,_⟩:=idx_mem.1 hx
 omega
structure Thing where
 kind:Int
 up:Int
 tag:ByteArray
 deriving DecidableEq
abbrev qq (t:Thing):List AV:=[.int .i64 t.kind,.int .i64 t.up,.str t.tag]
def qba:Thing:=⟨0,-1,⟨#[]⟩⟩
def q5o (kind up:Int):Bool:=(decide (kind=1)&&decide (up=0))||(decide (kind=2)&&(decide (up=0)||decide (up=1)))||((decide (kind=3)||decide (kind=4))&&decide (up=2))
def q2k (g:List Thing) (n:Nat):Int:=match g[n]? with
 | some t=>t.kind
 | none=>0
def qh3 (g:List Thing) (n:Nat):Int:=match g[n]? with
 | some t=>t.up
 | none=>-1
def qe6 (c:Int):Bool:=(decide (97≤c)&&decide (c≤122))||(decide (48≤c)&&decide (c≤57))
def qh5 (b:UInt8):Bool:=qe6 (b.toNat:Int)
def q8d (s:ByteArray):Bool:=decide ((s.size:Int)≤16)&&s.data.toList.all qh5
def qdw (t:Int):Int:=max 0 (min t 4611686018427387904)
def qdu (t l:Int):Int:=qdw t+min (qdw l) (4611686018427387904-qdw t)
theorem qfp (t:Int):0≤qdw t∧qdw t≤4611686018427387904:=by unfold qdw;omega
structure Spec where
 nodes:Int
 cores:Int
 gpus:Int
 tag:ByteArray
 whole:Bool
 long:Int
 prio:Int
 deriving DecidableEq
abbrev q2i (s:Spec):List AV:=[.int .i64 s.nodes,.int .i64 s.cores,.int .i64 s.gpus,.str s.tag,.bool s.whole,.int .i64 s.long,.int .i64 s.prio]
def qz1:Spec:=⟨0,0,0,⟨#[]⟩,false,0,0⟩
def qfr (s:Spec):Bool:=(decide (1≤s.nodes)&&decide (s.nodes≤64))&&(decide (0≤s.cores)&&decide (s.cores≤64))&&(decide (0≤s.gpus)&&decide (s.gpus≤64))
def qo1 (s:Spec):Bool:=s.whole||decide (0<s.cores)||decide (0<s.gpus)
def q2m (s:Spec):Bool:=qfr s&&qo1 s&&q8d s.tag&&(decide (1≤s.long)&&decide (s.long≤1099511627776))&&(decide (-1000≤s.prio)&&decide (s.prio≤1000))
theorem q5a {s:Spec} (h:q2m s=true):1≤s.nodes∧s.nodes≤64∧0≤s.cores∧s.cores≤64∧0≤s.gpus∧s.gpus≤64∧1≤s.long∧s.long≤1099511627776∧-1000≤s.prio∧s.prio≤1000:=by
 simp only [q2m,qfr,Bool.and_eq_true,decide_eq_true_eq] at h
 omega
def q1p (s:Spec) (t:Int):Int:=qdu t (if q2m s then s.long else 0)
structure Job where
 id:Int
 spec:Spec
 needs:List Int
 state:Int
 came:Int
 frm:Int
 to:Int
 deriving DecidableEq
def tm (t:Int):Bool:=decide (0≤t)&&decide (t≤4611686018427387904)
def ndB (id:Int) (l:List Int) (i:Nat):Bool:=match l[i]? with
 | none=>true
 | some n=>decide (1≤n)&&decide (n<id)&&(i == 0||match l[i-1]? with
  | some m=>decide (m<n)
  | none=>true)
def qfl (id:Int) (l:List Int):Bool:=(List.range l.length).all (ndB id l)
def q78 (j:Job):Bool:=decide (j.needs.length≤16)&&qfl j.id j.needs
theorem qlv {id:Int} {l:List Int} {k:Nat} (hk:k<l.length) (h:ndB id l k=false):qfl id l=false:=by
 cases hs:qfl id l with
 | false=>rfl
 | true =>
  have:=List.all_eq_true.1 hs k Y18
  rw [h] at this;cases this
theorem ql1 {id:Int} {l:List Int} (h:∀ k,k<l.length→ndB id l k=true):qfl id l=true:=List.all_eq_true.2 fun k hk=>h k Y18
theorem qd1 {id:Int} {l:List Int} {k:Nat} {n:Int} (hn:l[k]?=some n):ndB id l k=(decide (1≤n)&&decide (n<id)&&(k == 0||match l[k-1]? with
  | some m=>decide (m<n)
  | none=>true)):=by rw [ndB,hn]
def q9e (j:Job):Bool:=tm j.frm&&decide (j.came≤j.frm)
def qch (j:Job):Bool:=tm j.to&&decide (max j.came j.frm≤j.to)
def q43 (j:Job):Bool :=
 if j.state=0∨j.state=1 then j.frm == 0&&j.to == 0
 else if j.state=2 then q9e j&&j.to == 0
 else if j.state=3∨j.state=4 then q9e j&&qch j
 else if j.state=5 then (q9e j||j.frm == 0)&&qch j
 else j.state == 6&&j.frm == 0&&qch j
def q1q (j:Job):Bool:=decide (1≤j.id)&&decide (j.id≤1073741824)&&q2m j.spec&&q78 j&&tm j.came&&q43 j
theorem q80 {j:Job} (h:tm j.came=true):q43 j=(decide (0≤j.state)&&decide (j.state≤6)&&tm j.frm&&tm j.to&&(if j.state=0∨j.state=1∨j.state=6 then decide (j.frm=0) else decide (j.came≤j.frm)||(decide (j.state=5)&&decide (j.frm=0)))&&(if j.state<3 then decide (j.to=0) else decide (j.came≤j.to)&&decide (j.frm≤j.to))):=by
 rw [Bool.eq_iff_iff]
 unfold q43 q9e qch tm at *
 simp only [Bool.and_eq_true,decide_eq_true_eq] at h
 repeat' split
 all_goals simp only [Bool.and_eq_true,Bool.or_eq_true,decide_eq_true_eq,beq_iff_eq]
 all_goals omega
def q3w (s w:Int):Option Int :=
 if s=0∧w=1 then some 1 else if s=1∧w=2 then some 0 else if s=0∧w=3 then some 2 else if s=2∧w=4 then some 3 else if s=2∧w=5 then some 4 else if s≤2∧w=6 then some 5 else if s<2∧w=7 then some 6 else none
def nx (s w:Int):Int×Bool:=match q3w s w with
 | some t=>(t,true)
 | none=>(s,false)
def q3z (s:Int):Bool:=decide (3≤s)&&decide (s≤6)
def q3f (j:Job) (s now:Int):Job:=⟨j.id,j.spec,j.needs,s,j.came,if s=2 then now else j.frm,if q3z s then now else j.to⟩
def qdv (j:Job) (w now:Int):Bool:=!q1q j||decide (w<1)||decide (7<w)||!tm now||decide (now<max j.came j.frm)
def jdo (j:Job) (w now:Int):Job×Int:=if qdv j w now then (j,1) else match q3w j.state w with
 | none=>(j,8)
 | some s=>(q3f j s now,0)
theorem q53 {j:Job} (h:q1q j=true):0≤j.state∧j.state≤6:=by
 have h5:tm j.came=true:=by simp only [q1q,Bool.and_eq_true] at h;exact h.1.2
 have ht:q43 j=true:=by simp only [q1q,Bool.and_eq_true] at h;exact h.2
 rw [q80 h5] at ht
 simp only [Bool.and_eq_true,decide_eq_true_eq] at ht
 omega
theorem qll (f:Nat→Bool) (n:Nat):(qo5 f n).length≤64 * n:=by
 rw [qo5,List.length_map]
 exact Nat.le_trans (List.length_filter_le _ _) (by simp)
theorem qmk (f:Nat→Bool):(qdz f).length≤256:=qll f 4
def q4x (op:Bool→Bool→Bool) (a b:List Int):List Int:=if sok a&&sok b then qdz (fun n=>op (inl a n) (inl b n)) else []
theorem q5n (op:Bool→Bool→Bool) (a b:List Int):(q4x op a b).length≤256:=by
 unfold q4x
 split
 ·exact qmk _
 ·exact Nat.zero_le _
def q2u (a b:List Int):Bool:=sok a&&sok b&&decide (qdz (fun n=>inl a n&&!inl b n)=[])
def qb2 (a b:List Int):Bool:=sok a&&sok b&&decide (qdz (fun n=>inl a n&&inl b n)=[])
theorem q7u {op:Bool→Bool→Bool} {a b:List Int} (ha:sok a=true) (hb:sok b=true) (hop:op false false=false) (n:Nat):inl (q4x op a b) n=op (inl a n) (inl b n):=by
 rw [q4x,ha,hb,Bool.and_self,if_pos rfl,qmu]
 by_cases hn:n<256
 ·simp [hn]
 ·have h1:inl a n=false:=by
   cases h:inl a n with
   | false=>rfl
   | true=>exact absurd (qat ha h) hn
  have h2:inl b n=false:=by
   cases h:inl b n with
   | false=>rfl
   | true=>exact absurd (qat hb h) hn
  rw [h1,h2,hop];simp
theorem q51 (op:Bool→Bool→Bool) (a b:List Int):sok (q4x op a b)=true:=by
 unfold q4x
 split
 ·exact qlw _
 ·exact qkh
theorem qph {op:Bool→Bool→Bool} {a b:List Int} (ha:sok a=true) (hb:sok b=true) (hop:op false false=false):q4x op a b=[]↔∀ n,op (inl a n) (inl b n)=false:=by
 constructor
 ·intro h n
  rw [← q7u ha hb hop,h];rfl
 ·intro h
  rw [q4x,ha,hb,Bool.and_self,if_pos rfl,qgs]
  exact fun n _=>h n
theorem spart_iff {a b:List Int}:q2u a b=true↔sok a=true∧sok b=true∧∀ n,inl a n=true→inl b n=true:=by
 unfold q2u
 rw [Bool.and_eq_true,Bool.and_eq_true,decide_eq_true_eq,qgs]
 constructor
 ·rintro ⟨⟨h1,h2⟩,h3⟩
  refine ⟨h1,h2,fun n hn=>?_⟩
  have:=h3 n (qat h1 hn)
  simpa [hn] using this
 ·rintro ⟨h1,h2,h3⟩
  refine ⟨⟨h1,h2⟩,fun n _=>?_⟩
  cases ha:inl a n with
  | false=>rfl
  | true=>simp [h3 n ha]
abbrev q7t (a b:List Int):List Int:=q4x (·||·) a b
abbrev q4t (a b:List Int):List Int:=q4x (·&&·) a b
abbrev q8c (a b:List Int):List Int:=q4x (fun x y=>x&&!y) a b
section
variable {a b c : List Int}
theorem qkc (ha:sok a=true) (hb:sok b=true) (n:Nat):inl (q7t a b) n=(inl a n||inl b n):=q7u ha hb rfl n
theorem qkl (ha:sok a=true) (hb:sok b=true) (n:Nat):inl (q4t a b) n=(inl a n&&inl b n):=q7u ha hb rfl n
theorem qxc (ha:sok a=true) (hb:sok b=true) (n:Nat):inl (q8c a b) n=(inl a n&&!inl b n):=q7u ha hb rfl n
theorem qod {a b:List Int}:qb2 a b=true↔sok a=true∧sok b=true∧∀ n,(inl a n&&inl b n)=false:=by
 unfold qb2
 rw [Bool.and_eq_true,Bool.and_eq_true,decide_eq_true_eq,qgs]
 constructor
 ·rintro ⟨⟨h1,h2⟩,h3⟩
  refine ⟨h1,h2,fun n=>?_⟩
  by_cases hn:n<256
  ·exact h3 n hn
  ·cases h:inl a n with
   | false=>rfl
   | true=>exact absurd (qat h1 h) hn
 ·rintro ⟨h1,h2,h3⟩
  exact ⟨⟨h1,h2⟩,fun n _=>h3 n⟩
theorem qi6 {op:Bool→Bool→Bool} (ha:sok a=true) (hb:sok b=true) (hop:∀ y,op false y=false):q4x op a b=a.filter fun x=>op true (inl b x.toNat):=by
 have h1:(a.filter fun x=>op true (inl b x.toNat)).Pairwise (· < ·):=(q49 ha).filter _
 refine qg8 (q51 _ _ _) (q3b h1 fun x hx=>q4h ha (List.mem_filter.1 hx).1) fun n=>?_
 rw [q7u ha hb (hop false),Bool.eq_iff_iff]
 rw [inl_mem (l:=a.filter _),List.mem_filter]
 cases h:inl a n with
 | false =>
  have:¬ (n:Int)∈a:=fun k=>by rw [inl_mem.2 k] at h;cases h
  simp [hop,this]
 | true=>simp [inl_mem.1 h]
end
def qkx (g:List Thing) (i:Nat):Bool:=match g[i+1]? with
 | some t=>decide (0≤t.up)&&decide (t.up≤(i:Int))&&q5o t.kind (q2k g t.up.toNat)&&q8d t.tag&&(decide (t.tag=⟨#[]⟩)||decide (t.kind=2))
 | none=>true
def q1o (g:List Thing):Bool:=decide (1≤g.length)&&decide (g.length≤256)&&decide (g[0]?=some qba)&&qh4 (qkx g) (g.length-1)
def qt4 (g:List Thing) (n:Int):Nat→List Bool
 | 0=>[]
 | k+1=>qt4 g n k++[decide ((k:Int)=n)||(decide (0≤qh3 g k)&&(qt4 g n k).getD (qh3 g k).toNat false)]
def q44 (g:List Thing) (n:Int):Bool:=decide (0≤n)&&decide (n<(g.length:Int))&&q1o g
def q45 (g:List Thing) (n:Int):List Int:=if q44 g n then idx (fun k=>(qt4 g n g.length).getD k false) g.length else []
def q2o (g:List Thing) (h:List Int):Bool:=q1o g&&decide (h.length=g.length)&&!(h.any fun n=>decide (n<0)||decide (2<n))
def q4e (g:List Thing) (h:List Int):Nat→List Int
 | 0=>[]
 | k+1=>q4e g h k++[if 0≤qh3 g k then max (h.getD k 0) ((q4e g h k).getD (qh3 g k).toNat 0) else h.getD k 0]
def q21 (g:List Thing) (h:List Int) (most:Int):List Int:=if q2o g h then idx (fun k=>decide ((q4e g h g.length).getD k 0≤most)) g.length else []
structure Held where
 id:Int
 things:List Int
 frm:Int
 to:Int
 deriving DecidableEq
def qdy:Held:=⟨0,[],0,0⟩
def q79 (a b c d:Int):Bool:=decide (max a c<min b d)
def hmay (h:Held):Bool:=decide (0<h.things.length)&&sok h.things&&tm h.frm&&tm h.to&&decide (h.frm<h.to)
def q3p (a b:Held):Bool:=q79 a.frm a.to b.frm b.to&&!qb2 a.things b.things
def q73 (l:List Held) (i:Nat):Int:=match l[i]? with
 | some h=>h.id
 | none=>0
def q68 (l:List Held) (i:Nat):Bool:=match l[i]? with
 | some h=>hmay h&&!(decide (0<i)&&decide (h.id≤q73 l (i-1)))&&!((l.take i).any fun x=>q3p x h)
 | none=>true
def q1s (l:List Held):Bool:=decide (l.length≤256)&&qh4 (q68 l) l.length
def qw (l:List Held) (id:Int):Nat:=(l.takeWhile fun h=>decide (h.id<id)).length
def q23 (l:List Held) (id:Int):Bool:=decide (qw l id<l.length)&&decide (q73 l (qw l id)=id)
def q4q (l:List Held) (k:Nat):Held:=l.getD k qdy
def q1f (l:List Held) (h:Held):List Held×Int :=
 if !(q1s l&&hmay h) then (l,1) else if q23 l h.id then (l,7) else if decide (l.length=256)||l.any (fun x=>q3p x h) then (l,5)
 else (l.take (qw l h.id)++h :: l.drop (qw l h.id),0)
def q1a (l:List Held) (id:Int):List Held×Held×Int :=
 if !q1s l then (l,qdy,1) else if !q23 l id then (l,qdy,6) else (l.eraseIdx (qw l id),q4q l (qw l id),0)
def q2g (l:List Held) (id:Int):Held×Bool:=if q1s l&&q23 l id then (q4q l (qw l id),true) else (qdy,false)
def q5f (l:List Held) (frm to:Int):List Int:=l.foldl (fun out h=>if q79 h.frm h.to frm to then q7t out h.things else out) []
def q3c (l:List Held) (frm to:Int):List Int:=if q1s l then q5f l frm to else []
def q1x (l:List Held) (now:Int):List Held×List Held:=if q1s l then (l.filter (fun h=>!decide (h.to≤now)),l.filter (fun h=>decide (h.to≤now))) else (l,[])
def qua:Job:=⟨0,qz1,[],0,0,0,0⟩
def q1r (l:List Job) (k:Nat):Job:=l.getD k qua
def q8k (l:List Job) (i:Nat):Int:=(q1r l i).id
def q11 (l:List Job) (id:Int):Nat:=(l.takeWhile fun j=>decide (j.id<id)).length
def q29 (l:List Job) (id:Int):Bool:=decide (q11 l id<l.length)&&decide (q8k l (q11 l id)=id)
def qkn (l:List Job) (i:Nat):Bool:=match l[i]? with
 | some j=>q1q j&&!(decide (0<i)&&(decide (j.id≤q8k l (i-1))||decide (j.came<(q1r l (i-1)).came)))&&j.needs.all fun n=>q29 (l.take i) n
 | none=>true
def q24 (l:List Job):Bool:=decide (l.length≤64)&&qh4 (qkn l) l.length
def q66 (l:List Int):Bool:=qh4 (fun i=>decide ((if i=0 then 0 else l.getD (i-1) 0)<l.getD i 0)) l.length&&decide (l.length≤16)
def q15 (l:List Job):Job:=if l.length=0 then qua else q1r l (l.length-1)
def q18 (l:List Job) (s:Spec) (needs:List Int) (now:Int):List Job×Int×Int :=
 if !(q24 l&&q2m s&&q66 needs&&tm now)||decide (now<(q15 l).came) then (l,0,1)
 else if !(needs.all fun n=>q29 l n) then (l,0,6)
 else if l.length=64 then (l,0,5) else if (q15 l).id=1073741824 then (l,0,9)
 else (l++[⟨(q15 l).id+1,s,needs,0,now,0,0⟩],(q15 l).id+1,0)
def q1n (l:List Job) (id what now:Int):List Job×Int :=
 if !q24 l then (l,1) else if !q29 l id then (l,6) else (l.set (q11 l id) (jdo (q1r l (q11 l id)) what now).1,(jdo (q1r l (q11 l id)) what now).2)
def q36 (l:List Job) (id:Int):Job×Bool:=if q24 l&&q29 l id then (q1r l (q11 l id),true) else (qua,false)
def q5k (l:List Job):List Job:=l.filter fun j=>decide (j.state=0)&&j.needs.all fun n=>decide ((q1r l (q11 l n)).state=3)
def byPrio:List Job→List Job
 | []=>[]
 | j :: l=>insP j (byPrio l)
where insP (j:Job):List Job→List Job
 | []=>[j]
 | x :: l=>if x.spec.prio≤j.spec.prio then j :: x :: l else x :: insP j l
def qy (l:List Job):List Int:=if q24 l then (byPrio (q5k l)).map (·.id) else []
def qdb (l:List Job):Nat→List Bool
 | 0=>[]
 | k+1=>qdb l k++[decide ((q1r l k).state≤1)&&(q1r l k).needs.any fun n=>(qdb l k).getD (q11 l n) false||(q3z (q1r l (q11 l n)).state&&decide ((q1r l (q11 l n)).state≠3))]
def q3n (l:List Job):List Int:=if q24 l then (l.zipIdx.filter fun p=>(qdb l l.length).getD p.2 false).map (·.1.id) else []
def q3l (g:List Thing) (node:Nat):List Int:=idx (fun i=>decide (2<q2k g i)&&decide (qh3 g i=(node:Int))) g.length
def q4v (g:List Thing) (free:List Int) (node:Nat) (kind most:Int):List Int:=((q3l g node).filter fun n=>inl free n.toNat&&decide (q2k g n.toNat=kind)).take most.toNat
def qru (g:List Thing) (n:Nat):ByteArray:=match g[n]? with
 | some t=>t.tag
 | none=>⟨#[]⟩
def q6n (g:List Thing) (free:List Int) (s:Spec) (node:Nat):List Int×Bool :=
 if !(decide (q2k g node=2)&&inl free node&&(decide (s.tag=⟨#[]⟩)||decide (qru g node=s.tag))) then ([],false)
 else if decide (((q4v g free node 3 s.cores).length:Int)<s.cores)||decide (((q4v g free node 4 s.gpus).length:Int)<s.gpus) then ([],false)
 else if !s.whole then (q7t (q4v g free node 3 s.cores) (q4v g free node 4 s.gpus),true)
 else if (q3l g node).all (fun n=>inl free n.toNat) then ((node:Int) :: q3l g node,true) else ([],false)
def qnp (g:List Thing) (free:List Int) (s:Spec):Bool:=q1o g&&sok free&&q2m s
def q1u (g:List Thing) (free:List Int) (s:Spec):Nat→List Int×Int
 | 0=>([],s.nodes)
 | k+1=>if 0<(q1u g free s k).2∧(q6n g free s k).2=true then (q7t (q1u g free s k).1 (q6n g free s k).1,(q1u g free s k).2-1) else q1u g free s k
def q4u (g:List Thing) (free:List Int) (s:Spec):List Int×Bool :=
 if !qnp g free s then ([],false) else if 0<(q1u g free s g.length).2 then ([],false) else ((q1u g free s g.length).1,true)
def q8o (g:List Thing) (s:Spec):Bool:=(q4u g (q45 g 0) s).2
def qns (t:Int):List Int→List Int
 | []=>[t]
 | x :: l=>if t<x then t :: x :: l else if t=x then x :: l else x :: qns t l
def qam (l:List Int):List Int:=l.foldr qns []
def q2e (l:List Held) (frm:Int):List Int:=if q1s l then qam ((l.filter fun h=>decide (frm<h.to)).map (·.to)) else []
def q2f (g:List Thing) (use:List Int) (l:List Held) (s:Spec) (t til:Int):List Int×Bool :=
 if !tm t||decide (t=4611686018427387904)||decide (til<q1p s t) then ([],false) else q4u g (q8c use (q5f l t (q1p s t))) s
def q20 (g:List Thing) (use:List Int) (l:List Held) (s:Spec) (til:Int):List Int→Int×List Int×Bool
 | []=>(0,[],false)
 | t :: ts=>if (q2f g use l s t til).2 then (t,(q2f g use l s t til).1,true) else q20 g use l s til ts
def qt (g:List Thing) (use:List Int) (l:List Held) (s:Spec) (frm til:Int):Int×List Int×Bool :=
 if !q1s l then (0,[],false) else q20 g use l s til (frm :: q2e l frm)
structure Want where
 id:Int
 spec:Spec
 deriving DecidableEq
def qfc (policy depth:Int):Int:=if policy=2 then 1 else if policy=3 then depth else 0
structure PickS where
 l:List Held
 begun:List Held
 kept:List Held
def q5q (g:List Thing) (use:List Int) (now til policy depth:Int):PickS→List Want→List Held×List Held×Int
 | s,[]=>(s.begun,s.kept,0)
 | s,w :: ws =>
  if !(qt g use s.l w.spec now til).2.2 then q5q g use now til policy depth s ws
  else if (qt g use s.l w.spec now til).1≠now∧policy=1 then (s.begun,s.kept,0)
  else if (qt g use s.l w.spec now til).1≠now∧qfc policy depth≤(s.kept.length:Int) then q5q g use now til policy depth s ws
  else if (q1f s.l ⟨w.id,(qt g use s.l w.spec now til).2.1,(qt g use s.l w.spec now til).1,q1p w.spec (qt g use s.l w.spec now til).1⟩).2≠0 then
   ([],[],(q1f s.l ⟨w.id,(qt g use s.l w.spec now til).2.1,(qt g use s.l w.spec now til).1,q1p w.spec (qt g use s.l w.spec now til).1⟩).2)
  else if (qt g use s.l w.spec now til).1=now then q5q g use now til policy depth ⟨(q1f s.l ⟨w.id,(qt g use s.l w.spec now til).2.1,(qt g use s.l w.spec now til).1,q1p w.spec (qt g use s.l w.spec now til).1⟩).1,s.begun++[⟨w.id,(qt g use s.l w.spec now til).2.1,(qt g use s.l w.spec now til).1,q1p w.spec (qt g use s.l w.spec now til).1⟩],s.kept⟩ ws
  else q5q g use now til policy depth ⟨(q1f s.l ⟨w.id,(qt g use s.l w.spec now til).2.1,(qt g use s.l w.spec now til).1,q1p w.spec (qt g use s.l w.spec now til).1⟩).1,s.begun,s.kept++[⟨w.id,(qt g use s.l w.spec now til).2.1,(qt g use s.l w.spec now til).1,q1p w.spec (qt g use s.l w.spec now til).1⟩]⟩ ws
def q35 (g:List Thing) (use:List Int) (l:List Held) (ws:List Want) (now til policy depth:Int):List Held×List Held×Int :=
 if decide (policy<1)||decide (3<policy)||decide (depth<0)||decide (64<depth)||!q1s l then ([],[],1) else q5q g use now til policy depth ⟨l,[],[]⟩ ws
structure Inst where
 graph:List Thing
 health:List Int
 lease:List Int
 til:Int
 jobs:List Job
 table:List Held
 now:Int
 policy:Int
 depth:Int
 deriving DecidableEq
def qqn:Inst:=⟨[],[],[],0,[],[],0,0,0⟩
def q4g (p d:Int):Bool:=decide (1≤p)&&decide (p≤3)&&decide (0≤d)&&decide (d≤64)
def q27 (g:List Thing) (l:List Int):Bool:=sok l&&(decide (l.length=0)||decide (l.getD (l.length-1) 0<(g.length:Int)))
def q58 (i:Inst) (k:Nat):Bool:=decide ((q1r i.jobs k).came≤i.now)&&decide ((q1r i.jobs k).frm≤i.now)&&(decide ((q1r i.jobs k).state≠2) ||
 ((q2g i.table (q1r i.jobs k).id).2&&decide ((q2g i.table (q1r i.jobs k).id).1.frm=(q1r i.jobs k).frm)&&decide ((q2g i.table (q1r i.jobs k).id).1.to=q1p (q1r i.jobs k).spec (q1r i.jobs k).frm) &&
  decide (i.now<(q2g i.table (q1r i.jobs k).id).1.to)&&q27 i.graph (q2g i.table (q1r i.jobs k).id).1.things))
def q5c (i:Inst):Bool:=qh4 (q58 i) i.jobs.length&&decide ((i.jobs.filter fun j=>decide (j.state=2)).length=i.table.length)
def q2c (i:Inst):Bool:=q2o i.graph i.health&&q27 i.graph i.lease&&tm i.til&&tm i.now&&q4g i.policy i.depth&&q24 i.jobs&&q1s i.table&&q5c i
def q92 (g:List Thing) (p d:Int):Inst×Int:=if !q1o g||!q4g p d then (qqn,1) else (⟨g,List.replicate g.length 0,q45 g 0,4611686018427387904,[],[],0,p,d⟩,0)
def wdo (w:Inst) (id what at_:Int):Inst×Int :=
 if (q1n w.jobs id what at_).2≠0 then (w,(q1n w.jobs id what at_).2)
 else if q3z (q36 (q1n w.jobs id what at_).1 id).1.state then ({ w with jobs:=(q1n w.jobs id what at_).1,table:=(q1a w.table id).1 },0)
 else ({ w with jobs:=(q1n w.jobs id what at_).1 },0)
def q2w (w:Inst):Inst:=w.table.foldl (fun a h=>if q2u h.things (q4t w.lease (q21 w.graph w.health 1)) then a else (wdo a h.id 5 a.now).1) w
def q3r (w:Inst):Inst:=w.jobs.foldl (fun a j=>if decide (j.state≤1)&&((q3n w.jobs).contains j.id||!q8o a.graph j.spec) then (wdo a j.id 7 a.now).1 else a) w
def q31 (w:Inst):List Int:=q4t w.lease (q21 w.graph w.health 0)
def q2q (w:Inst):List Want:=(qy w.jobs).map fun id=>⟨id,(q36 w.jobs id).1.spec⟩
def q2v (w:Inst):List Held:=(q35 w.graph (q31 w) w.table (q2q w) w.now w.til w.policy w.depth).1
def q41 (w:Inst):Inst:=(q2v w).foldl (fun a h=>{ (wdo a h.id 3 a.now).1 with table:=(q1f (wdo a h.id 3 a.now).1.table h).1 }) w
def q3q (w:Inst):Inst:=q41 (q3r (q2w w))
def q26 (i:Inst) (s:Spec) (needs:List Int):Inst×Int×Int :=
 if !q2c i then (i,0,1) else if (q18 i.jobs s needs i.now).2.2≠0 then (i,0,(q18 i.jobs s needs i.now).2.2)
 else (q3q { i with jobs:=(q18 i.jobs s needs i.now).1 },(q18 i.jobs s needs i.now).2.1,0)
def ido (i:Inst) (id what:Int):Inst×Int :=
 if !q2c i||!([1,2,4,6]:List Int).contains what then (i,1) else if (wdo i id what i.now).2≠0 then (i,(wdo i id what i.now).2) else (q3q (wdo i id what i.now).1,0)
def q40 (i:Inst) (now:Int):Inst×Int :=
 if !q2c i||!tm now||decide (now<i.now) then (i,1)
 else (q3q ((q1x i.table now).2.foldl (fun a h=>(wdo a h.id 5 h.to).1) { i with now:=now }),0)
def q4p (i:Inst) (lease:List Int) (til:Int):Inst×Int:=if !q2c i||!q27 i.graph lease||!tm til then (i,1) else (q3q { i with lease:=lease,til:=til },0)
def q4s (g:List Thing) (h:List Int) (n how:Int):List Int×Int:=if !q2o g h||decide (how<0)||decide (2<how) then (h,1) else if n<0∨(h.length:Int)≤n then (h,6) else (h.set n.toNat how,0)
def q4c (i:Inst) (n how:Int):Inst×Int:=if !q2c i then (i,1) else if (q4s i.graph i.health n how).2≠0 then (i,(q4s i.graph i.health n how).2) else (q3q { i with health:=(q4s i.graph i.health n how).1 },0)
def q9h (i:Inst):List Int:=if !q2c i then [] else q8c (q31 i) (q3c i.table i.now (qdu i.now 1))
section
variable {α : Type} {f : α → Int}
def q7a (f:α→Int) (l:List α) (id:Int):Nat:=(l.takeWhile fun x=>decide (f x<id)).length
theorem qq7 (l:List α) (id:Int):q7a f l id≤l.length:=(List.takeWhile_sublist _).length_le
theorem q3y:∀ {l:List α} {k:Nat} {x:α},l.Pairwise (fun a b=>f a<f b)→l[k]?=some x→q7a f l (f x)=k
 | [],k,x,_,h=>by simp at h
 | y :: l,0,x,hp,h=>by
  simp only [List.getElem?_cons_zero,Option.some.injEq] at h
  subst h
  simp [q7a]
 | y :: l,k+1,x,hp,h=>by
  rw [List.pairwise_cons] at hp
  simp only [List.getElem?_cons_succ] at h
  have h1:=hp.1 x (List.mem_of_getElem? h)
  have ih:=q3y hp.2 h
  simp only [q7a] at ih ⊢
  simp [h1,ih]
theorem qdh:∀ {l:List α} {id:Int} {k:Nat} {x:α},k<q7a f l id→l[k]?=some x→f x<id
 | [],id,k,x,_,h=>by simp at h
 | y :: l,id,k,x,hk,h=>by
  simp only [q7a,List.takeWhile_cons] at hk
  split at hk
  ·rename_i hy
   cases k with
   | zero =>
    simp only [List.getElem?_cons_zero,Option.some.injEq] at h
    subst h;simpa using hy
   | succ k =>
    simp only [List.getElem?_cons_succ] at h
    exact qdh (l:=l) (by simp only [q7a];simp only [List.length_cons] at hk;omega) h
  ·simp at hk
theorem qah:∀ {l:List α} {id:Int} {k:Nat} {x:α},l.Pairwise (fun a b=>f a<f b)→q7a f l id≤k→l[k]?=some x→id≤f x
 | [],id,k,x,_,_,h=>by simp at h
 | y :: l,id,k,x,hp,hk,h=>by
  rw [List.pairwise_cons] at hp
  simp only [q7a,List.takeWhile_cons] at hk
  split at hk
  ·cases k with
   | zero=>simp at hk
   | succ k =>
    simp only [List.getElem?_cons_succ] at h
    exact qah (l:=l) hp.2 (by simp only [q7a];simp only [List.length_cons] at hk;omega) h
  ·rename_i hy
   have hy:id≤f y:=by simp at hy;omega
   cases k with
   | zero =>
    simp only [List.getElem?_cons_zero,Option.some.injEq] at h
    subst h;exact hy
   | succ k =>
    simp only [List.getElem?_cons_succ] at h
    have:=hp.1 x (List.mem_of_getElem? h)
    omega
theorem qjf:∀ {l:List α} {x y:α},l.Pairwise (fun a b=>f a<f b)→x∈l→y∈l→f x=f y→x=y:=by
 intro l x y hp hx hy e
 obtain ⟨i,hi⟩:=List.mem_iff_getElem?.1 hx
 obtain ⟨j,hj⟩:=List.mem_iff_getElem?.1 hy
 have h1:=q3y hp hi
 have h2:=q3y hp hj
 rw [e,h2] at h1
 subst h1
 rw [hi] at hj
 exact Option.some.inj hj
theorem q8w {l:List α} (h:l.Pairwise (fun a b=>f a<f b)):(l.map f).Pairwise (· < ·):=by
 rw [List.pairwise_map];exact h
def qt6 (f:α→Int) (l:List α) (x:α):List α:=l.take (q7a f l (f x))++x :: l.drop (q7a f l (f x))
theorem kput_mem {l:List α} {x y:α}:y∈qt6 f l x↔y=x∨y∈l:=by
 unfold qt6
 rw [List.mem_append,List.mem_cons]
 constructor
 ·rintro (h | h | h)
  ·exact .inr (List.mem_of_mem_take h)
  ·exact .inl h
  ·exact .inr (List.mem_of_mem_drop h)
 ·rintro (h | h)
  ·exact .inr (.inl h)
  ·rw [← List.take_append_drop (q7a f l (f x)) l] at h
   rcases List.mem_append.1 h with h | h
   ·exact .inl h
   ·exact .inr (.inr h)
theorem qkk {l:List α} {x:α} (hp:l.Pairwise (fun a b=>f a<f b)) (hn:∀ y∈l,f y≠f x):(qt6 f l x).Pairwise (fun a b=>f a<f b):=by
 unfold qt6
 rw [List.pairwise_append]
 refine ⟨hp.sublist (List.take_sublist _ _),?_,?_⟩
 ·rw [List.pairwise_cons]
  refine ⟨fun y hy=>?_,hp.sublist (List.drop_sublist _ _)⟩
  obtain ⟨j,hj⟩:=List.mem_iff_getElem?.1 hy
  rw [List.getElem?_drop] at hj
  have h1:=qah hp (Nat.le_add_right _ _) hj
  have h2:=hn y (List.mem_of_mem_drop hy)
  omega
 ·intro a ha b hb
  have h1:f a<f x:=by
   obtain ⟨j,hj⟩:=List.mem_iff_getElem?.1 ha
   rw [List.getElem?_take] at hj
   split at hj
   ·exact qdh Y1d hj
   ·cases hj
  rcases List.mem_cons.1 hb with rfl | hb
  ·exact h1
  ·obtain ⟨j,hj⟩:=List.mem_iff_getElem?.1 hb
   rw [List.getElem?_drop] at hj
   have:=qah hp (Nat.le_add_right _ _) hj
   omega
theorem qsa {l:List α} {k:Nat} {x y:α} (hp:l.Pairwise (fun a b=>f a<f b)) (hx:l[k]?=some x):y∈l.eraseIdx k↔y∈l∧f y≠f x:=by
 rw [List.mem_eraseIdx_iff_getElem?]
 constructor
 ·rintro ⟨i,hi,hy⟩
  refine ⟨List.mem_of_getElem? hy,fun e=>?_⟩
  have h1:=q3y hp hx
  have h2:=q3y hp hy
  rw [e,h1] at h2
  exact hi h2.symm
 ·rintro ⟨hy,hne⟩
  obtain ⟨i,hi⟩:=List.mem_iff_getElem?.1 hy
  refine ⟨i,fun e=>?_,hi⟩
  subst e
  rw [hi] at hx
  exact hne (congrArg f (Option.some.inj hx))
end
theorem held_iff {l:List Held}:q1s l=true↔l.length≤256∧(∀ h∈l,hmay h=true)∧l.Pairwise (fun a b=>a.id<b.id)∧l.Pairwise (fun a b=>q3p a b=false):=by
 unfold q1s
 rw [Bool.and_eq_true,decide_eq_true_eq]
 constructor
 ·rintro ⟨h1,h2⟩
  have hB:∀ k h,l[k]?=some h→hmay h=true∧(0<k→q73 l (k-1)<h.id)∧∀ x∈l.take k,q3p x h=false:=by
   intro k h hk
   have:=q4f h2 (List.getElem?_eq_some_iff.1 hk).1
   unfold q68 at this
   rw [hk] at this
   simp only [Bool.and_eq_true,Bool.not_eq_true',Bool.and_eq_false_iff,decide_eq_false_iff_not,List.any_eq_false] at this
   obtain ⟨⟨k1,k2⟩,k3⟩:=this
   refine ⟨k1,fun h0=>?_,fun x hx=>?_⟩
   ·rcases k2 with k2 | k2
    ·exact absurd h0 k2
    ·omega
   ·have:=k3 x hx;simpa using this
  refine ⟨h1,fun h hh=>?_,?_,?_⟩
  ·obtain ⟨k,hk⟩:=List.mem_iff_getElem?.1 hh
   exact (hB k h hk).1
  ·have step:∀ k a b,l[k]?=some a→l[k+1]?=some b→a.id<b.id:=by
    intro k a b ha hb
    have:=(hB (k+1) b hb).2.1 (Nat.succ_pos _)
    rw [Nat.add_sub_cancel,q73,ha] at this
    exact this
   have mono:∀ d i a b,l[i]?=some a→l[i+d+1]?=some b→a.id<b.id:=by
    intro d
    induction d with
    | zero=>intro i a b ha hb;exact step i a b ha hb
    | succ d ih =>
     intro i a b ha hb
     have hlt:=(List.getElem?_eq_some_iff.1 hb).1
     have h3:=ih i a l[i+d+1] ha (List.getElem?_eq_getElem (by omega))
     have h4:=step (i+d+1) _ b (List.getElem?_eq_getElem (by omega)) hb
     omega
   rw [List.pairwise_iff_getElem]
   intro i j hi hj hij
   exact mono (j-i-1) i _ _ (List.getElem?_eq_getElem hi) Yc
  ·rw [List.pairwise_iff_getElem]
   intro i j hi hj hij
   exact (hB j _ (List.getElem?_eq_getElem hj)).2.2 _ (List.mem_iff_getElem?.2 ⟨i,by rw [List.getElem?_take,if_pos hij];exact List.getElem?_eq_getElem hi⟩)
 ·rintro ⟨h1,h2,h3,h4⟩
  refine ⟨h1,q2s fun k hk=>?_⟩
  unfold q68
  rw [List.getElem?_eq_getElem hk]
  simp only [Bool.and_eq_true,Bool.not_eq_true',Bool.and_eq_false_iff,decide_eq_false_iff_not,List.any_eq_false]
  refine ⟨⟨h2 _ (List.getElem_mem hk),?_⟩,fun x hx=>?_⟩
  ·cases k with
   | zero=>exact .inl (Nat.lt_irrefl 0)
   | succ k =>
    right
    rw [Nat.add_sub_cancel,q73,List.getElem?_eq_getElem (by omega)]
    have:=List.pairwise_iff_getElem.1 h3 k (k+1) (by omega) hk (Nat.lt_succ_self k)
    simp only;omega
  ·obtain ⟨i,hi⟩:=List.mem_iff_getElem?.1 hx
   rw [List.getElem?_take] at hi
   split at hi
   ·rename_i hik
    obtain ⟨h5,rfl⟩:=List.getElem?_eq_some_iff.1 hi
    have:=List.pairwise_iff_getElem.1 h4 i k h5 hk hik
    simp [this]
   ·cases hi
theorem qae (l:List Held) (id:Int):qw l id=q7a Held.id l id:=rfl
theorem q32 {l:List Held} (hp:l.Pairwise (fun a b=>a.id<b.id)) {id:Int}:q23 l id=true↔∃ h∈l,h.id=id:=by
 unfold q23 q73
 rw [Bool.and_eq_true,decide_eq_true_eq,decide_eq_true_eq]
 constructor
 ·rintro ⟨h1,h2⟩
  rw [List.getElem?_eq_getElem h1] at h2
  exact ⟨_,List.getElem_mem h1,h2⟩
 ·rintro ⟨h,hh,rfl⟩
  obtain ⟨k,hk⟩:=List.mem_iff_getElem?.1 hh
  have e:qw l h.id=k:=q3y (f:=Held.id) hp hk
  rw [e,hk]
  exact ⟨(List.getElem?_eq_some_iff.1 hk).1,rfl⟩
theorem qic {l:List Held} (hp:l.Pairwise (fun a b=>a.id<b.id)) {h:Held} (hh:h∈l):l[qw l h.id]?=some h∧q4q l (qw l h.id)=h:=by
 obtain ⟨k,hk⟩:=List.mem_iff_getElem?.1 hh
 have e:qw l h.id=k:=q3y (f:=Held.id) hp hk
 rw [e]
 exact ⟨hk,by rw [q4q,List.getD_eq_getElem?_getD,hk];rfl⟩
theorem qke {l:List Held} (hr:q1s l=true) {id:Int}:(q2g l id).2=true↔∃ h∈l,h.id=id:=by
 unfold q2g
 rw [hr,Bool.true_and]
 have:=q32 (held_iff.1 hr).2.2.1 (id:=id)
 cases h:q23 l id with
 | false=>rw [h] at this;simp at this ⊢;exact this
 | true=>rw [h] at this;simp at this ⊢;exact this
theorem qa2 {l:List Held} (hr:q1s l=true) {h:Held} (hh:h∈l):q2g l h.id=(h,true):=by
 have hp:=(held_iff.1 hr).2.2.1
 unfold q2g
 rw [hr,Bool.true_and,(q32 hp).2 ⟨h,hh,rfl⟩,if_pos rfl,(qic hp hh).2]
theorem qhv {l:List Held} (hr:q1s l=true) {h:Held} (hh:h∈l):q1s (q1a l h.id).1=true∧(∀ y,y∈(q1a l h.id).1↔y∈l∧y.id≠h.id)∧(q1a l h.id).2.2=0:=by
 obtain ⟨h1,h2,h3,h4⟩:=held_iff.1 hr
 have hk:=(qic h3 hh).1
 unfold q1a
 rw [hr,(q32 h3).2 ⟨h,hh,rfl⟩]
 simp only [Bool.not_true,Bool.false_eq_true,if_false]
 have hm:∀ y,y∈l.eraseIdx (qw l h.id)↔y∈l∧y.id≠h.id:=fun y=>qsa (f:=Held.id) h3 hk
 refine ⟨held_iff.2 ⟨?_,fun y hy=>h2 y ((hm y).1 hy).1,h3.sublist (List.eraseIdx_sublist _ _),h4.sublist (List.eraseIdx_sublist _ _)⟩,hm,trivial⟩
 exact Nat.le_trans (List.eraseIdx_sublist _ _).length_le h1
theorem q6s {l:List Held} (hr:q1s l=true) {id:Int} (hn:∀ h∈l,h.id≠id):(q1a l id).1=l:=by
 have h3:=(held_iff.1 hr).2.2.1
 unfold q1a
 rw [hr]
 cases h:q23 l id with
 | false=>simp
 | true =>
  obtain ⟨x,hx,e⟩:=(q32 h3).1 h
  exact absurd e (hn x hx)
theorem qej (a b:Held):q3p a b=q3p b a:=by
 unfold q3p q79 qb2
 rw [show decide (max a.frm b.frm<min a.to b.to)=decide (max b.frm a.frm<min b.to a.to) by rw [decide_eq_decide];omega]
 rw [show (fun n=>inl a.things n&&inl b.things n)=(fun n=>inl b.things n&&inl a.things n) by funext n;rw [Bool.and_comm],Bool.and_comm (sok a.things)]
theorem q87 {l:List Held} {h:Held} (hr:q1s l=true) (hm:hmay h=true) (hn:∀ x∈l,x.id≠h.id) (hl:l.length<256) (hc:∀ x∈l,q3p x h=false) :
  q1f l h=(qt6 Held.id l h,0)∧q1s (qt6 Held.id l h)=true:=by
 obtain ⟨h1,h2,h3,h4⟩:=held_iff.1 hr
 have hh:q23 l h.id=false:=by
  cases e:q23 l h.id with
  | false=>rfl
  | true=>obtain ⟨x,hx,e⟩:=(q32 h3).1 e;exact absurd e (hn x hx)
 have ha:(l.any fun x=>q3p x h)=false:=by rw [List.any_eq_false];intro x hx;rw [hc x hx];simp
 constructor
 ·unfold q1f
  rw [hr,hm,hh,ha,if_neg (by simp),if_neg (by simp),if_neg Y1c]
  rfl
 ·refine held_iff.2 ⟨?_,fun y hy=>?_,qkk h3 hn,?_⟩
  ·unfold qt6;simp only [List.length_append,List.length_take,List.length_cons,List.length_drop];omega
  ·rcases kput_mem.1 hy with rfl | hy
   ·exact hm
   ·exact h2 y hy
  ·unfold qt6
   rw [List.pairwise_append]
   refine ⟨h4.sublist (List.take_sublist _ _),?_,?_⟩
   ·rw [List.pairwise_cons]
    exact ⟨fun y hy=>by rw [qej];exact hc y (List.mem_of_mem_drop hy),h4.sublist (List.drop_sublist _ _)⟩
   ·intro a ha' b hb
    rcases List.mem_cons.1 hb with rfl | hb
    ·exact hc a (List.mem_of_mem_take ha')
    ·have:=h4
     rw [← List.take_append_drop (q7a Held.id l h.id) l,List.pairwise_append] at this
     exact this.2.2 a ha' b hb
theorem qbp {s w t:Int} (h0:0≤s) (h:q3w s w=some t):0≤t∧t≤6:=by
 unfold q3w at h
 repeat' split at h
 all_goals first | (injection h with h;omega) | cases h
theorem q82 {s w t:Int} (h:q3w s w=some t):s≤2∧(t=2→s=0)∧(t=0→s=1)∧(t=1→s=0)∧(t=3→s=2)∧(t=4→s=2)∧(t=6→s<2):=by
 unfold q3w at h
 repeat' split at h
 all_goals first | (injection h with h;omega) | cases h
theorem qkj {j:Job} {w t now:Int} (hb:qdv j w now=false) (h:q3w j.state w=some t):q1q (q3f j t now)=true:=by
 simp only [qdv,Bool.or_eq_false_iff,Bool.not_eq_false',decide_eq_false_iff_not] at hb
 obtain ⟨⟨⟨⟨hjr,_⟩,_⟩,hnow⟩,hmx⟩:=hb
 have hst:=q53 hjr
 have hi:=qbp hst.1 h
 have hf:=q82 h
 have h5:tm j.came=true:=by simp only [q1q,Bool.and_eq_true] at hjr;exact hjr.1.2
 have ht:q43 j=true:=by simp only [q1q,Bool.and_eq_true] at hjr;exact hjr.2
 have hr:q1q (q3f j t now)=q43 (q3f j t now):=by
  simp only [q1q,q78,Bool.and_eq_true] at hjr
  obtain ⟨⟨⟨⟨⟨a1,a2⟩,a3⟩,a4,a5⟩,a6⟩,a7⟩:=hjr
  show (decide (1≤j.id)&&decide (j.id≤1073741824)&&q2m j.spec&&(decide (j.needs.length≤16)&&qfl j.id j.needs)&&tm j.came&&q43 (q3f j t now))=_
  rw [a1,a2,a3,a4,a5,a6]
  rfl
 rw [hr]
 have h5':tm (q3f j t now).came=true:=h5
 rw [q80 h5']
 rw [q80 h5] at ht
 simp only [q3f,q3z,tm,Bool.and_eq_true,decide_eq_true_eq] at *
 clear hr hjr h
 obtain ⟨⟨⟨⟨⟨t1,t2⟩,t3⟩,t4⟩,t5⟩,t6⟩:=ht
 split at t5<;>split at t6<;>simp only [Bool.or_eq_true,Bool.and_eq_true,decide_eq_true_eq] at t5 t6<;>(refine ⟨⟨⟨⟨⟨?_,?_⟩,?_⟩,?_⟩,?_⟩,?_⟩)<;>(repeat' split)<;>(try simp only [Bool.or_eq_true,Bool.and_eq_true,decide_eq_true_eq])<;>omega
theorem q12 {l:List Job} {k:Nat} {j:Job} (h:l[k]?=some j):q1r l k=j:=by rw [q1r,List.getD_eq_getElem?_getD,h];rfl
theorem qs0 (l:List Job) (id:Int):q11 l id=q7a Job.id l id:=rfl
theorem q2r {l:List Job} (hp:l.Pairwise (fun a b=>a.id<b.id)) {id:Int}:q29 l id=true↔∃ j∈l,j.id=id:=by
 unfold q29 q8k
 rw [Bool.and_eq_true,decide_eq_true_eq,decide_eq_true_eq]
 constructor
 ·rintro ⟨h1,h2⟩
  rw [q12 (List.getElem?_eq_getElem h1)] at h2
  exact ⟨_,List.getElem_mem h1,h2⟩
 ·rintro ⟨j,hj,rfl⟩
  obtain ⟨k,hk⟩:=List.mem_iff_getElem?.1 hj
  have e:q11 l j.id=k:=q3y (f:=Job.id) hp hk
  rw [e,q12 hk]
  exact ⟨(List.getElem?_eq_some_iff.1 hk).1,rfl⟩
theorem q6o {l:List Job} (hp:l.Pairwise (fun a b=>a.id<b.id)) {j:Job} (hj:j∈l):l[q11 l j.id]?=some j:=by
 obtain ⟨k,hk⟩:=List.mem_iff_getElem?.1 hj
 have e:q11 l j.id=k:=q3y (f:=Job.id) hp hk
 rw [e];exact hk
def qxg (l:List Job):Prop:=∀ k j,l[k]?=some j→∀ n∈j.needs,n∈(l.map (·.id)).take k
theorem jobs_iff {l:List Job}:q24 l=true↔l.length≤64∧(∀ j∈l,q1q j=true)∧l.Pairwise (fun a b=>a.id<b.id)∧l.Pairwise (fun a b=>a.came≤b.came)∧qxg l:=by
 unfold q24
 rw [Bool.and_eq_true,decide_eq_true_eq]
 constructor
 ·rintro ⟨h1,h2⟩
  have hB:∀ k j,l[k]?=some j→q1q j=true∧(0<k→(q1r l (k-1)).id<j.id∧(q1r l (k-1)).came≤j.came)∧∀ n∈j.needs,q29 (l.take k) n=true:=by
   intro k j hk
   have:=q4f h2 (List.getElem?_eq_some_iff.1 hk).1
   unfold qkn at this
   rw [hk] at this
   simp only [Bool.and_eq_true,Bool.not_eq_true',Bool.and_eq_false_iff,Bool.or_eq_false_iff,decide_eq_false_iff_not,List.all_eq_true] at this
   obtain ⟨⟨k1,k2⟩,k3⟩:=this
   refine ⟨k1,fun h0=>?_,k3⟩
   rcases k2 with k2 | k2
   ·exact absurd h0 k2
   ·unfold q8k at k2;omega
  have step:∀ k a b,l[k]?=some a→l[k+1]?=some b→a.id<b.id∧a.came≤b.came:=by
   intro k a b ha hb
   have:=(hB (k+1) b hb).2.1 (Nat.succ_pos _)
   rw [Nat.add_sub_cancel,q12 ha] at this
   exact this
  have mono:∀ d i a b,l[i]?=some a→l[i+d+1]?=some b→a.id<b.id∧a.came≤b.came:=by
   intro d
   induction d with
   | zero=>intro i a b ha hb;exact step i a b ha hb
   | succ d ih =>
    intro i a b ha hb
    have hlt:=(List.getElem?_eq_some_iff.1 hb).1
    have h3:=ih i a l[i+d+1] ha (List.getElem?_eq_getElem (by omega))
    have h4:=step (i+d+1) _ b (List.getElem?_eq_getElem (by omega)) hb
    omega
  have hid:l.Pairwise (fun a b=>a.id<b.id):=by
   rw [List.pairwise_iff_getElem]
   intro i j hi hj hij
   exact (mono (j-i-1) i _ _ (List.getElem?_eq_getElem hi) Yc).1
  refine ⟨h1,fun j hj=>?_,hid,?_,?_⟩
  ·obtain ⟨k,hk⟩:=List.mem_iff_getElem?.1 hj
   exact (hB k j hk).1
  ·rw [List.pairwise_iff_getElem]
   intro i j hi hj hij
   exact (mono (j-i-1) i _ _ (List.getElem?_eq_getElem hi) Yc).2
  ·intro k j hk n hn
   obtain ⟨x,hx,e⟩:=(q2r (hid.sublist (List.take_sublist k l))).1 ((hB k j hk).2.2 n hn)
   rw [← List.map_take]
   exact List.mem_map.2 ⟨x,hx,e⟩
 ·rintro ⟨h1,h2,h3,h4,h5⟩
  refine ⟨h1,q2s fun k hk=>?_⟩
  unfold qkn
  rw [List.getElem?_eq_getElem hk]
  simp only [Bool.and_eq_true,Bool.not_eq_true',Bool.and_eq_false_iff,Bool.or_eq_false_iff,decide_eq_false_iff_not,List.all_eq_true]
  refine ⟨⟨h2 _ (List.getElem_mem hk),?_⟩,fun n hn=>?_⟩
  ·cases k with
   | zero=>exact .inl (Nat.lt_irrefl 0)
   | succ k =>
    right
    rw [Nat.add_sub_cancel,q8k,q12 (List.getElem?_eq_getElem (by omega))]
    have:=List.pairwise_iff_getElem.1 h3 k (k+1) (by omega) hk (Nat.lt_succ_self k)
    have:=List.pairwise_iff_getElem.1 h4 k (k+1) (by omega) hk (Nat.lt_succ_self k)
    omega
  ·have:=h5 k _ (List.getElem?_eq_getElem hk) n hn
   rw [← List.map_take] at this
   obtain ⟨x,hx,e⟩:=List.mem_map.1 this
   exact (q2r (h3.sublist (List.take_sublist k l))).2 ⟨x,hx,e⟩
theorem qad {l:List Job} (hr:q24 l=true) {j:Job} (hj:j∈l):q36 l j.id=(j,true):=by
 have hp:=(jobs_iff.1 hr).2.2.1
 unfold q36
 rw [hr,Bool.true_and,(q2r hp).2 ⟨j,hj,rfl⟩,if_pos rfl,q12 (q6o hp hj)]
theorem qs5 {l:List Job} {k:Nat} {j j' y:Job} (hp:l.Pairwise (fun a b=>a.id<b.id)) (hk:l[k]?=some j) (he:j'.id=j.id):y∈l.set k j'↔y=j'∨(y∈l∧y.id≠j.id):=by
 have hkl:=(List.getElem?_eq_some_iff.1 hk).1
 rw [List.mem_iff_getElem?]
 constructor
 ·rintro ⟨i,hi⟩
  by_cases e:k=i
  ·subst e
   rw [List.getElem?_set_self hkl] at hi
   exact .inl (Option.some.inj hi).symm
  ·rw [List.getElem?_set_ne e] at hi
   refine .inr ⟨List.mem_of_getElem? hi,fun e2=>e ?_⟩
   have h1:=q3y (f:=Job.id) hp hk
   have h2:=q3y (f:=Job.id) hp hi
   rw [e2,h1] at h2
   exact h2
 ·rintro (rfl | ⟨hy,hne⟩)
  ·exact ⟨k,List.getElem?_set_self hkl⟩
  ·obtain ⟨i,hi⟩:=List.mem_iff_getElem?.1 hy
   refine ⟨i,?_⟩
   rw [List.getElem?_set_ne]
   ·exact hi
   ·rintro rfl
    rw [hk] at hi
    exact hne (congrArg Job.id (Option.some.inj hi)).symm
theorem qlb {β:Type} (g:Job→β) {l:List Job} {k:Nat} {j j':Job} (hk:l[k]?=some j) (he:g j'=g j):(l.set k j').map g=l.map g:=by
 apply List.ext_getElem?
 intro i
 rw [List.getElem?_map,List.getElem?_map]
 by_cases e:k=i
 ·subst e
  rw [List.getElem?_set_self (List.getElem?_eq_some_iff.1 hk).1,hk]
  simp [he]
 ·rw [List.getElem?_set_ne e]
theorem qm6 (j:Job) (w now:Int):(jdo j w now).1.id=j.id∧(jdo j w now).1.spec=j.spec∧(jdo j w now).1.needs=j.needs∧(jdo j w now).1.came=j.came:=by
 unfold jdo
 split
 ·exact ⟨rfl,rfl,rfl,rfl⟩
 ·split<;>exact ⟨rfl,rfl,rfl,rfl⟩
theorem qri {j:Job} {w now:Int} (h:q1q j=true):q1q (jdo j w now).1=true:=by
 unfold jdo
 split
 ·exact h
 ·rename_i hb
  split
  ·exact h
  ·rename_i s hs
   exact qkj (by simpa using hb) hs
theorem q6h {l:List Job} (hr:q24 l=true) {j:Job} (hj:j∈l) (w now:Int) :
  q1n l j.id w now=(l.set (q11 l j.id) (jdo j w now).1,(jdo j w now).2)∧q24 (q1n l j.id w now).1=true∧(∀ y,y∈(q1n l j.id w now).1↔y=(jdo j w now).1∨(y∈l∧y.id≠j.id))∧(q1n l j.id w now).1.map (·.id)=l.map (·.id):=by
 obtain ⟨h1,h2,h3,h4,h5⟩:=jobs_iff.1 hr
 have hk:=q6o h3 hj
 have e:q1n l j.id w now=(l.set (q11 l j.id) (jdo j w now).1,(jdo j w now).2):=by
  unfold q1n
  rw [hr,(q2r h3).2 ⟨j,hj,rfl⟩,q12 hk,if_neg (by simp),if_neg (by simp)]
 obtain ⟨s1,s2,s3,s4⟩:=qm6 j w now
 have hids:(l.set (q11 l j.id) (jdo j w now).1).map (fun x:Job=>x.id)=l.map (fun x:Job=>x.id):=qlb (fun x:Job=>x.id) hk s1
 have hcames:(l.set (q11 l j.id) (jdo j w now).1).map Job.came=l.map Job.came:=qlb Job.came hk s4
 have hneeds:(l.set (q11 l j.id) (jdo j w now).1).map Job.needs=l.map Job.needs:=qlb Job.needs hk s3
 rw [e]
 refine ⟨rfl,jobs_iff.2 ⟨by simpa using h1,fun y hy=>?_,?_,?_,?_⟩,fun y=>qs5 h3 hk s1,hids⟩
 ·rcases (qs5 h3 hk s1).1 hy with rfl | ⟨hy,_⟩
  ·exact qri (h2 j hj)
  ·exact h2 y hy
 ·have:=h3
  rw [← List.pairwise_map (f:=fun x:Job=>x.id) (R:=fun a b:Int=>a<b)] at this ⊢
  rw [hids];exact this
 ·have:=h4
  rw [← List.pairwise_map (f:=Job.came) (R:=fun a b:Int=>a≤b)] at this ⊢
  rw [hcames];exact this
 ·intro k y hy n hn
  have e1:=congrArg (·[k]?) hneeds
  simp only [List.getElem?_map,hy,Option.map_some] at e1
  cases hx:l[k]? with
  | none=>rw [hx] at e1;cases e1
  | some x =>
   rw [hx] at e1
   simp only [Option.map_some,Option.some.injEq] at e1
   have:=h5 k x hx n (by rw [← e1];exact hn)
   show n∈((l.set (q11 l j.id) (jdo j w now).1).map fun x:Job=>x.id).take k
   rw [hids];exact this
theorem qpp {l:List Job} {id w now:Int} (hr:q24 l=true) (hn:∀ j∈l,j.id≠id):(q1n l id w now).2≠0:=by
 have h3:=(jobs_iff.1 hr).2.2.1
 unfold q1n
 rw [hr]
 cases h:q29 l id with
 | false=>simp
 | true =>
  obtain ⟨x,hx,e⟩:=(q2r h3).1 h
  exact absurd e (hn x hx)
theorem qim {α:Type} {sz:Nat}:∀ {rows:List (List α)},(∀ r∈rows,r.length=sz)→∀ {i:Nat} {r:List α} {j:Nat},rows[i]?=some r→j<sz→rows.flatten[i * sz+j]?=r[j]?
 | [],_,i,r,j,hr,_=>by simp at hr
 | x :: rows,hw,i,r,j,hr,hj=>by
  have hx:x.length=sz:=hw x (by simp)
  cases i with
  | zero =>
   simp at hr
   subst hr
   rw [List.flatten_cons,List.getElem?_append_left (by omega)]
   simp
  | succ i =>
   have:=qim (rows:=rows) (fun r h=>hw r (by simp [h])) (i:=i) (r:=r) (j:=j) (by simpa using hr) hj
   rw [List.flatten_cons,List.getElem?_append_right (by rw [hx,Nat.succ_mul];omega),hx,show (i+1) * sz+j-sz=i * sz+j by rw [Nat.succ_mul];omega]
   exact this
def qw1 (P:Program) (rec:TypeId→Option (List TypeId)) (total:Nat):Nat→List Field→Option (List TypeId)
 | off,[]=>if off=total then some [] else none
 | off,f :: fs=>if f.offset=off then
   match rec f.type with
   | some a=>if a.length=P.cellsOf f.type then
     match qw1 P rec total (off+P.cellsOf f.type) fs with
     | some r=>some (a++r)
     | none=>none
    else none
   | none=>none
  else none
def q65 (P:Program):Nat→TypeId→Option (List TypeId)
 | 0,_=>none
 | n+1,t=>match P.underlying t with
  | some .bool | some (.int _) | some .string=>some [t]
  | some (.slice e)=>if P.cellsOf e=0 then none else some [t]
  | some (.struct fs)=>qw1 P (q65 P n) (P.cellsOf t) 0 fs.toList
  | some (.array m e)=>match q65 P n e with
   | some a=>if a.length=P.cellsOf e∧P.cellsOf t=m * P.cellsOf e then some (List.replicate m a).flatten else none
   | none=>none
  | _=>none
def q4j (P:Program):Nat→TypeId→AV→Prop
 | 0,_,_=>False
 | n+1,t,v=>match P.underlying t with
  | some .bool=>∃ b,v = .bool b
  | some (.int k)=>∃ i,v = .int k i∧(Lit.int k i).wf=true
  | some .string=>∃ s:ByteArray,v = .str s∧s.size≤maxLen
  | some (.slice e)=>∃ rows,v = .pl rows∧rows.length≤maxLen∧∀ r∈rows,∃ ts,q65 P (n+1) e=some ts∧r.length=ts.length∧∀ (j:Nat) (t':TypeId) (v':AV),ts[j]?=some t'→r[j]?=some v'→q4j P n t' v'
  | _=>False
def qo8 (P:Program) (n:Nat) (ts:List TypeId) (r:List AV):Prop:=r.length=ts.length∧∀ (j:Nat) (t':TypeId) (v':AV),ts[j]?=some t'→r[j]?=some v'→q4j P n t' v'
section
variable {P : Program} {Hd : Type} {enc : TypeId × Value → Hd} {w : World} {base : Nat} {spare : Nat → Bool} {held : Bool}
theorem qhm {rec:TypeId→Option (List TypeId)} {total:Nat}:∀ (fs:List Field) (off:Nat) (ts:List TypeId),qw1 P rec total off fs=some ts→off+ts.length=total∧off≤total ∧
  ∀ (f:Field),f∈fs→∃ a,rec f.type=some a∧a.length=P.cellsOf f.type∧off≤f.offset∧f.offset+a.length≤total∧(∀ j,j<a.length→ts[f.offset-off+j]?=a[j]?)
 | [],off,ts,h=>by
  unfold qw1 at h
  split at h
  ·cases h;simp_all
  ·cases h
 | f :: fs,off,ts,h=>by
  unfold qw1 at h
  split at h
  ·rename_i ho
   split at h
   ·rename_i a ha
    split at h
    ·rename_i hl
     split at h
     ·rename_i r hr
      cases h
      obtain ⟨h1,h2,h3⟩:=qhm fs _ _ hr
      refine ⟨by simp;omega,by omega,fun g hg=>?_⟩
      rcases List.mem_cons.1 hg with rfl | hg
      ·refine ⟨a,ha,hl,by omega,by omega,fun j hj=>?_⟩
       rw [ho,Nat.sub_self,Nat.zero_add,List.getElem?_append_left hj]
      ·obtain ⟨b,k1,k2,k3,k4,k5⟩:=h3 g hg
       refine ⟨b,k1,k2,by omega,k4,fun j hj=>?_⟩
       rw [List.getElem?_append_right (by omega),← k5 j hj]
       congr 1
       omega
     ·cases h
    ·cases h
   ·cases h
  ·cases h
theorem qei {rec:TypeId→Option (List TypeId)} {total:Nat}:∀ (fs:List Field) (off:Nat) (ts:List TypeId),qw1 P rec total off fs=some ts→∀ j,off≤j→j<total→∃ f∈fs,f.offset≤j∧j<f.offset+P.cellsOf f.type
 | [],off,ts,h,j,h1,h2=>by
  unfold qw1 at h
  split at h
  ·omega
  ·cases h
 | f :: fs,off,ts,h,j,h1,h2=>by
  unfold qw1 at h
  split at h
  ·rename_i ho
   split at h
   ·split at h
    ·split at h
     ·rename_i r hr
      by_cases hj:j<off+P.cellsOf f.type
      ·exact ⟨f,List.mem_cons_self,by omega,by omega⟩
      ·obtain ⟨g,hg,k⟩:=qei fs _ _ hr j (by omega) h2
       exact ⟨g,List.mem_cons_of_mem _ hg,k⟩
     ·cases h
    ·cases h
   ·cases h
  ·cases h
theorem qby {t:TypeId} {fuel:Nat} {cs:List Value} {x:DataW Hd×List MemPlace} (hu:P.underlying t=some .bool∨(∃ k,P.underlying t=some (.int k))∨P.underlying t=some .string∨∃ e,P.underlying t=some (.slice e)) (h:DataW.trod enc P w base spare held (fuel+1) t cs=some x):∃ u,cs=[u]:=by
 unfold DataW.trod at h
 rcases hu with hu | ⟨k,hu⟩ | hu | ⟨e,hu⟩<;>rw [hu] at h<;>split at h<;>first | exact ⟨_,rfl⟩ | (simp_all;done)
theorem qaf:∀ (n:Nat) (t:TypeId) (ts:List TypeId) (fuel:Nat) (cs:List Value) (x:DataW Hd×List MemPlace),q65 P n t=some ts→DataW.trod enc P w base spare held fuel t cs=some x →
  cs.length=ts.length∧∀ (j:Nat) (t':TypeId) (u:Value),ts[j]?=some t'→cs[j]?=some u→∃ fuel' x',DataW.trod enc P w base spare held fuel' t' [u]=some x'∧(P.underlying t'=some .bool∨(∃ k,P.underlying t'=some (.int k))∨P.underlying t'=some .string∨∃ e,P.underlying t'=some (.slice e)∧P.cellsOf e≠0)
 | 0,_,_,_,_,_,h,_=>by cases h
 | _+1,_,_,0,_,_,_,h=>by cases h
 | n+1,t,ts,fuel+1,cs,x,h,hx=>by
  have one:∀ u,cs=[u]→ts=[t]→(P.underlying t=some .bool∨(∃ k,P.underlying t=some (.int k))∨P.underlying t=some .string∨∃ e,P.underlying t=some (.slice e)∧P.cellsOf e≠0)→cs.length=ts.length∧∀ (j:Nat) (t':TypeId) (u:Value),ts[j]?=some t'→cs[j]?=some u→∃ fuel' x',DataW.trod enc P w base spare held fuel' t' [u]=some x'∧(P.underlying t'=some .bool∨(∃ k,P.underlying t'=some (.int k))∨P.underlying t'=some .string∨∃ e,P.underlying t'=some (.slice e)∧P.cellsOf e≠0):=by
   rintro u rfl rfl hk
   refine ⟨rfl,fun j t' u' h1 h2=>?_⟩
   cases j with
   | zero=>simp at h1 h2;subst h1;subst h2;exact ⟨fuel+1,x,hx,hk⟩
   | succ j=>simp at h1
  unfold q65 at h
  split at h
  ·rename_i hu
   cases h
   obtain ⟨u,hcs⟩:=qby (.inl hu) hx
   exact one u hcs rfl (.inl hu)
  ·rename_i k hu
   cases h
   obtain ⟨u,hcs⟩:=qby (.inr (.inl ⟨k,hu⟩)) hx
   exact one u hcs rfl (.inr (.inl ⟨k,hu⟩))
  ·rename_i hu
   cases h
   obtain ⟨u,hcs⟩:=qby (.inr (.inr (.inl hu))) hx
   exact one u hcs rfl (.inr (.inr (.inl hu)))
  ·rename_i e hu
   split at h
   ·cases h
   ·rename_i he
    cases h
    obtain ⟨u,hcs⟩:=qby (.inr (.inr (.inr ⟨e,hu⟩))) hx
    exact one u hcs rfl (.inr (.inr (.inr ⟨e,hu,he⟩)))
  ·rename_i fs hu
   obtain ⟨h1,_,h3⟩:=qhm _ _ _ h
   rw [Nat.zero_add] at h1
   unfold DataW.trod at hx
   rw [hu] at hx
   simp only at hx
   split at hx
   ·rename_i hl
    cases hm:fs.toList.mapM (fun f=>DataW.trod enc P w base spare held fuel f.type ((cs.drop f.offset).take (P.cellsOf f.type))) with
    | none=>rw [hm] at hx;simp at hx
    | some xs =>
     have hg:=mapM_some_get hm
     refine ⟨hl.trans h1.symm,fun j t' u hj hu'=>?_⟩
     have hjt:j<P.cellsOf t:=by rw [← h1];exact (List.getElem?_eq_some_iff.1 hj).1
     obtain ⟨f,hf,k1,k2⟩:=qei _ _ _ h j (Nat.zero_le _) hjt
     obtain ⟨a,ha,hal,_,_,hat⟩:=h3 f hf
     obtain ⟨i,hi⟩:=List.mem_iff_getElem?.1 hf
     have hx1:=hg i f hi
     have hil:i<xs.length:=by rw [mapM_some_length hm];exact (List.getElem?_eq_some_iff.1 hi).1
     rw [List.getElem?_eq_getElem hil] at hx1
     obtain ⟨_,hrec⟩:=qaf n f.type a fuel _ _ ha hx1
     have hj2:j-f.offset<a.length:=by omega
     have e1:=hat (j-f.offset) hj2
     rw [show f.offset-0+(j-f.offset)=j by omega,hj] at e1
     refine hrec (j-f.offset) t' u e1.symm ?_
     rw [List.getElem?_take,if_pos (by omega),List.getElem?_drop,show f.offset+(j-f.offset)=j by omega]
     exact hu'
   ·cases hx
  ·rename_i m e hu
   split at h
   ·rename_i a ha
    split at h
    ·rename_i hal
     cases h
     unfold DataW.trod at hx
     rw [hu] at hx
     simp only at hx
     split at hx
     ·rename_i hl
      cases hm:(List.range m).mapM (fun i=>DataW.trod enc P w base spare held fuel e ((cs.drop (i * P.cellsOf e)).take (P.cellsOf e))) with
      | none=>rw [hm] at hx;simp at hx
      | some xs =>
       have hg:=mapM_some_get hm
       have hfl:(List.replicate m a).flatten.length=m * P.cellsOf e:=by simp [hal.1]
       refine ⟨by rw [hl,hal.2,hfl],fun j t' u hj hu'=>?_⟩
       have hjt:j<m * P.cellsOf e:=by rw [← hfl];exact (List.getElem?_eq_some_iff.1 hj).1
       have hpos:0<P.cellsOf e:=by
        rcases Nat.eq_zero_or_pos (P.cellsOf e) with h0 | h0
        ·rw [h0] at hjt;simp at hjt
        ·exact h0
       have hi:j / P.cellsOf e<m:=(Nat.div_lt_iff_lt_mul hpos).2 hjt
       have hx1:=hg (j / P.cellsOf e) (j / P.cellsOf e) (by simp [hi])
       have hil:j / P.cellsOf e<xs.length:=by rw [mapM_some_length hm];simpa using hi
       rw [List.getElem?_eq_getElem hil] at hx1
       obtain ⟨_,hrec⟩:=qaf n e a fuel _ _ ha hx1
       have hdm:j / P.cellsOf e * P.cellsOf e+j % P.cellsOf e=j:=Nat.div_add_mod' _ _
       have hmod:j % P.cellsOf e<P.cellsOf e:=Nat.mod_lt _ hpos
       refine hrec (j % P.cellsOf e) t' u ?_ ?_
       ·have hw:∀ r∈List.replicate m a,r.length=P.cellsOf e:=fun r hr=>by rw [List.eq_of_mem_replicate hr];exact hal.1
        have h3:=qim (sz:=P.cellsOf e) hw (i:=j / P.cellsOf e) (r:=a) (by rw [List.getElem?_replicate,if_pos hi]) hmod
        rw [hdm] at h3
        rw [← h3];exact hj
       ·rw [List.getElem?_take,if_pos hmod,List.getElem?_drop,hdm]
        exact hu'
     ·cases hx
    ·cases h
   ·cases h
  ·cases h
theorem q8v {α:Type} {p:Nat→α→Prop}:∀ (n:Nat),(∀ j,j<n→∃ v,p j v)→∃ l:List α,l.length=n∧∀ (j:Nat) (v:α),l[j]?=some v→p j v
 | 0,_=>⟨[],rfl,fun _ _ h=>by simp at h⟩
 | n+1,h=>by
  obtain ⟨l,h1,h2⟩:=q8v n (fun j hj=>h j (by omega))
  obtain ⟨v,hv⟩:=h n (by omega)
  refine ⟨l++[v],by simp [h1],fun j x hx=>?_⟩
  rcases Nat.lt_or_ge j l.length with hj | hj
  ·rw [List.getElem?_append_left hj] at hx;exact h2 j x hx
  ·rw [List.getElem?_append_right hj] at hx
   have:j-l.length=0:=by
    rcases Nat.eq_zero_or_pos (j-l.length) with e | e
    ·exact e
    ·rw [List.getElem?_eq_none Y1c] at hx;cases hx
   rw [this] at hx
   simp at hx
   subst hx
   rw [show j=n by omega]
   exact hv
def q9y (P:Program):Nat→TypeId→Bool
 | 0,_=>false
 | n+1,t=>match P.underlying t with
  | some .bool | some (.int _) | some .string=>true
  | some (.slice e)=>match q65 P (n+1) e with
   | some ts=>decide (P.cellsOf e≠0)&&decide (ts.length=P.cellsOf e)&&ts.all (q9y P n)
   | none=>false
  | _=>false
theorem qpk:∀ (n:Nat) (t:TypeId) (u:Value) (fuel:Nat) (x:DataW Hd×List MemPlace),q9y P n t=true→DataW.trod enc P w base spare held fuel t [u]=some x→∃ v,q4j P n t v∧v.leaf=true∧VR (own []) w [] v u
 | 0,_,_,_,_,h,_=>by cases h
 | _+1,_,_,0,_,_,h=>by cases h
 | n+1,t,u,fuel+1,x,h,hx=>by
  unfold q9y at h
  unfold q4j
  unfold DataW.trod at hx
  split at h
  ·rename_i hu
   rw [hu] at hx
   split at hx<;>first | (simp_all;done) | skip
   rename_i b _ hc
   obtain rfl:=(List.cons.inj hc).1
   exact ⟨_,⟨_,rfl⟩,rfl,.bool⟩
  ·rename_i k hu
   rw [hu] at hx
   split at hx<;>first | (simp_all;done) | skip
   split at hx
   ·rename_i k' k'' i hk hc hw
    obtain rfl:=(List.cons.inj hc).1
    injection hk with hk
    injection hk with hk
    subst hk
    obtain ⟨rfl,hw⟩:=hw
    exact ⟨_,⟨_,rfl,hw⟩,rfl,.int⟩
   ·cases hx
  ·rename_i hu
   rw [hu] at hx
   split at hx<;>first | (simp_all;done) | skip
   split at hx
   ·rename_i s _ hc hw
    obtain rfl:=(List.cons.inj hc).1
    exact ⟨_,⟨_,rfl,hw⟩,rfl,.str⟩
   ·cases hx
  ·rename_i e hu
   rw [hu] at hx
   split at h
   ·rename_i ts hts
    simp only [Bool.and_eq_true,decide_eq_true_eq] at h
    obtain ⟨⟨he,htl⟩,hall⟩:=h
    split at hx<;>first | (simp_all;done) | skip
    ·rename_i e' hk hc
     obtain rfl:=(List.cons.inj hc).1
     refine ⟨.pl [],⟨[],rfl,Nat.zero_le _,by simp⟩,rfl,.pl (xs:=[]) default 0 (fun _ _=>undef) (Nat.zero_le _) (fun h=>absurd rfl h) (fun _ _ h=>by simp at h) (fun _ h=>by simp at h) (fun _ _ _ _ h=>by simp at h) (fun _ _ _ _ h=>by simp at h)⟩
    ·rename_i e' a len cap hk hc
     obtain rfl:=(List.cons.inj hc).1
     injection hk with hk
     injection hk with hk
     subst hk
     simp only at hx
     split at hx
     ·rename_i hcnd
      cases hm:(List.range len).mapM (fun i=>(w.cells? base (a.add (i * P.cellsOf e)) (P.cellsOf e)).bind (DataW.trod enc P w base spare held fuel e)) with
      | none=>rw [hm] at hx;simp at hx
      | some xs =>
       have hg:=mapM_some_get hm
       have row:∀ i,i<len→∃ r:List AV,r.length=P.cellsOf e∧(∀ (j:Nat) (t':TypeId) (v':AV),ts[j]?=some t'→r[j]?=some v'→q4j P n t' v')∧a.block<w.heap.size ∧
         ∀ (j:Nat) (v:AV),r[j]?=some v→v.leaf=true∧∃ u,w.cell? (a.add (i * P.cellsOf e+j))=some u∧VR (own []) w [] v u:=by
        intro i hi
        have hx1:=hg i i (by simp [hi])
        have hil:i<xs.length:=by rw [mapM_some_length hm];simpa using hi
        rw [List.getElem?_eq_getElem hil] at hx1
        cases hcs:w.cells? base (a.add (i * P.cellsOf e)) (P.cellsOf e) with
        | none=>rw [hcs] at hx1;simp at hx1
        | some cs =>
         rw [hcs] at hx1
         simp only [Option.bind_some] at hx1
         obtain ⟨_,hcl,hcell⟩:=World.cells?_some hcs
         obtain ⟨hl,hrec⟩:=qaf (n+1) e ts fuel cs _ hts hx1
         have hblk:=World.cells?_block hcs (by omega)
         rw [q6i] at hblk
         obtain ⟨r,hr1,hr2⟩:=q8v (p:=fun j v=>v.leaf=true∧(∀ t',ts[j]?=some t'→q4j P n t' v)∧∃ u,w.cell? (a.add (i * P.cellsOf e+j))=some u∧VR (own []) w [] v u) (P.cellsOf e) (fun j hj=>by
          have hjc:j<cs.length:=by omega
          have hjt:j<ts.length:=by omega
          obtain ⟨fuel',x',hx',_⟩:=hrec j _ _ (List.getElem?_eq_getElem hjt) (List.getElem?_eq_getElem hjc)
          obtain ⟨v,k1,k2,k3⟩:=qpk n _ _ fuel' x' (List.all_eq_true.1 hall _ (List.getElem_mem hjt)) hx'
          refine ⟨v,k2,fun t' ht'=>?_,_,?_,k3⟩
          ·rw [List.getElem?_eq_getElem hjt] at ht'
           obtain rfl:=Option.some.inj ht'
           exact k1
          ·have:=hcell j hj
           rw [qai] at this
           rw [this,List.getElem?_eq_getElem hjc])
         exact ⟨r,hr1,fun j t' v' ht' hv'=>(hr2 j v' hv').2.1 t' ht',hblk,fun j v hv=>⟨(hr2 j v hv).1,(hr2 j v hv).2.2⟩⟩
       obtain ⟨rows,hr1,hr2⟩:=q8v len row
       have hrows:∀ i r,rows[i]?=some r→i<len:=fun i r hr=>by rw [← hr1];exact (List.getElem?_eq_some_iff.1 hr).1
       refine ⟨.pl rows,⟨rows,rfl,by omega,fun r hr=>?_⟩,rfl,?_⟩
       ·obtain ⟨i,hi⟩:=List.mem_iff_getElem?.1 hr
        obtain ⟨k1,k2,_,_⟩:=hr2 i r hi
        exact ⟨ts,hts,by omega,k2⟩
       ·rw [← hr1]
        refine .pl a (P.cellsOf e) (fun i j=>(w.cell? (a.add (i * P.cellsOf e+j))).getD undef) (by omega) (fun hne=>?_) (fun i r hr=>(hr2 i r hr).1) (fun i hi j hj=>?_) (fun i j r v hr hv=>((hr2 i r hr).2.2.2 j v hv).1) (fun i j r v hr hv=>?_)
        ·have hpos:0<rows.length:=List.length_pos_iff.2 hne
         exact ⟨rfl,by rintro ⟨i,s,hs,_⟩;simp at hs,(hr2 0 _ (List.getElem?_eq_getElem hpos)).2.2.1⟩
        ·have hk:=hr2 i _ (List.getElem?_eq_getElem hi)
         obtain ⟨_,u,hu',_⟩:=hk.2.2.2 j _ (List.getElem?_eq_getElem (by rw [hk.1];exact hj))
         rw [hu'];rfl
        ·obtain ⟨_,u,hu',hv'⟩:=(hr2 i r hr).2.2.2 j v hv
         rw [hu'];exact hv'
     ·cases hx
   ·cases h
  ·cases h
end
end Go.Av
namespace Go.Av
open Go.RowKit
section
variable {P : Program} {Hd : Type} {enc : TypeId × Value → Hd} {w : World} {base b : Nat} {spare : Nat → Bool} {held : Bool}
theorem qbu {n:Nat} {t:TypeId} {v:Value} {d:DataW Hd} {ps:List MemPlace} (hd:q9y P n t=true) (hval:Value.okWide P w .any b t v) (h:DataW.Trod enc P w base spare held t v d ps):∃ a,q4j P n t a∧VR (own []) w [] a v:=by
 have hc:v.cells = #[v]:=by
  cases n with
  | zero=>cases hd
  | succ n =>
   unfold q9y at hd
   unfold Value.okWide at hval
   cases v with
   | agg cs =>
    exfalso
    split at hd<;>rename_i hu<;>simp [hu,Cell.okWide,Cell.ok] at hval hd
   | _=>rfl
 obtain ⟨fuel,h⟩:=h
 rw [hc] at h
 obtain ⟨a,h1,_,h2⟩:=qpk n t v fuel _ hd h
 exact ⟨a,h1,h2⟩
theorem qpj {n:Nat} {t:TypeId} {a:AV} (hu:P.underlying t=some .bool) (h:q4j P (n+1) t a):∃ b,a = .bool b:=by
 unfold q4j at h;rw [hu] at h;exact h
theorem q3m {n:Nat} {t:TypeId} {k:IntKind} {a:AV} (hu:P.underlying t=some (.int k)) (h:q4j P (n+1) t a):∃ i,a = .int k i∧(Lit.int k i).wf=true:=by
 unfold q4j at h;rw [hu] at h;exact h
theorem qn2 {n:Nat} {t:TypeId} {a:AV} (hu:P.underlying t=some .string) (h:q4j P (n+1) t a):∃ s:ByteArray,a = .str s∧s.size≤maxLen:=by
 unfold q4j at h;rw [hu] at h;exact h
theorem qkf {n:Nat} {t e:TypeId} {ts:List TypeId} {a:AV} (hu:P.underlying t=some (.slice e)) (hts:q65 P (n+1) e=some ts) (h:q4j P (n+1) t a):∃ rows,a = .pl rows∧rows.length≤maxLen∧∀ r∈rows,qo8 P n ts r:=by
 unfold q4j at h
 rw [hu] at h
 obtain ⟨rows,h1,h2,h3⟩:=h
 refine ⟨rows,h1,h2,fun r hr=>?_⟩
 obtain ⟨ts',k1,k2,k3⟩:=h3 r hr
 rw [hts] at k1
 obtain rfl:=Option.some.inj k1
 exact ⟨k2,k3⟩
theorem ql9 {n:Nat} {r:List AV} (h:qo8 P n [] r):r=[]:=List.eq_nil_of_length_eq_zero h.1
theorem q2x {n:Nat} {t:TypeId} {ts:List TypeId} {r:List AV} (h:qo8 P n (t :: ts) r):∃ v r',r=v :: r'∧q4j P n t v∧qo8 P n ts r':=by
 cases r with
 | nil=>have:=h.1;simp at this
 | cons v r=>exact ⟨v,r,rfl,h.2 0 t v rfl rfl,by simpa using h.1,fun j t' v' h1 h2=>h.2 (j+1) t' v' h1 h2⟩
theorem qlt {α:Type} {e:α→List AV}:∀ {rows:List (List AV)},(∀ r∈rows,∃ x,r=e x)→∃ l:List α,rows=l.map e
 | [],_=>⟨[],rfl⟩
 | r :: rows,h=>by
  obtain ⟨x,rfl⟩:=h r List.mem_cons_self
  obtain ⟨l,rfl⟩:=qlt (rows:=rows) fun r hr=>h r (List.mem_cons_of_mem _ hr)
  exact ⟨x :: l,rfl⟩
inductive All2 {α β : Type} (R : α → β → Prop) : List α → List β → Prop where
 | nil:All2 R [] []
 | cons {a b as1 bs} (h:R a b) (k:All2 R as1 bs):All2 R (a :: as1) (b :: bs)
theorem All2.vrs {O:Nat→Prop} {S:List Slot} {vs:List AV} {us:List Value} (h:All2 (VR O w S) vs us):VRs O w S vs us.toArray:=by
 induction h with
 | nil=>exact ⟨rfl,fun i v u hv=>by simp at hv⟩
 | cons h k ih =>
  refine ⟨by simpa using ih.1,fun i v u hv hu=>?_⟩
  cases i with
  | zero=>simp at hv hu;subst hv;subst hu;exact h
  | succ i=>exact ih.2 i v u (by simpa using hv) (by simpa using hu)
end
end Go.Av
namespace Go.Av
end Go.Av
namespace Go.Av
open Go.Proofs
instance ty1:TyI Tryz.prog 1 false 1:=⟨by kernel_rfl,by kernel_rfl⟩
instance ty2:TyI Tryz.prog 2 false 1:=⟨by kernel_rfl,by kernel_rfl⟩
instance by2:ByI Tryz.prog 2 8:=⟨by kernel_rfl⟩
instance ud2:UdI Tryz.prog 2 (.int .i64):=⟨by kernel_rfl⟩
instance zc2:ZcI Tryz.prog 2 [.int .i64 0]:=⟨.int .i64 0,by kernel_rfl,rfl,rfl⟩
instance ty3:TyI Tryz.prog 3 false 1:=⟨by kernel_rfl,by kernel_rfl⟩
instance by3:ByI Tryz.prog 3 8:=⟨by kernel_rfl⟩
instance ud3:UdI Tryz.prog 3 (.int .i64):=⟨by kernel_rfl⟩
instance zc3:ZcI Tryz.prog 3 [.int .i64 0]:=⟨.int .i64 0,by kernel_rfl,rfl,rfl⟩
instance ty4:TyI Tryz.prog 4 false 1:=⟨by kernel_rfl,by kernel_rfl⟩
instance by4:ByI Tryz.prog 4 1:=⟨by kernel_rfl⟩
instance ud4:UdI Tryz.prog 4 .bool:=⟨by kernel_rfl⟩
instance zc4:ZcI Tryz.prog 4 [.bool false]:=⟨.bool false,by kernel_rfl,rfl,rfl⟩
instance ty5:TyI Tryz.prog 5 false 1:=⟨by kernel_rfl,by kernel_rfl⟩
instance ud5:UdI Tryz.prog 5 (.int .u8):=⟨by kernel_rfl⟩
instance ty9:TyI Tryz.prog 9 false 1:=⟨by kernel_rfl,by kernel_rfl⟩
instance ud9:UdI Tryz.prog 9 .string:=⟨by kernel_rfl⟩
instance ud21:UdI Tryz.prog 21 (.int .i32):=⟨by kernel_rfl⟩
instance ty22:TyI Tryz.prog 22 false 1:=⟨by kernel_rfl,by kernel_rfl⟩
instance sl22:SlI Tryz.prog 22 72:=⟨by kernel_rfl⟩
instance ni22:NiI Tryz.prog 22:=⟨.inl ⟨72,by kernel_rfl⟩⟩
instance ty23:TyI Tryz.prog 23 false 1:=⟨by kernel_rfl,by kernel_rfl⟩
instance by23:ByI Tryz.prog 23 24:=⟨by kernel_rfl⟩
instance sl23:SlI Tryz.prog 23 3:=⟨by kernel_rfl⟩
instance ni23:NiI Tryz.prog 23:=⟨.inl ⟨3,by kernel_rfl⟩⟩
instance zc23:ZcI Tryz.prog 23 [.nsl]:=⟨.slice none 0 0,by kernel_rfl,rfl,rfl⟩
instance ty24:TyI Tryz.prog 24 false 1:=⟨by kernel_rfl,by kernel_rfl⟩
instance sl24:SlI Tryz.prog 24 63:=⟨by kernel_rfl⟩
instance ni24:NiI Tryz.prog 24:=⟨.inl ⟨63,by kernel_rfl⟩⟩
instance ty25:TyI Tryz.prog 25 false 1:=⟨by kernel_rfl,by kernel_rfl⟩
instance sl25:SlI Tryz.prog 25 60:=⟨by kernel_rfl⟩
instance ni25:NiI Tryz.prog 25:=⟨.inl ⟨60,by kernel_rfl⟩⟩
instance ty27:TyI Tryz.prog 27 true 9:=⟨by kernel_rfl,by kernel_rfl⟩
instance q10e:FldI Tryz.prog 27 0 0 22:=⟨by kernel_rfl⟩
instance qzh:FldI Tryz.prog 27 1 1 23:=⟨by kernel_rfl⟩
instance qzt:FldI Tryz.prog 27 2 2 23:=⟨by kernel_rfl⟩
instance qzj:FldI Tryz.prog 27 3 3 2:=⟨by kernel_rfl⟩
instance qzm:FldI Tryz.prog 27 4 4 24:=⟨by kernel_rfl⟩
instance qzl:FldI Tryz.prog 27 5 5 25:=⟨by kernel_rfl⟩
instance q107:FldI Tryz.prog 27 6 6 2:=⟨by kernel_rfl⟩
instance q105:FldI Tryz.prog 27 7 7 3:=⟨by kernel_rfl⟩
instance q10b:FldI Tryz.prog 27 8 8 3:=⟨by kernel_rfl⟩
instance st27:StI Tryz.prog 27 [(0,1),(1,1),(2,1),(3,1),(4,1),(5,1),(6,1),(7,1),(8,1)]:=⟨by kernel_rfl⟩
instance zc27:ZcI Tryz.prog 27 [.nsl,.nsl,.nsl,.int .i64 0,.nsl,.nsl,.int .i64 0,.int .i64 0,.int .i64 0]:=⟨.agg #[.slice none 0 0,.slice none 0 0,.slice none 0 0,.int .i64 0,.slice none 0 0,.slice none 0 0,.int .i64 0,.int .i64 0,.int .i64 0],by kernel_rfl,rfl,rfl⟩
instance ty29:TyI Tryz.prog 29 true 7:=⟨by kernel_rfl,by kernel_rfl⟩
instance ar29:ArI Tryz.prog 29 7 3:=⟨by kernel_rfl⟩
instance zc29:ZcI Tryz.prog 29 [.int .i64 0,.int .i64 0,.int .i64 0,.int .i64 0,.int .i64 0,.int .i64 0,.int .i64 0]:=⟨.agg #[.int .i64 0,.int .i64 0,.int .i64 0,.int .i64 0,.int .i64 0,.int .i64 0,.int .i64 0],by kernel_rfl,rfl,rfl⟩
instance sl39:SlI Tryz.prog 39 52:=⟨by kernel_rfl⟩
instance ty50:TyI Tryz.prog 50 true 7:=⟨by kernel_rfl,by kernel_rfl⟩
instance qzv:FldI Tryz.prog 50 0 0 3:=⟨by kernel_rfl⟩
instance q109:FldI Tryz.prog 50 1 1 3:=⟨by kernel_rfl⟩
instance qzy:FldI Tryz.prog 50 2 2 3:=⟨by kernel_rfl⟩
instance qzu:FldI Tryz.prog 50 3 3 9:=⟨by kernel_rfl⟩
instance q10d:FldI Tryz.prog 50 4 4 4:=⟨by kernel_rfl⟩
instance qzs:FldI Tryz.prog 50 5 5 2:=⟨by kernel_rfl⟩
instance q10h:FldI Tryz.prog 50 6 6 3:=⟨by kernel_rfl⟩
instance st50:StI Tryz.prog 50 [(0,1),(1,1),(2,1),(3,1),(4,1),(5,1),(6,1)]:=⟨by kernel_rfl⟩
instance zc50:ZcI Tryz.prog 50 [.int .i64 0,.int .i64 0,.int .i64 0,.str ⟨#[]⟩,.bool false,.int .i64 0,.int .i64 0]:=⟨.agg #[.int .i64 0,.int .i64 0,.int .i64 0,.string ⟨#[]⟩,.bool false,.int .i64 0,.int .i64 0],by kernel_rfl,rfl,rfl⟩
instance ty52:TyI Tryz.prog 52 true 13:=⟨by kernel_rfl,by kernel_rfl⟩
instance q10k:FldI Tryz.prog 52 0 0 3:=⟨by kernel_rfl⟩
instance q106:FldI Tryz.prog 52 1 1 50:=⟨by kernel_rfl⟩
instance q10j:FldI Tryz.prog 52 2 8 23:=⟨by kernel_rfl⟩
instance q10g:FldI Tryz.prog 52 3 9 3:=⟨by kernel_rfl⟩
instance q10i:FldI Tryz.prog 52 4 10 3:=⟨by kernel_rfl⟩
instance q108:FldI Tryz.prog 52 5 11 2:=⟨by kernel_rfl⟩
instance qzx:FldI Tryz.prog 52 6 12 23:=⟨by kernel_rfl⟩
instance ty60:TyI Tryz.prog 60 true 4:=⟨by kernel_rfl,by kernel_rfl⟩
instance by60:ByI Tryz.prog 60 48:=⟨by kernel_rfl⟩
instance q103:FldI Tryz.prog 60 0 0 3:=⟨by kernel_rfl⟩
instance q104:FldI Tryz.prog 60 1 1 23:=⟨by kernel_rfl⟩
instance qzn:FldI Tryz.prog 60 2 2 2:=⟨by kernel_rfl⟩
instance qzw:FldI Tryz.prog 60 3 3 2:=⟨by kernel_rfl⟩
instance st60:StI Tryz.prog 60 [(0,1),(1,1),(2,1),(3,1)]:=⟨by kernel_rfl⟩
instance zc60:ZcI Tryz.prog 60 [.int .i64 0,.nsl,.int .i64 0,.int .i64 0]:=⟨.agg #[.int .i64 0,.slice none 0 0,.int .i64 0,.int .i64 0],by kernel_rfl,rfl,rfl⟩
instance ty63:TyI Tryz.prog 63 true 13:=⟨by kernel_rfl,by kernel_rfl⟩
instance by63:ByI Tryz.prog 63 128:=⟨by kernel_rfl⟩
instance q102:FldI Tryz.prog 63 0 0 3:=⟨by kernel_rfl⟩
instance qzo:FldI Tryz.prog 63 1 1 50:=⟨by kernel_rfl⟩
instance qzk:FldI Tryz.prog 63 2 8 23:=⟨by kernel_rfl⟩
instance q100:FldI Tryz.prog 63 3 9 3:=⟨by kernel_rfl⟩
instance q10c:FldI Tryz.prog 63 4 10 2:=⟨by kernel_rfl⟩
instance qzz:FldI Tryz.prog 63 5 11 2:=⟨by kernel_rfl⟩
instance qzp:FldI Tryz.prog 63 6 12 2:=⟨by kernel_rfl⟩
instance st63:StI Tryz.prog 63 [(0,1),(1,7),(8,1),(9,1),(10,1),(11,1),(12,1)]:=⟨by kernel_rfl⟩
instance zc63:ZcI Tryz.prog 63 [.int .i64 0,.int .i64 0,.int .i64 0,.int .i64 0,.str ⟨#[]⟩,.bool false,.int .i64 0,.int .i64 0,.nsl,.int .i64 0,.int .i64 0,.int .i64 0,.int .i64 0]:=⟨.agg #[.int .i64 0,.int .i64 0,.int .i64 0,.int .i64 0,.string ⟨#[]⟩,.bool false,.int .i64 0,.int .i64 0,.slice none 0 0,.int .i64 0,.int .i64 0,.int .i64 0,.int .i64 0],by kernel_rfl,rfl,rfl⟩
instance ty67:TyI Tryz.prog 67 false 1:=⟨by kernel_rfl,by kernel_rfl⟩
instance zc67:ZcI Tryz.prog 67 [.nfn]:=⟨.nilFunc,by kernel_rfl,rfl,rfl⟩
instance ty72:TyI Tryz.prog 72 true 3:=⟨by kernel_rfl,by kernel_rfl⟩
instance by72:ByI Tryz.prog 72 32:=⟨by kernel_rfl⟩
instance qzi:FldI Tryz.prog 72 0 0 3:=⟨by kernel_rfl⟩
instance qzq:FldI Tryz.prog 72 1 1 3:=⟨by kernel_rfl⟩
instance q10f:FldI Tryz.prog 72 2 2 9:=⟨by kernel_rfl⟩
instance st72:StI Tryz.prog 72 [(0,1),(1,1),(2,1)]:=⟨by kernel_rfl⟩
instance zc72:ZcI Tryz.prog 72 [.int .i64 0,.int .i64 0,.str ⟨#[]⟩]:=⟨.agg #[.int .i64 0,.int .i64 0,.string ⟨#[]⟩],by kernel_rfl,rfl,rfl⟩
instance qz0:FldI Tryz.prog 103 0 0 27:=⟨by kernel_rfl⟩
instance q129:StI Tryz.prog 103 [(0,9)]:=⟨by kernel_rfl⟩
instance q11s:ZcI Tryz.prog 103 [.nsl,.nsl,.nsl,.int .i64 0,.nsl,.nsl,.int .i64 0,.int .i64 0,.int .i64 0]:=⟨.agg #[.slice none 0 0,.slice none 0 0,.slice none 0 0,.int .i64 0,.slice none 0 0,.slice none 0 0,.int .i64 0,.int .i64 0,.int .i64 0],by kernel_rfl,rfl,rfl⟩
instance q14v:TyI Tryz.prog 109 false 1:=⟨by kernel_rfl,by kernel_rfl⟩
instance q12x:UdI Tryz.prog 109 (.int .u64):=⟨by kernel_rfl⟩
instance q137:TyI Tryz.prog 111 true 4:=⟨by kernel_rfl,by kernel_rfl⟩
instance q12d:ArI Tryz.prog 111 4 109:=⟨by kernel_rfl⟩
instance q10r:ZcI Tryz.prog 111 [.int .u64 0,.int .u64 0,.int .u64 0,.int .u64 0]:=⟨.agg #[.int .u64 0,.int .u64 0,.int .u64 0,.int .u64 0],by kernel_rfl,rfl,rfl⟩
instance q12a:TyI Tryz.prog 134 false 1:=⟨by kernel_rfl,by kernel_rfl⟩
instance q14o:SlI Tryz.prog 134 4:=⟨by kernel_rfl⟩
instance q13k:ZcI Tryz.prog 134 [.nsl]:=⟨.slice none 0 0,by kernel_rfl,rfl,rfl⟩
instance q10x:SlI Tryz.prog 179 182:=⟨by kernel_rfl⟩
instance q145:NiI Tryz.prog 179:=⟨.inl ⟨182,by kernel_rfl⟩⟩
instance q13w:TyI Tryz.prog 182 true 8:=⟨by kernel_rfl,by kernel_rfl⟩
instance q14s:ByI Tryz.prog 182 72:=⟨by kernel_rfl⟩
instance qz5:FldI Tryz.prog 182 0 0 3:=⟨by kernel_rfl⟩
instance qyl:FldI Tryz.prog 182 1 1 50:=⟨by kernel_rfl⟩
instance q10s:StI Tryz.prog 182 [(0,1),(1,7)]:=⟨by kernel_rfl⟩
instance q14g:ZcI Tryz.prog 182 [.int .i64 0,.int .i64 0,.int .i64 0,.int .i64 0,.str ⟨#[]⟩,.bool false,.int .i64 0,.int .i64 0]:=⟨.agg #[.int .i64 0,.int .i64 0,.int .i64 0,.int .i64 0,.string ⟨#[]⟩,.bool false,.int .i64 0,.int .i64 0],by kernel_rfl,rfl,rfl⟩
instance q13g:UdI Tryz.prog 191 (.int .u64):=⟨by kernel_rfl⟩
instance q13f:ArI Tryz.prog 215 64 5:=⟨by kernel_rfl⟩
instance q12u:ArI Tryz.prog 219 7 29:=⟨by kernel_rfl⟩
instance q132:ZcI Tryz.prog 219 [.int .i64 0,.int .i64 0,.int .i64 0,.int .i64 0,.int .i64 0,.int .i64 0,.int .i64 0,.int .i64 0,.int .i64 0,.int .i64 0,.int .i64 0,.int .i64 0,.int .i64 0,.int .i64 0,.int .i64 0,.int .i64 0,.int .i64 0,.int .i64 0,.int .i64 0,.int .i64 0,.int .i64 0,.int .i64 0,.int .i64 0,.int .i64 0,.int .i64 0,.int .i64 0,.int .i64 0,.int .i64 0,.int .i64 0,.int .i64 0,.int .i64 0,.int .i64 0,.int .i64 0,.int .i64 0,.int .i64 0,.int .i64 0,.int .i64 0,.int .i64 0,.int .i64 0,.int .i64 0,.int .i64 0,.int .i64 0,.int .i64 0,.int .i64 0,.int .i64 0,.int .i64 0,.int .i64 0,.int .i64 0,.int .i64 0]:=⟨.agg #[.int .i64 0,.int .i64 0,.int .i64 0,.int .i64 0,.int .i64 0,.int .i64 0,.int .i64 0,.int .i64 0,.int .i64 0,.int .i64 0,.int .i64 0,.int .i64 0,.int .i64 0,.int .i64 0,.int .i64 0,.int .i64 0,.int .i64 0,.int .i64 0,.int .i64 0,.int .i64 0,.int .i64 0,.int .i64 0,.int .i64 0,.int .i64 0,.int .i64 0,.int .i64 0,.int .i64 0,.int .i64 0,.int .i64 0,.int .i64 0,.int .i64 0,.int .i64 0,.int .i64 0,.int .i64 0,.int .i64 0,.int .i64 0,.int .i64 0,.int .i64 0,.int .i64 0,.int .i64 0,.int .i64 0,.int .i64 0,.int .i64 0,.int .i64 0,.int .i64 0,.int .i64 0,.int .i64 0,.int .i64 0,.int .i64 0],by kernel_rfl,rfl,rfl⟩
instance q13u:SlI Tryz.prog 227 2:=⟨by kernel_rfl⟩
instance q136:NiI Tryz.prog 227:=⟨.inl ⟨2,by kernel_rfl⟩⟩
instance q12g:TyI Tryz.prog 230 false 1:=⟨by kernel_rfl,by kernel_rfl⟩
instance q13t:SlI Tryz.prog 230 23:=⟨by kernel_rfl⟩
instance qyt:FldI Tryz.prog 232 0 0 22:=⟨by kernel_rfl⟩
instance qyz:FldI Tryz.prog 232 1 1 134:=⟨by kernel_rfl⟩
instance qyr:FldI Tryz.prog 232 2 2 230:=⟨by kernel_rfl⟩
instance qyu:FldI Tryz.prog 232 3 3 50:=⟨by kernel_rfl⟩
instance q11p:StI Tryz.prog 232 [(0,1),(1,1),(2,1),(3,7)]:=⟨by kernel_rfl⟩
instance q12p:ZcI Tryz.prog 232 [.nsl,.nsl,.nsl,.int .i64 0,.int .i64 0,.int .i64 0,.str ⟨#[]⟩,.bool false,.int .i64 0,.int .i64 0]:=⟨.agg #[.slice none 0 0,.slice none 0 0,.slice none 0 0,.int .i64 0,.int .i64 0,.int .i64 0,.string ⟨#[]⟩,.bool false,.int .i64 0,.int .i64 0],by kernel_rfl,rfl,rfl⟩
instance fn16:FnI Tryz.prog 16:=⟨by kernel_rfl⟩
instance fn17:FnI Tryz.prog 17:=⟨by kernel_rfl⟩
instance fn18:FnI Tryz.prog 18:=⟨by kernel_rfl⟩
instance fn19:FnI Tryz.prog 19:=⟨by kernel_rfl⟩
instance fn20:FnI Tryz.prog 20:=⟨by kernel_rfl⟩
instance fn21:FnI Tryz.prog 21:=⟨by kernel_rfl⟩
instance fn22:FnI Tryz.prog 22:=⟨by kernel_rfl⟩
instance fn23:FnI Tryz.prog 23:=⟨by kernel_rfl⟩
instance fn24:FnI Tryz.prog 24:=⟨by kernel_rfl⟩
instance fn25:FnI Tryz.prog 25:=⟨by kernel_rfl⟩
instance fn26:FnI Tryz.prog 26:=⟨by kernel_rfl⟩
instance fn27:FnI Tryz.prog 27:=⟨by kernel_rfl⟩
instance fn28:FnI Tryz.prog 28:=⟨by kernel_rfl⟩
instance fn29:FnI Tryz.prog 29:=⟨by kernel_rfl⟩
instance fn30:FnI Tryz.prog 30:=⟨by kernel_rfl⟩
instance fn31:FnI Tryz.prog 31:=⟨by kernel_rfl⟩
instance fn32:FnI Tryz.prog 32:=⟨by kernel_rfl⟩
instance fn33:FnI Tryz.prog 33:=⟨by kernel_rfl⟩
instance fn34:FnI Tryz.prog 34:=⟨by kernel_rfl⟩
instance fn39:FnI Tryz.prog 39:=⟨by kernel_rfl⟩
instance fn40:FnI Tryz.prog 40:=⟨by kernel_rfl⟩
instance fn41:FnI Tryz.prog 41:=⟨by kernel_rfl⟩
instance fn45:FnI Tryz.prog 45:=⟨by kernel_rfl⟩
instance fn46:FnI Tryz.prog 46:=⟨by kernel_rfl⟩
instance fn49:FnI Tryz.prog 49:=⟨by kernel_rfl⟩
instance fn50:FnI Tryz.prog 50:=⟨by kernel_rfl⟩
instance fn51:FnI Tryz.prog 51:=⟨by kernel_rfl⟩
instance fn52:FnI Tryz.prog 52:=⟨by kernel_rfl⟩
instance fn53:FnI Tryz.prog 53:=⟨by kernel_rfl⟩
instance fn54:FnI Tryz.prog 54:=⟨by kernel_rfl⟩
instance fn55:FnI Tryz.prog 55:=⟨by kernel_rfl⟩
instance fn56:FnI Tryz.prog 56:=⟨by kernel_rfl⟩
instance fn57:FnI Tryz.prog 57:=⟨by kernel_rfl⟩
instance fn58:FnI Tryz.prog 58:=⟨by kernel_rfl⟩
instance fn59:FnI Tryz.prog 59:=⟨by kernel_rfl⟩
instance fn60:FnI Tryz.prog 60:=⟨by kernel_rfl⟩
instance fn61:FnI Tryz.prog 61:=⟨by kernel_rfl⟩
instance fn62:FnI Tryz.prog 62:=⟨by kernel_rfl⟩
instance fn63:FnI Tryz.prog 63:=⟨by kernel_rfl⟩
instance fn64:FnI Tryz.prog 64:=⟨by kernel_rfl⟩
instance fn65:FnI Tryz.prog 65:=⟨by kernel_rfl⟩
instance fn66:FnI Tryz.prog 66:=⟨by kernel_rfl⟩
instance fn67:FnI Tryz.prog 67:=⟨by kernel_rfl⟩
instance fn68:FnI Tryz.prog 68:=⟨by kernel_rfl⟩
instance fn69:FnI Tryz.prog 69:=⟨by kernel_rfl⟩
instance fn70:FnI Tryz.prog 70:=⟨by kernel_rfl⟩
instance fn71:FnI Tryz.prog 71:=⟨by kernel_rfl⟩
instance fn72:FnI Tryz.prog 72:=⟨by kernel_rfl⟩
instance fn73:FnI Tryz.prog 73:=⟨by kernel_rfl⟩
instance fn74:FnI Tryz.prog 74:=⟨by kernel_rfl⟩
instance fn75:FnI Tryz.prog 75:=⟨by kernel_rfl⟩
instance fn76:FnI Tryz.prog 76:=⟨by kernel_rfl⟩
instance fn77:FnI Tryz.prog 77:=⟨by kernel_rfl⟩
instance fn78:FnI Tryz.prog 78:=⟨by kernel_rfl⟩
instance fn79:FnI Tryz.prog 79:=⟨by kernel_rfl⟩
instance fn80:FnI Tryz.prog 80:=⟨by kernel_rfl⟩
instance fn81:FnI Tryz.prog 81:=⟨by kernel_rfl⟩
instance fn82:FnI Tryz.prog 82:=⟨by kernel_rfl⟩
instance fn83:FnI Tryz.prog 83:=⟨by kernel_rfl⟩
instance fn84:FnI Tryz.prog 84:=⟨by kernel_rfl⟩
instance fn85:FnI Tryz.prog 85:=⟨by kernel_rfl⟩
instance fn86:FnI Tryz.prog 86:=⟨by kernel_rfl⟩
instance fn87:FnI Tryz.prog 87:=⟨by kernel_rfl⟩
instance fn88:FnI Tryz.prog 88:=⟨by kernel_rfl⟩
instance fn89:FnI Tryz.prog 89:=⟨by kernel_rfl⟩
instance fn90:FnI Tryz.prog 90:=⟨by kernel_rfl⟩
instance fn91:FnI Tryz.prog 91:=⟨by kernel_rfl⟩
instance fn92:FnI Tryz.prog 92:=⟨by kernel_rfl⟩
instance fn93:FnI Tryz.prog 93:=⟨by kernel_rfl⟩
instance fn94:FnI Tryz.prog 94:=⟨by kernel_rfl⟩
instance fn95:FnI Tryz.prog 95:=⟨by kernel_rfl⟩
instance fn96:FnI Tryz.prog 96:=⟨by kernel_rfl⟩
instance fn97:FnI Tryz.prog 97:=⟨by kernel_rfl⟩
instance fn98:FnI Tryz.prog 98:=⟨by kernel_rfl⟩
instance fn99:FnI Tryz.prog 99:=⟨by kernel_rfl⟩
instance q12z:FnI Tryz.prog 100:=⟨by kernel_rfl⟩
instance q127:FnI Tryz.prog 101:=⟨by kernel_rfl⟩
instance q12l:FnI Tryz.prog 102:=⟨by kernel_rfl⟩
instance q115:FnI Tryz.prog 103:=⟨by kernel_rfl⟩
instance q11u:FnI Tryz.prog 104:=⟨by kernel_rfl⟩
instance q11f:FnI Tryz.prog 105:=⟨by kernel_rfl⟩
instance q11e:FnI Tryz.prog 106:=⟨by kernel_rfl⟩
instance q11l:FnI Tryz.prog 107:=⟨by kernel_rfl⟩
instance q13o:FnI Tryz.prog 108:=⟨by kernel_rfl⟩
instance q13m:FnI Tryz.prog 109:=⟨by kernel_rfl⟩
instance q14p:FnI Tryz.prog 110:=⟨by kernel_rfl⟩
instance q10l:FnI Tryz.prog 111:=⟨by kernel_rfl⟩
instance q122:FnI Tryz.prog 112:=⟨by kernel_rfl⟩
instance q10n:FnI Tryz.prog 113:=⟨by kernel_rfl⟩
instance q10u:FnI Tryz.prog 114:=⟨by kernel_rfl⟩
instance q13c:FnI Tryz.prog 115:=⟨by kernel_rfl⟩
instance q10q:FnI Tryz.prog 116:=⟨by kernel_rfl⟩
instance q146:FnI Tryz.prog 117:=⟨by kernel_rfl⟩
instance q14f:FnI Tryz.prog 118:=⟨by kernel_rfl⟩
instance q143:FnI Tryz.prog 119:=⟨by kernel_rfl⟩
instance q13n:FnI Tryz.prog 120:=⟨by kernel_rfl⟩
instance q11b:FnI Tryz.prog 121:=⟨by kernel_rfl⟩
instance q133:FnI Tryz.prog 122:=⟨by kernel_rfl⟩
instance q10z:FnI Tryz.prog 123:=⟨by kernel_rfl⟩
instance q111:FnI Tryz.prog 124:=⟨by kernel_rfl⟩
instance q12q:FnI Tryz.prog 125:=⟨by kernel_rfl⟩
instance q14x:FnI Tryz.prog 126:=⟨by kernel_rfl⟩
instance q140:FnI Tryz.prog 127:=⟨by kernel_rfl⟩
instance q12v:FnI Tryz.prog 128:=⟨by kernel_rfl⟩
instance q14z:FnI Tryz.prog 129:=⟨by kernel_rfl⟩
instance q11d:FnI Tryz.prog 130:=⟨by kernel_rfl⟩
instance q123:FnI Tryz.prog 131:=⟨by kernel_rfl⟩
instance q14h:FnI Tryz.prog 132:=⟨by kernel_rfl⟩
instance q14a:FnI Tryz.prog 133:=⟨by kernel_rfl⟩
instance q11c:FnI Tryz.prog 134:=⟨by kernel_rfl⟩
instance q118:FnI Tryz.prog 135:=⟨by kernel_rfl⟩
instance q12m:FnI Tryz.prog 136:=⟨by kernel_rfl⟩
instance q14c:FnI Tryz.prog 137:=⟨by kernel_rfl⟩
instance q148:FnI Tryz.prog 138:=⟨by kernel_rfl⟩
instance q13l:FnI Tryz.prog 139:=⟨by kernel_rfl⟩
instance q135:FnI Tryz.prog 140:=⟨by kernel_rfl⟩
instance q147:FnI Tryz.prog 141:=⟨by kernel_rfl⟩
instance q12r:FnI Tryz.prog 142:=⟨by kernel_rfl⟩
instance q14l:FnI Tryz.prog 143:=⟨by kernel_rfl⟩
instance q119:FnI Tryz.prog 144:=⟨by kernel_rfl⟩
instance q14m:FnI Tryz.prog 145:=⟨by kernel_rfl⟩
instance q14q:FnI Tryz.prog 146:=⟨by kernel_rfl⟩
instance q14t:FnI Tryz.prog 147:=⟨by kernel_rfl⟩
instance q10p:FnI Tryz.prog 148:=⟨by kernel_rfl⟩
instance q13s:FnI Tryz.prog 149:=⟨by kernel_rfl⟩
instance q14w:FnI Tryz.prog 150:=⟨by kernel_rfl⟩
instance q12e:FnI Tryz.prog 151:=⟨by kernel_rfl⟩
instance q13b:FnI Tryz.prog 152:=⟨by kernel_rfl⟩
instance q13x:FnI Tryz.prog 153:=⟨by kernel_rfl⟩
instance q12h:FnI Tryz.prog 154:=⟨by kernel_rfl⟩
instance q131:FnI Tryz.prog 155:=⟨by kernel_rfl⟩
instance q124:FnI Tryz.prog 156:=⟨by kernel_rfl⟩
instance q12b:FnI Tryz.prog 157:=⟨by kernel_rfl⟩
instance q114:FnI Tryz.prog 158:=⟨by kernel_rfl⟩
instance q10t:FnI Tryz.prog 159:=⟨by kernel_rfl⟩
instance q113:FnI Tryz.prog 160:=⟨by kernel_rfl⟩
instance q10m:FnI Tryz.prog 161:=⟨by kernel_rfl⟩
instance q12w:FnI Tryz.prog 162:=⟨by kernel_rfl⟩
instance q11a:FnI Tryz.prog 163:=⟨by kernel_rfl⟩
instance q12t:FnI Tryz.prog 164:=⟨by kernel_rfl⟩
instance q125:FnI Tryz.prog 165:=⟨by kernel_rfl⟩
instance q13i:FnI Tryz.prog 166:=⟨by kernel_rfl⟩
instance q12k:FnI Tryz.prog 167:=⟨by kernel_rfl⟩
instance q11j:FnI Tryz.prog 168:=⟨by kernel_rfl⟩
instance q13v:FnI Tryz.prog 169:=⟨by kernel_rfl⟩
instance q13y:FnI Tryz.prog 170:=⟨by kernel_rfl⟩
instance q12c:FnI Tryz.prog 171:=⟨by kernel_rfl⟩
instance q14u:FnI Tryz.prog 172:=⟨by kernel_rfl⟩
instance q121:FnI Tryz.prog 173:=⟨by kernel_rfl⟩
instance q11g:FnI Tryz.prog 174:=⟨by kernel_rfl⟩
instance q12f:FnI Tryz.prog 175:=⟨by kernel_rfl⟩
instance q14y:FnI Tryz.prog 176:=⟨by kernel_rfl⟩
instance q11w:FnI Tryz.prog 177:=⟨by kernel_rfl⟩
instance q12j:FnI Tryz.prog 178:=⟨by kernel_rfl⟩
instance q11y:FnI Tryz.prog 179:=⟨by kernel_rfl⟩
instance q13p:FnI Tryz.prog 180:=⟨by kernel_rfl⟩
instance q13h:FnI Tryz.prog 181:=⟨by kernel_rfl⟩
instance q12o:FnI Tryz.prog 182:=⟨by kernel_rfl⟩
instance q11n:FnI Tryz.prog 183:=⟨by kernel_rfl⟩
instance q13e:FnI Tryz.prog 184:=⟨by kernel_rfl⟩
instance q13z:FnI Tryz.prog 185:=⟨by kernel_rfl⟩
instance q11q:FnI Tryz.prog 186:=⟨by kernel_rfl⟩
instance q14d:FnI Tryz.prog 187:=⟨by kernel_rfl⟩
instance q11m:FnI Tryz.prog 188:=⟨by kernel_rfl⟩
instance q134:FnI Tryz.prog 189:=⟨by kernel_rfl⟩
instance q14j:FnI Tryz.prog 190:=⟨by kernel_rfl⟩
instance q12n:FnI Tryz.prog 191:=⟨by kernel_rfl⟩
instance q150:FnI Tryz.prog 192:=⟨by kernel_rfl⟩
instance q138:FnI Tryz.prog 193:=⟨by kernel_rfl⟩
instance q11x:FnI Tryz.prog 194:=⟨by kernel_rfl⟩
instance q14b:FnI Tryz.prog 195:=⟨by kernel_rfl⟩
instance q14i:FnI Tryz.prog 196:=⟨by kernel_rfl⟩
instance q12i:FnI Tryz.prog 197:=⟨by kernel_rfl⟩
instance q14r:FnI Tryz.prog 198:=⟨by kernel_rfl⟩
instance q14e:FnI Tryz.prog 199:=⟨by kernel_rfl⟩
instance q11h:FnI Tryz.prog 200:=⟨by kernel_rfl⟩
instance q10o:FnI Tryz.prog 201:=⟨by kernel_rfl⟩
instance q14n:FnI Tryz.prog 202:=⟨by kernel_rfl⟩
instance q13d:FnI Tryz.prog 203:=⟨by kernel_rfl⟩
instance q142:FnI Tryz.prog 204:=⟨by kernel_rfl⟩
instance q11o:FnI Tryz.prog 205:=⟨by kernel_rfl⟩
instance q13a:FnI Tryz.prog 206:=⟨by kernel_rfl⟩
instance q11t:FnI Tryz.prog 207:=⟨by kernel_rfl⟩
instance q12s:FnI Tryz.prog 208:=⟨by kernel_rfl⟩
instance q128:FnI Tryz.prog 211:=⟨by kernel_rfl⟩
instance q10v:FnI Tryz.prog 212:=⟨by kernel_rfl⟩
instance q120:FnI Tryz.prog 213:=⟨by kernel_rfl⟩
instance q10w:FnI Tryz.prog 214:=⟨by kernel_rfl⟩
instance q141:FnI Tryz.prog 215:=⟨by kernel_rfl⟩
instance q126:FnI Tryz.prog 216:=⟨by kernel_rfl⟩
instance q116:FnI Tryz.prog 217:=⟨by kernel_rfl⟩
instance q12y:FnI Tryz.prog 218:=⟨by kernel_rfl⟩
instance q13j:FnI Tryz.prog 219:=⟨by kernel_rfl⟩
instance q10y:FnI Tryz.prog 222:=⟨by kernel_rfl⟩
instance q144:FnI Tryz.prog 223:=⟨by kernel_rfl⟩
instance q112:FnI Tryz.prog 224:=⟨by kernel_rfl⟩
instance q13q:FnI Tryz.prog 226:=⟨by kernel_rfl⟩
instance q130:FnI Tryz.prog 227:=⟨by kernel_rfl⟩
instance q117:FnI Tryz.prog 228:=⟨by kernel_rfl⟩
theorem mixed:Tryz.prog.follows .mixedOrders=true:=by kernel_rfl
abbrev lets:ByteArray:=⟨#[97,98,99,100,101,102,103,104,105,106,107,108,109,110,111,112,113,114,115,116,117,118,119,120,121,122,48,49,50,51,52,53,54,55,56,57]⟩
theorem qdt (s:ByteArray) (c:Int) (H:qj):AC Tryz.prog 222 [.str s,.int .u8 c] H (Ret (.int .i64 (Lib.indexByte s.data.toList c.toNat.toUInt8)) H):=by
 refine AC.body (N:=8) [.tmp 4] Tryz.func222 rfl rfl rfl (Nat.le_of_ble_eq_true rfl) fun B hB=>?_
 refine Z5 ?_
 refine Z7 ?_
 refine Z8 ?_
 refine ao1 (by decide) (qe4 Tryz.func230 Y1e Y1e Y1e Y1e rfl rfl) ?_
 exact Zc
theorem q6k (s:ByteArray) (c:Int) (H:qj):AC Tryz.prog 207 [.str s,.int .u8 c] H (Ret (.int .i64 (Lib.indexByte s.data.toList c.toNat.toUInt8)) H):=by
 refine AC.body (N:=8) [.tmp 4] Tryz.func207 rfl rfl rfl (Nat.le_of_ble_eq_true rfl) fun B hB=>?_
 refine Z5 ?_
 refine Z7 ?_
 refine Z8 ?_
 refine q13 (qdt _ _ _) rfl (by decide) ?_
 exact Zc
theorem qe5 (c:Int) (H:qj):AC Tryz.prog 208 [.int .i32 c] H (Ret (.bool (Utf8.valid c)) H):=by
 refine AC.body (N:=17) [.tmp 2] Tryz.func208 rfl rfl rfl (Nat.le_of_ble_eq_true rfl) fun B hB=>?_
 refine Zf ?_
 refine qn 3 (.bool (decide (0≤c)&&decide (c<55296))) ?_ ?_
 ·refine Z8 ?_
  refine Zi ?_
  refine qb rfl rfl (fun hg2=>?_) (fun hg2=>?_)
  ·refine Zl ?_
   refine Zn ?_
   exact Zo
  ·refine Zt ?_
   exact Zo
 refine Z1 ?_
 refine qa rfl (fun hc=>?_) (fun hc=>?_)
 ·refine Zf ?_
  rw [show Utf8.valid c=true by simp [Utf8.valid];simp at hc;omega]
  exact Zb
 ·refine Z1 ?_
  refine qn 10 (.bool (decide (57343<c)&&decide (c≤1114111))) ?_ ?_
  ·refine Zw ?_
   refine qb rfl rfl (fun hg2=>?_) (fun hg2=>?_)
   ·refine Zz ?_
    exact Zo
   ·refine Zt ?_
    exact Zo
  refine Z1 ?_
  refine qa rfl (fun hc=>?_) (fun hc=>?_)
  ·refine Zf ?_
   rw [show Utf8.valid c=true by simp [Utf8.valid];simp at hc;omega]
   exact Zb
  ·refine Zf ?_
   rw [show Utf8.valid c=false by simp [Utf8.valid];simp at *;omega]
   exact Zb
theorem qlu:∀ i:Nat,i<36→(lets.get! i).toNat<128:=by decide +kernel
theorem qus:∀ i:Nat,i<36→lets[i]?=some (lets.get! i):=by decide +kernel
theorem qc1:lets.size=36:=by decide +kernel
def ixl (c:Int):Int:=if c<128 then Lib.indexByte lets.data.toList c.toNat.toUInt8 else -1
theorem qxq {c:Int} (h:0≤c):decide (0≤ixl c)=qe6 c:=by
 unfold ixl
 by_cases h1:c<128
 ·rw [if_pos h1]
  obtain ⟨n,rfl⟩:∃ n:Nat,c=n:=⟨c.toNat,by omega⟩
  have:∀ n:Nat,n<128→decide (0≤Lib.indexByte lets.data.toList ((n:Int).toNat.toUInt8))=qe6 n:=by decide +kernel
  exact this n (by omega)
 ·rw [if_neg h1]
  simp [qe6]
  omega
theorem qe7 {l:List UInt8} {c:UInt8} (h:c∉l):Lib.indexByte l c = -1:=by
 induction l with
 | nil=>rfl
 | cons b l ih =>
  simp only [List.mem_cons,not_or] at h
  unfold Lib.indexByte
  rw [ih h.2,if_neg (by simpa using fun e=>h.1 e.symm)]
  rfl
theorem qqw {b:UInt8} (h:128≤b.toNat) (l h':Nat):Lib.indexByte (lets.extract l h').data.toList b = -1:=by
 refine qe7 fun hm=>?_
 have hm2:b∈lets.data.toList:=by
  rw [ByteArray.data_extract] at hm
  rw [Array.toList_extract,List.extract_eq_take_drop] at hm
  exact List.mem_of_mem_drop (List.mem_of_mem_take hm)
 have:∀ x∈lets.data.toList,x.toNat<128:=by decide +kernel
 have:=this b hm2
 omega
set_option maxHeartbeats 0 in
theorem qaq (c:Int) (hc0:0≤c) (hc1:c≤1114111) (H:qj):AC Tryz.prog 185 [.str lets,.int .i32 c] H (Ret (.int .i64 (ixl c)) H):=by
 refine AC.body (N:=187) [.tmp 4] Tryz.func185 rfl rfl rfl (Nat.le_of_ble_eq_true rfl) fun B hB=>?_
 refine Z10 ?_
 refine qn 160 (.bool (decide (c<128))) ?_ ?_
 ·refine Z8 ?_
  refine Zi ?_
  refine qb rfl rfl (fun hg2=>?_) (fun hg2=>?_)
  ·refine Zl ?_
   refine Zn ?_
   exact Z11
  ·refine Zt ?_
   exact Zo
 refine Z1 ?_
 refine qa rfl (fun hc=>?_) (fun hc=>?_)
 ·simp at hc
  refine Z7 ?_
  refine Z8 ?_
  refine ao1 (by decide) (q5h rfl (show IntKind.u8.wrap c=c by simp [IntKind.wrap,IntKind.signed,IntKind.bits];omega)) ?_
  refine q13 (q6k _ _ _) rfl (by decide) ?_
  refine Z4 ?_
  try dsimp only
  refine Z1 ?_
  rw [show Lib.indexByte lets.data.toList c.toNat.toUInt8=ixl c by rw [ixl,if_pos hc]]
  exact Zb
 have hc128:128≤c:=by simp at hc;omega
 rw [show ixl c = -1 by rw [ixl,if_neg (by omega)]]
 refine Z12 ?_
 refine Z14 ?_
 refine qa rfl (fun hc=>?_) (fun hc=>?_)
 ·refine qen ?_
  refine qc5 (s:=lets) rfl (by decide) (by decide) (by decide) (by decide) (by decide) (by decide) (by decide) (fun _=>True) (fun _=>[]) trivial Sub.nil ?_ ?_
  ·intro pos r B' hp _ hB'
   rw [qc1] at hp
   have hlow:=qlu pos hp
   rw [qes lets pos hlow]
   refine Z2 ?_
   refine Z15 ?_
   refine Z15 ?_
   refine Z16 ?_
   try dsimp only
   refine Z18 ?_
   refine qa rfl (fun hc=>?_) (fun hc=>?_)
   ·simp at hc;omega
   ·refine Z1 ?_
    exact ⟨trivial,Y6,rfl⟩
  ·intro pos r hp _
   exact Z19
 ·refine Z12 ?_
  refine q13 (qe5 _ _) rfl (by decide) ?_
  refine Z1a ?_
  refine Ze ?_
  refine qa rfl (fun hc=>?_) (fun hc=>?_)
  ·exact Z19
  ·have hv:Utf8.valid c=true:=by simpa using hc
   obtain ⟨h2,h4,hb⟩:=qk0 hc128 hv
   obtain ⟨m,hm⟩:∃ m,(Utf8.encode c).data.toList.length=m+1:=⟨_,(Nat.succ_pred (by omega:(Utf8.encode c).data.toList.length≠0)).symm⟩
   have hsz:(Utf8.encode c).size=m+1:=by show (Utf8.encode c).data.size=m+1;rw [← Array.length_toList,hm]
   obtain ⟨bl,hbl,hbm⟩:∃ bl,(Utf8.encode c)[m]?=some bl∧bl∈(Utf8.encode c).data.toList:=by
    have hlt:m<(Utf8.encode c).size:=by omega
    refine ⟨(Utf8.encode c)[m],getElem?_pos (Utf8.encode c) m hlt,?_⟩
    rw [ByteArray.getElem_eq_getElem_data]
    exact Array.getElem_mem_toList _
   have hb128:=hb bl hbm
   have hlow:=qlu m (by omega)
   have hlm:=qus m (by omega)
   refine Z12 ?_
   refine ao1 (by decide) (qse rfl) ?_
   refine ao1 (by decide) (q14 (v:=.str _) rfl) ?_
   refine qf ?_
   refine Z7 ?_
   refine Z1b ?_
   refine ao1 (by decide) (q5p (r:=(m:Int)) rfl rfl (by rw [hsz,show ((m+1:Nat):Int)-1=(m:Int) by omega];exact q1b (by omega) (by omega))) ?_
   refine Z4 ?_
   refine Z1c ?_
   refine Z1e ?_
   refine qm (G:=Unit) (fun _=>True) (fun _=>[(0,.str lets),(7,.str (Utf8.encode c)),(8,.int .i64 (m:Int)),(9,.int .i64 (m:Int))]) (fun _=>H++[]) (fun _=>0) () trivial Y6 (Fit.refl _ _) ?_
   rintro _ _
   refine Z12 ?_
   refine Z6 ?_
   refine Z1b ?_
   refine Z1f ?_
   refine qa rfl (fun hc=>?_) (fun hc=>?_)
   ·refine Z1h ?_
    refine Z1i ?_
    refine Z1j ?_
    refine aq0 2 rfl Y17 (by decide) (fun _=>q6f rfl rfl (by omega) hlm) ?_
    refine aq0 3 rfl Y17 (by decide) (fun _=>qd (v:=.str _) rfl) ?_
    refine Z1k ?_
    refine aq0 5 rfl Y17 (by decide) (fun _=>q6f rfl rfl (by omega) hbl) ?_
    refine aq0 6 rfl Y17 (by decide) (fun _=>qpe rfl rfl) ?_
    refine Z1m ?_
    refine qa rfl (fun hc=>?_) (fun hc=>?_)
    ·refine Z1h ?_
     refine Z1i ?_
     refine Z1j ?_
     refine aq0 2 rfl Y17 (by decide) (fun _=>q5y rfl rfl (q1b (by omega) (by omega))) ?_
     refine aq0 3 rfl Y17 (by decide) (fun _=>qog (l:=m+1) rfl (.some rfl rfl) .none (by rw [qc1];omega) (Nat.le_refl _)) ?_
     refine aq0 4 rfl Y17 (by decide) (fun _=>qd (v:=.str _) rfl) ?_
     refine Z1n ?_
     refine aq0 6 rfl Y17 (by decide) (fun _=>q6f rfl rfl (by omega) hbl) ?_
     refine q48 7 rfl Y17 (by decide) (fun _=>V2.call (q6k (lets.extract (m+1) lets.size) (bl.toNat:Int) _) rfl) ?_
     refine Z1o ?_
     refine Z1l ?_
     rw [show ((bl.toNat:Int).toNat.toUInt8)=bl by simp,qqw hb128]
     refine Z1p ?_
     refine qa rfl (fun hc=>?_) (fun hc=>?_)
     ·exact Z19
     ·simp at hc
    ·simp at hc
     omega
   ·simp [qc1] at hc
    omega
theorem q8b (c:Int) (h0:0≤c) (h1:c≤1114111) (H:qj):AC Tryz.prog 152 [.str lets,.int .i32 c] H (Ret (.bool (qe6 c)) H):=by
 refine AC.body (N:=9) [.tmp 4] Tryz.func152 rfl rfl rfl (Nat.le_of_ble_eq_true rfl) fun B hB=>?_
 refine Z1r ?_
 refine Z7 ?_
 refine Z8 ?_
 refine q13 (qaq _ Y1d Y1d _) rfl (by decide) ?_
 refine Z1s ?_
 refine Ze ?_
 rw [← qxq h0]
 exact Zb
theorem qkb (c:Int) (h0:0≤c) (h1:c≤1114111) (H:qj):AC Tryz.prog 151 [.int .i32 c] H (Ret (.bool (!qe6 c)) H):=by
 refine AC.body (N:=6) [.tmp 2] Tryz.func151 rfl rfl rfl (Nat.le_of_ble_eq_true rfl) fun B hB=>?_
 refine Z1r ?_
 refine Z12 ?_
 refine q13 (q8b _ Y1d Y1d _) rfl (by decide) ?_
 refine Z1a ?_
 exact Z1t
theorem qpi {s:ByteArray} {k:Nat} (h:k<s.size):∃ b:UInt8,s[k]?=some b∧s.data.toList[k]?=some b∧s.get! k=b:=by
 refine ⟨s[k],getElem?_pos s k h,?_,?_⟩
 ·rw [Array.getElem?_toList];exact getElem?_pos s.data k h
 ·show s.get! k=_
  simp [ByteArray.get!,getElem!_pos,h]
  rfl
theorem qr2 (s:ByteArray):s.data.toList.length=s.size:=by rw [Array.length_toList];rfl
theorem qy1 {s:ByteArray} {k:Nat} {b:UInt8} (h:s.get! k=b):qe6 ((Utf8.decode s k).1:Int)=qh5 b∧(Utf8.decode s k).1≤1114111∧(qh5 b=true→(Utf8.decode s k).2=1):=by
 by_cases hb:b.toNat<128
 ·have:=qes s k (by rw [h];exact hb)
  rw [this,h]
  exact ⟨rfl,by simp only;omega,fun _=>rfl⟩
 ·have:=qk2 s k (by rw [h];omega)
  have hn:qh5 b=false:=by simp [qh5,qe6];omega
  refine ⟨?_,this.2,fun h=>by rw [hn] at h;cases h⟩
  rw [hn]
  simp [qe6]
  omega
theorem qaj (s:ByteArray) (H:qj):AC Tryz.prog 206 [.str s,.fn (.func 151) [] [],.bool true] H (Ret (.int .i64 (ixf (fun b=>!qh5 b) s.data.toList)) H):=by
 refine AC.body (N:=21) [.tmp 6] Tryz.func206 rfl rfl rfl (Nat.le_of_ble_eq_true rfl) fun B hB=>?_
 refine Z5 ?_
 refine q95 ?_
 refine qen ?_
 refine qc5 (s:=s) rfl (by decide) (by decide) (by decide) (by decide) (by decide) (by decide) (by decide) (fun k=>k≤s.size∧∀ b∈s.data.toList.take k,(!qh5 b)=false) (fun _=>[(1,.fn (.func 151) [] []),(2,.bool true)]) ⟨Nat.zero_le _,by simp⟩ Y6 ?_ ?_
 ·rintro k r B' hp ⟨hk,hno⟩ hB'
  obtain ⟨b,h1,h2,h3⟩:=qpi hp
  obtain ⟨d1,d2,d3⟩:=qy1 h3
  generalize Utf8.decode s k=q at d1 d2 d3
  refine Z2 ?_
  refine Z15 ?_
  refine Z15 ?_
  refine Z16 ?_
  refine Z1v ?_
  refine Z8 ?_
  refine qgb (qkb (q.1:Int) (by omega) (by omega) _) rfl rfl (by decide) ?_
  refine Zh ?_
  refine ao1 (by decide) (qyp rfl rfl) ?_
  refine qf ?_
  rw [d1]
  refine Z1 ?_
  refine qa rfl (fun hc=>?_) (fun hc=>?_)
  ·have hb:(!qh5 b)=true:=by simpa using hc
   refine Z1w ?_
   rw [q9k (p:=fun b=>!qh5 b) h2 hb hno]
   exact Zb
  ·have hb:(!qh5 b)=false:=by simpa using hc
   have hq:=d3 (by simpa using hb)
   refine Z1 ?_
   rw [hq]
   refine ⟨⟨by omega,?_⟩,Y6,rfl⟩
   rw [ql h2]
   intro y hy
   rcases List.mem_append.1 hy with h | h
   ·exact hno y h
   ·simp only [List.mem_singleton] at h
    subst h
    exact hb
 ·rintro k r hp ⟨hk,hno⟩
  have:k=s.size:=by omega
  subst this
  rw [← qr2,List.take_length] at hno
  rw [q9z (p:=fun b=>!qh5 b) hno]
  exact Z19
theorem qaa (s:ByteArray) (H:qj):AC Tryz.prog 184 [.str s,.fn (.func 151) [] []] H (Ret (.int .i64 (ixf (fun b=>!qh5 b) s.data.toList)) H):=by
 refine AC.body (N:=8) [.tmp 4] Tryz.func184 rfl rfl rfl (Nat.le_of_ble_eq_true rfl) fun B hB=>?_
 refine Z5 ?_
 refine Z7 ?_
 refine Z1u ?_
 refine q13 (qaj _ _) rfl (by decide) ?_
 exact Zc
theorem q8i (s:ByteArray) (H:qj):AC Tryz.prog 150 [.str s,.fn (.func 151) [] []] H (Ret (.bool (s.data.toList.any fun b=>!qh5 b)) H):=by
 refine AC.body (N:=9) [.tmp 4] Tryz.func150 rfl rfl rfl (Nat.le_of_ble_eq_true rfl) fun B hB=>?_
 refine Z1r ?_
 refine Z7 ?_
 refine Z1u ?_
 refine q13 (qaa _ _) rfl (by decide) ?_
 refine Z1s ?_
 refine Ze ?_
 rw [← q6g]
 exact Zb
theorem qie (s:ByteArray) (H:qj):AC Tryz.prog 102 [.str s] H (Ret (.bool (q8d s)) H):=by
 rw [show q8d s=(decide ((s.size:Int)≤16)&&!(s.data.toList.any fun b=>!qh5 b)) by simp [q8d,List.all_eq_not_any_not]]
 refine AC.body (N:=11) [.tmp 2] Tryz.func102 rfl rfl rfl (Nat.le_of_ble_eq_true rfl) fun B hB=>?_
 refine Zf ?_
 refine qn 2 (.bool (decide ((s.size:Int)≤16)&&!(s.data.toList.any fun b=>!qh5 b))) ?_ ?_
 ·refine Z6 ?_
  refine Z1b ?_
  refine Zi ?_
  refine qb rfl rfl (fun hg3=>?_) (fun hg3=>?_)
  ·refine Z1x ?_
   refine q5b rfl rfl (by decide) (V2.call (q8i _ _) rfl) ?_
   refine Z1y ?_
   refine Zn ?_
   exact Z1z
  ·refine Z21 ?_
   exact Zo
 exact Z22
theorem qj7 (s:ByteArray) (H:qj) (hs:s.size≤9223372036854775807):AC Tryz.prog 104 [.str s] H (Ret (.bool (q8d s)) H):=by
 refine AC.body (N:=37) [.tmp 2] Tryz.func104 rfl rfl rfl (Nat.le_of_ble_eq_true rfl) fun B hB=>?_
 refine Z23 ?_
 refine qm (G:=Nat) (fun k=>k≤s.size∧(s.data.toList.take k).all qh5=true) (fun k=>[(0,.str s),(3,.int .i64 (k:Int))]) (fun _=>H++[]) (fun k=>s.size-k) 0 ⟨Nat.zero_le _,by simp⟩ Y6 (Fit.refl _ _) ?_
 rintro k ⟨hk,hno⟩
 refine Z12 ?_
 refine Z6 ?_
 refine Z1b ?_
 refine Z1f ?_
 refine qa rfl (fun hc=>?_) (fun hc=>?_)
 ·have hlt:k<s.size:=by simp at hc;omega
  obtain ⟨b,h1,h2,h3⟩:=qpi hlt
  have hbm:=List.mem_of_getElem? h2
  refine Z1 ?_
  refine qn 33 (.bool (!qh5 b)) ?_ ?_
  ·refine Z6 ?_
   refine Z8 ?_
   refine ao1 (by decide) (q6f rfl rfl (by omega) h1) ?_
   refine Z24 ?_
   refine qb rfl rfl (fun hg4=>?_) (fun hg4=>?_)
   ·refine Z1x ?_
    refine Zj ?_
    refine Z25 ?_
    refine Zx ?_
    refine Zm ?_
    refine Z26 ?_
    refine qb rfl rfl (fun hg11=>?_) (fun hg11=>?_)
    ·refine Z1x ?_
     refine Zj ?_
     refine Z25 ?_
     refine Z27 ?_
     refine Z28 ?_
     refine qb rfl rfl (fun hg16=>?_) (fun hg16=>?_)
     ·refine Z1x ?_
      refine Zj ?_
      refine Z25 ?_
      refine Zx ?_
      refine Z29 ?_
      refine Z2a ?_
      exact Z2b
     ·refine Z2c ?_
      refine Z2d ?_
      refine Z2a ?_
      exact Z2b
    ·refine Zq ?_
     refine Z20 ?_
     refine Z2g ?_
     refine Z2h ?_
     exact Z2b
   ·refine Z2i ?_
    refine Z26 ?_
    refine Z1x ?_
    refine Zj ?_
    refine Z25 ?_
    refine Z27 ?_
    refine Z28 ?_
    refine qb rfl rfl (fun hg16=>?_) (fun hg16=>?_)
    ·refine Z1x ?_
     refine Zj ?_
     refine Z25 ?_
     refine Zx ?_
     refine Z29 ?_
     refine Z2a ?_
     exact Z2b
    ·refine Z2c ?_
     refine Z2d ?_
     refine Z2a ?_
     exact Z2b
  refine Z1 ?_
  refine qa rfl (fun hc=>?_) (fun hc=>?_)
  ·refine Zf ?_
   rw [show q8d s=false by rw [q8d,qtq hbm Y19,Bool.and_false]]
   exact Zb
  ·refine Z2l ?_
   exact ⟨k+1,by omega,⟨by omega,qvd h2 hno Y19⟩,Y6,.refl _ _⟩
 ·have:k=s.size:=by simp at hc;omega
  subst this
  rw [← qr2,List.take_length] at hno
  rw [show q8d s=decide ((s.size:Int)≤16) by rw [q8d,hno,Bool.and_true]]
  refine Z7 ?_
  refine Z1b ?_
  refine Zg ?_
  exact Z1t
theorem qpl (t:Int) (H:qj):AC Tryz.prog 88 [.int .i64 t] H (Ret (.int .i64 (qdw t)) H):=by
 refine AC.body (N:=6) [.tmp 2] Tryz.func88 rfl rfl rfl (Nat.le_of_ble_eq_true rfl) fun B hB=>?_
 refine Z2m ?_
 refine Z2n ?_
 refine ao1 (by decide) (qux rfl rfl rfl) ?_
 exact Zc
theorem qhx (t l:Int) (H:qj):AC Tryz.prog 39 [.int .i64 t,.int .i64 l] H (Ret (.int .i64 (qdu t l)) H):=by
 have h1:=qfp t
 have h2:=qfp l
 refine AC.body (N:=14) [.tmp 4] Tryz.func39 rfl rfl rfl (Nat.le_of_ble_eq_true rfl) fun B hB=>?_
 refine Z2m ?_
 refine Z2o ?_
 refine Z8 ?_
 refine Z2o ?_
 refine Z8 ?_
 refine Z2o ?_
 refine ao1 (by decide) (q5p rfl rfl (q1b (by omega) (by omega))) ?_
 refine Z2n ?_
 refine Z2k ?_
 exact Zb
theorem qec (t:Int) (H:qj):AC Tryz.prog 74 [.int .i64 t] H (Ret (.bool (decide (0≤t)&&decide (t≤4611686018427387904))) H):=by
 refine AC.body (N:=9) [.tmp 2] Tryz.func74 rfl rfl rfl (Nat.le_of_ble_eq_true rfl) fun B hB=>?_
 refine Zf ?_
 refine qn 2 (.bool (decide (0≤t)&&decide (t≤4611686018427387904))) ?_ ?_
 ·refine Z8 ?_
  refine Z24 ?_
  refine qb rfl rfl (fun hg2=>?_) (fun hg2=>?_)
  ·refine Zz ?_
   exact Zo
  ·refine Zt ?_
   exact Zo
 exact Z22
theorem qoe (t:Int) (H:qj):AC Tryz.prog 121 [.int .i64 t] H (Ret (.int .u64 (qdw t)) H):=by
 refine AC.body (N:=9) [.tmp 2] Tryz.func121 rfl rfl rfl (Nat.le_of_ble_eq_true rfl) fun B hB=>?_
 refine Z5 ?_
 refine Z1p ?_
 refine qa rfl (fun hc=>?_) (fun hc=>?_)
 ·refine Z10 ?_
  rw [show qdw t=0 by simp at hc;unfold qdw;omega]
  exact Zb
 ·refine Z12 ?_
  refine Z2q ?_
  refine qa rfl (fun hc=>?_) (fun hc=>?_)
  ·refine Z10 ?_
   rw [show qdw t=4611686018427387904 by simp at hc;unfold qdw;omega]
   exact Zb
  ·have ht:0≤t∧t≤4611686018427387904:=by simp at *;omega
   refine Z12 ?_
   refine ao1 (by decide) (q5h rfl (show IntKind.u64.wrap t=t by rw [IntKind.wrap_u64];omega)) ?_
   refine Za ?_
   rw [show qdw t=t by unfold qdw;omega]
   exact Zb
theorem qa4 (t l:Int) (H:qj):AC Tryz.prog 71 [.int .i64 t,.int .i64 l] H (Ret (.int .i64 (qdu t l)) H):=by
 have h1:=qfp t
 have h2:=qfp l
 refine AC.body (N:=15) [.tmp 4] Tryz.func71 rfl rfl rfl (Nat.le_of_ble_eq_true rfl) fun B hB=>?_
 refine Z2m ?_
 refine Z2r ?_
 refine Z8 ?_
 refine Z2r ?_
 refine ao1 (by decide) (q5y (r:=qdw t+qdw l) rfl rfl Yq) ?_
 refine Z4 ?_
 refine Z12 ?_
 refine Z2q ?_
 refine qa rfl (fun hc=>?_) (fun hc=>?_)
 ·refine Z2m ?_
  refine Z2s ?_
  refine Za ?_
  rw [show qdu t l=4611686018427387904 by simp at hc;unfold qdu;omega]
  exact Zb
 ·have:qdw t+qdw l≤4611686018427387904:=by simp at hc;omega
  refine Z12 ?_
  refine Z2s ?_
  refine Za ?_
  rw [show qdu t l=qdw t+qdw l by unfold qdu;omega]
  exact Zb
def qf5 (a b:Int):Int:=if a<b then -1 else if b<a then 1 else 0
theorem qr7 (t:Int) (H:qj):AC Tryz.prog 169 [.int .i64 t] H (Ret (.bool false) H):=by
 refine AC.body (N:=6) [.tmp 2] Tryz.func169 rfl rfl rfl (Nat.le_of_ble_eq_true rfl) fun B hB=>?_
 refine Z1r ?_
 refine Z2t ?_
 refine Z2u ?_
 refine Ze ?_
 rw [show (t != t)=false by simp]
 exact Zb
theorem ql4 (a b:Int) (H:qj):AC Tryz.prog 136 [.int .i64 a,.int .i64 b] H (Ret (.int .i64 (qf5 a b)) H):=by
 refine AC.body (N:=20) [.tmp 4] Tryz.func136 rfl rfl rfl (Nat.le_of_ble_eq_true rfl) fun B hB=>?_
 refine Z2m ?_
 refine Z2v ?_
 refine Z1q ?_
 refine Z12 ?_
 refine Z2v ?_
 refine Z1q ?_
 refine Z2x ?_
 refine qa rfl (fun hc=>?_) (fun hc=>?_)
 ·cases hc
 refine Z2x ?_
 refine qa rfl (fun hc=>?_) (fun hc=>?_)
 ·cases hc
 refine Z2y ?_
 refine qa rfl (fun hc=>?_) (fun hc=>?_)
 ·refine Z10 ?_
  rw [show qf5 a b = -1 by simp at hc;simp [qf5,hc]]
  exact Zb
 ·refine Z2z ?_
  refine qa rfl (fun hc=>?_) (fun hc=>?_)
  ·refine Z10 ?_
   rw [show qf5 a b=1 by simp at *;unfold qf5;rw [if_neg (by omega),if_pos (by omega)]]
   exact Zb
  ·refine Z10 ?_
   rw [show qf5 a b=0 by simp at *;unfold qf5;rw [if_neg (by omega),if_neg (by omega)]]
   exact Zb
abbrev eI (i:Int):List AV:=[.int .i64 i]
theorem qdk (n a b:Int) (H:qj):AC Tryz.prog 182 [.int .i64 n,.int .i64 a,.int .i64 b] H (Ret (.bool (decide (a≤n)&&decide (n≤b))) H):=by
 refine AC.body (N:=15) [.tmp 6] Tryz.func182 rfl rfl rfl (Nat.le_of_ble_eq_true rfl) fun B hB=>?_
 refine Zf ?_
 refine qn 6 (.bool (decide (a≤n)&&decide (n≤b))) ?_ ?_
 ·refine Z30 ?_
  refine Z24 ?_
  refine qb rfl rfl (fun hg3=>?_) (fun hg3=>?_)
  ·refine Zj ?_
   refine Zz ?_
   exact Zo
  ·refine Z21 ?_
   exact Zo
 exact Z22
theorem qfx (n a b:Int) (H:qj):AC Tryz.prog 183 [.int .i64 n,.int .i64 a,.int .i64 b] H (Ret (.bool (decide (a≤n)&&decide (n≤b))) H):=by
 refine AC.body (N:=15) [.tmp 6] Tryz.func183 rfl rfl rfl (Nat.le_of_ble_eq_true rfl) fun B hB=>?_
 refine Zf ?_
 refine qn 6 (.bool (decide (a≤n)&&decide (n≤b))) ?_ ?_
 ·refine Z30 ?_
  refine Z24 ?_
  refine qb rfl rfl (fun hg3=>?_) (fun hg3=>?_)
  ·refine Zj ?_
   refine Zz ?_
   exact Zo
  ·refine Z21 ?_
   exact Zo
 exact Z22
theorem qeg (s:Spec) (H:qj):AC Tryz.prog 148 [.agg (q2i s)] H (Ret (.bool (q2m s)) H):=by
 refine AC.body (N:=49) [.tmp 2] Tryz.func148 rfl rfl rfl (Nat.le_of_ble_eq_true rfl) fun B hB=>?_
 refine Z32 ?_
 refine Z35 ?_
 refine qn 3 (.bool (qfr s)) ?_ ?_
 ·refine Z37 ?_
  refine q13 (qdk _ _ _ _) rfl (by decide) ?_
  refine Zh ?_
  refine qb rfl rfl (fun hg3=>?_) (fun hg3=>?_)
  ·refine Z39 ?_
   refine Z3a ?_
   refine Z3b ?_
   refine qb rfl rfl (fun hg8=>?_) (fun hg8=>?_)
   ·refine Z39 ?_
    refine Z3a ?_
    refine Zn ?_
    exact Z3c
   ·refine Z21 ?_
    exact Z3d
  ·refine Z3g ?_
   exact Z3d
 refine Z1 ?_
 refine qn 4 (.bool (qo1 s)) ?_ ?_
 ·refine Z3h ?_
  refine Zh ?_
  refine qb rfl rfl (fun hg2=>?_) (fun hg2=>?_)
  ·refine Z3l ?_
   refine Z3k ?_
   refine Zn ?_
   exact Z3m
  ·refine Z3p ?_
   refine qb rfl rfl (fun hg7=>?_) (fun hg7=>?_)
   ·refine Z3k ?_
    refine Zn ?_
    exact Z3m
   ·refine Z39 ?_
    refine Z3n ?_
    refine Zs ?_
    exact Z3q
 refine Z1 ?_
 refine qn 2 (.bool (q2m s)) ?_ ?_
 ·refine Z3r ?_
  refine qb rfl rfl (fun hg1=>?_) (fun hg1=>?_)
  ·refine Z28 ?_
   refine Z3b ?_
   refine qb rfl rfl (fun hg4=>?_) (fun hg4=>?_)
   ·refine Z38 ?_
    refine Z3s ?_
    refine q5b rfl rfl (by decide) (V2.call (qie _ _) rfl) ?_
    refine Z3b ?_
    refine qb rfl rfl (fun hg9=>?_) (fun hg9=>?_)
    ·refine Z39 ?_
     refine q5b rfl rfl (by decide) (V2.call (qfx _ _ _ _) rfl) ?_
     refine Z3b ?_
     refine qb rfl rfl (fun hg14=>?_) (fun hg14=>?_)
     ·refine Z39 ?_
      refine Z3a ?_
      refine Zn ?_
      exact Z3t
     ·refine Z21 ?_
      exact Z3u
    ·refine Z3g ?_
     exact Z3t
   ·refine Z3v ?_
    exact Z3t
  ·refine Zp ?_
   refine Z3e ?_
   refine Z3v ?_
   exact Z3t
 exact Z22
theorem q8u (s:Spec) (H:qj) (ht:s.tag.size≤9223372036854775807):AC Tryz.prog 160 [.agg (q2i s)] H (Ret (.bool (q2m s)) H):=by
 refine AC.body (N:=67) [.tmp 2] Tryz.func160 rfl rfl rfl (Nat.le_of_ble_eq_true rfl) fun B hB=>?_
 refine Z32 ?_
 refine Z35 ?_
 refine qn 30 (.bool (!qfr s)) ?_ ?_
 ·refine Z3w ?_
  refine qb rfl rfl (fun hg3=>?_) (fun hg3=>?_)
  ·refine Z3y ?_
   refine Z3z ?_
   exact Z3c
  ·refine Z3p ?_
   refine qb rfl rfl (fun hg8=>?_) (fun hg8=>?_)
   ·refine Z3x ?_
    refine Z40 ?_
    exact Z3c
   ·refine Z42 ?_
    refine qb rfl rfl (fun hg13=>?_) (fun hg13=>?_)
    ·refine Z3x ?_
     refine Z3z ?_
     exact Z3c
    ·refine Z3p ?_
     refine qb rfl rfl (fun hg18=>?_) (fun hg18=>?_)
     ·refine Z40 ?_
      exact Z3c
     ·refine Z42 ?_
      refine qb rfl rfl (fun hg23=>?_) (fun hg23=>?_)
      ·refine Z3z ?_
       exact Z3c
      ·refine Z39 ?_
       refine Z43 ?_
       exact qf (Out.mk (by (refine congrArg AV.bool ?_;(simp only [qfr] at *;grind))) Yb)
 refine Z1 ?_
 refine qa rfl (fun hc=>?_) (fun hc=>?_)
 ·refine Zf ?_
  rw [show q2m s=false by simp at hc;simp [q2m,hc]]
  exact Zb
 ·have hm:qfr s=true:=by simpa using hc
  have hm':=hm
  simp only [qfr,Bool.and_eq_true,decide_eq_true_eq] at hm'
  refine Z1 ?_
  refine qn 43 (.bool (!qo1 s)) ?_ ?_
  ·refine Z45 ?_
   refine qb rfl rfl (fun hg3=>?_) (fun hg3=>?_)
   ·refine Z48 ?_
    refine qb rfl rfl (fun hg8=>?_) (fun hg8=>?_)
    ·refine Z38 ?_
     refine q2n rfl rfl (by decide) (qi (v:=.bool _) rfl (lk rfl rfl) rfl rfl rfl) ?_
     refine Z2a ?_
     exact Z3m
    ·refine Z49 ?_
     exact Z3q
   ·refine Z3f ?_
    refine Z49 ?_
    exact Z3q
  refine Z1 ?_
  refine qa rfl (fun hc=>?_) (fun hc=>?_)
  ·refine Zf ?_
   rw [show q2m s=false by simp at hc;simp [q2m,hc]]
   exact Zb
  ·have hs:qo1 s=true:=by simpa using hc
   refine Z1 ?_
   refine qn 2 (.bool (q2m s)) ?_ ?_
   ·refine Z36 ?_
    refine ao1 (by decide) (qi (v:=.str _) rfl (lk rfl rfl) rfl rfl rfl) ?_
    refine q13 (qj7 _ _ Y1d) rfl (by decide) ?_
    refine Zh ?_
    refine qb rfl rfl (fun hg3=>?_) (fun hg3=>?_)
    ·refine Z4a ?_
     refine Z3b ?_
     refine qb rfl rfl (fun hg8=>?_) (fun hg8=>?_)
     ·refine Z39 ?_
      refine Zx ?_
      refine Z3b ?_
      refine qb rfl rfl (fun hg13=>?_) (fun hg13=>?_)
      ·refine Z4a ?_
       refine Z3b ?_
       refine qb rfl rfl (fun hg18=>?_) (fun hg18=>?_)
       ·refine Z39 ?_
        refine Zy ?_
        exact Z3t
       ·refine Z21 ?_
        exact Z3u
      ·refine Z3g ?_
       exact Z3u
     ·refine Z3v ?_
      exact Z3u
    ·refine Z3f ?_
     refine Z3v ?_
     exact Z3t
   exact Z22
structure Asks3 where
 n:Int
 c:Int
 g:Int
theorem qde (s:Spec) (t:Int) (H:qj):AC Tryz.prog 130 [.agg (q2i s),.int .i64 t] H (Ret (.int .i64 (q1p s t)) H):=by
 refine AC.body (N:=14) [.tmp 4] Tryz.func130 rfl rfl rfl (Nat.le_of_ble_eq_true rfl) fun B hB=>?_
 refine Z32 ?_
 refine Z4 ?_
 refine Z33 ?_
 refine Z4c ?_
 refine q13 (qeg _ _) rfl (by decide) ?_
 refine Z4d ?_
 refine qa rfl (fun hc=>?_) (fun hc=>?_)
 ·refine Z12 ?_
  refine Z4e ?_
  refine Za ?_
  rw [show q1p s t=qdu t 0 by simp at hc;simp [q1p,hc]]
  exact Zb
 ·refine Z12 ?_
  refine Z37 ?_
  refine Z4e ?_
  refine Z4h ?_
  rw [show q1p s t=qdu t s.long by simp at hc;simp [q1p,hc]]
  exact Zb
theorem qew (s:Spec) (t:Int) (H:qj) (ht:s.tag.size≤9223372036854775807):AC Tryz.prog 190 [.agg (q2i s),.int .i64 t] H (Ret (.int .i64 (q1p s t)) H):=by
 refine AC.body (N:=13) [.tmp 4] Tryz.func190 rfl rfl rfl (Nat.le_of_ble_eq_true rfl) fun B hB=>?_
 refine Z32 ?_
 refine Z4 ?_
 refine Z33 ?_
 refine Z5 ?_
 refine Z4c ?_
 refine q13 (q8u _ _ Y1d) rfl (by decide) ?_
 refine Z9 ?_
 refine qa rfl (fun hc=>?_) (fun hc=>?_)
 ·refine Z4i ?_
  refine Z4g ?_
  refine Z2t ?_
  refine Z4j ?_
  refine Za ?_
  rw [show q1p s t=qdu t s.long by simp [q1p,hc]]
  exact Zb
 ·refine Z2t ?_
  refine Z4j ?_
  refine Za ?_
  rw [show q1p s t=qdu t 0 by simp [q1p,hc]]
  exact Zb
end Go.Av
namespace Go.Av
def qj3:AV→Option Value
 | .int k n=>some (.int k n)
 | .bool b=>some (.bool b)
 | .str s=>some (.string s)
 | _=>none
theorem VR.flat_eq {O:Nat→Prop} {w:World} {S:List Slot} {v:AV} {u u':Value} (h:VR O w S v u) (hf:qj3 v=some u'):u=u':=by
 cases h<;>simp [qj3] at hf<;>exact hf
theorem VR.agg_flat {O:Nat→Prop} {w:World} {S:List Slot} {cs:List AV} {us:List Value} {u:Value} (h:VR O w S (.agg cs) u) (hf:cs.map qj3=us.map some):u = .agg us.toArray:=by
 cases h with
 | @agg _ _ vs hn hl h =>
  congr 1
  have hlen:cs.length=us.length:=by simpa using congrArg List.length hf
  apply Array.ext
  ·simp;omega
  ·intro j h1 h2
   have hj:j<cs.length:=by omega
   have hju:j<us.length:=by omega
   have e:qj3 cs[j]=some us[j]:=by
    have:=congrArg (·[j]?) hf
    simpa [hj,hju] using this
   have:=(h j cs[j] vs[j] (List.getElem?_eq_getElem hj) (Array.getElem?_eq_getElem h1)).flat_eq e
   simpa using this
section
variable {P : Program} {N : Nat} {env : Env} {H : qj} {ty : TypeId}
theorem qw9 {t t':TypeId} {x y:Operand} {cs ds:List AV} {us vs:List Value} {b:Bool} (hx:aev env x = .agg cs) (hy:aev env y = .agg ds) (hu:cs.map qj3=us.map some) (hv:ds.map qj3=vs.map some)
  (hm:P.eqGuardType P.depth t=false) (hb:∀ w,(Op.equalIn 10000 t (.agg us.toArray) (.agg vs.toArray)).run P w = .ok b w):V1 P N (.binOp .eql t x y t') ty env H (.bool b):=by
 intro S a w hc
 have h1:=hc.ev x
 have h2:=hc.ev y
 rw [hx] at h1
 rw [hy] at h2
 have e1:=h1.agg_flat hu
 have e2:=h2.agg_flat hv
 refine ⟨.bool b,fun _ _ _ _=>?_,.bool⟩
 simp only [execOp,e1,e2,Sem.run_bind,run_eqGuard_agg w .eql t x y _ _ hm,Result.andThen_ok,run_eql_struct,hb w,Sem.run_pure]
theorem qr3 {t t':TypeId} {x y:Operand} {cs ds:List AV} {us vs:List Value} {b:Bool} (hx:aev env x = .agg cs) (hy:aev env y = .agg ds) (hu:cs.map qj3=us.map some) (hv:ds.map qj3=vs.map some)
  (hm:P.eqGuardType P.depth t=false) (hb:∀ w,(Op.equalIn 10000 t (.agg us.toArray) (.agg vs.toArray)).run P w = .ok b w):V1 P N (.binOp .neq t x y t') ty env H (.bool (!b)):=by
 intro S a w hc
 have h1:=hc.ev x
 have h2:=hc.ev y
 rw [hx] at h1
 rw [hy] at h2
 have e1:=h1.agg_flat hu
 have e2:=h2.agg_flat hv
 refine ⟨.bool (!b),fun _ _ _ _=>?_,.bool⟩
 simp only [execOp,e1,e2,Sem.run_bind,run_eqGuard_agg w .neq t x y _ _ hm,Result.andThen_ok,run_neq_struct,hb w,Sem.run_pure]
end
end Go.Av
namespace Go.Av
open Go.Proofs
def qt1 (s:Spec):List Value:=[.int .i64 s.nodes,.int .i64 s.cores,.int .i64 s.gpus,.string s.tag,.bool s.whole,.int .i64 s.long,.int .i64 s.prio]
theorem qon (a b:Spec) (w:World):(Op.equalIn 10000 50 (.agg (qt1 a).toArray) (.agg (qt1 b).toArray)).run Tryz.prog w = .ok (decide (a=b)) w:=by
 have hS:Tryz.prog.underlying 50=some (.struct (Tryz.prog.fieldsOf 50)):=by kernel_rfl
 have hp:Tryz.prog.stoodInHeld 50=false:=by kernel_rfl
 rw [show (10000:Nat)=9999+1 from rfl,run_equalIn_agg w 9999 50 _ _ hS hp]
 have u3:=Tryz.underlying3
 have a3:=Tryz.isAgg3
 have z3:=Tryz.sizeOf3
 simp only [qt1,Program.fieldsOf,Tryz.underlying50]
 go_simp
 have ht:a.tag.toList=b.tag.toList↔a.tag=b.tag:=by have:=qs7 a.tag b.tag;rw [Bool.eq_iff_iff] at this;simpa using this
 simp only [ht]
 cases a;cases b
 simp only [Spec.mk.injEq]
 (repeat' split)<;>simp_all
end Go.Av
namespace Go.Av
theorem qvs {P:Program} {N:Nat} {env:Env} {H:qj} {ty:TypeId} {t e:TypeId} {x y:Operand} {m sz:Nat} {k:IntKind} {n:Int} {cs ds:List AV} [hs:ArI P t m e] [TyI P e true sz] (hx:aev env x = .agg cs) (hy:aev env y = .int k n) (h0:0≤n) (h1:n<m) (hd:(cs.drop (n.toNat * sz)).take sz=ds) (hle:ds.length=sz):V1 P N (.index t x y) ty env H (.agg ds):=by
 intro S a w hc
 obtain ⟨vs,he,hn,hl,h⟩:=qvw hc hx
 exact ⟨.agg (vs.extract (n.toNat * sz) (n.toNat * sz+sz)),fun _ _ _ _=>by
  simp [execOp,he,q1v hc hy,Instr.index,asIntOf,q1t hs.ud,h0,h1,q3o (P:=P) (t:=e) (agg:=true) (sz:=sz),qrj (P:=P) (t:=e)],qtl hn hl h hd hle⟩
end Go.Av
namespace Go.Av
open Go.Proofs
abbrev q1d (j:Job):List AV:=[.int .i64 j.id,.int .i64 j.spec.nodes,.int .i64 j.spec.cores,.int .i64 j.spec.gpus,.str j.spec.tag,.bool j.spec.whole,.int .i64 j.spec.long,.int .i64 j.spec.prio,.pl (j.needs.map eI),.int .i64 j.state,.int .i64 j.came,.int .i64 j.frm,.int .i64 j.to]
theorem qml (l:List Int):∀ r∈l.map eI,r.length=1:=q85 (e:=eI) (n:=1) (fun _=>rfl) l
theorem qcl (n:Nat) (l:List Int):∀ r∈l.map eI,AV.bels n r=true:=q83 (e:=eI) (fun _=>rfl) l
theorem qnc (t:Int) (H:qj):AC Tryz.prog 180 [.int .i64 t] H (Ret (.bool (tm t)) H):=by
 refine AC.body (N:=9) [.tmp 2] Tryz.func180 rfl rfl rfl (Nat.le_of_ble_eq_true rfl) fun B hB=>?_
 refine Zf ?_
 refine qn 2 (.bool (tm t)) ?_ ?_
 ·refine Z8 ?_
  refine Z24 ?_
  refine qb rfl rfl (fun hg2=>?_) (fun hg2=>?_)
  ·refine Zz ?_
   exact qf (Out.mk (by (refine congrArg AV.bool ?_;(simp only [tm] at *;(simp_all;done)))) Yb)
  ·refine Zt ?_
   exact qf (Out.mk (by (refine congrArg AV.bool ?_;(simp only [tm] at *;(simp_all;omega)))) Yb)
 exact Z22
theorem q3a (l:List Int) (H:qj) (hn:l.length≤1000000):AC Tryz.prog 109 [.pl (l.map eI)] H (Ret (.pl (l.map eI)) H):=by
 refine AC.body (N:=8) [.tmp 2] Tryz.func109 rfl rfl rfl (Nat.le_of_ble_eq_true rfl) fun B hB=>?_
 refine Z4p ?_
 refine q7q rfl Y11 (qcb rfl rfl _ _ _ _) ?_ (fun _ _ h=>h.elim)
 rintro _ _ ⟨nb,rfl,hnb,rfl⟩
 refine Z4r ?_
 refine qa rfl (fun hc=>?_) (fun hc=>?_)
 ·subst hc
  have hb:l=[]:=by
   cases l with
   | nil=>rfl
   | cons x b=>simp at hnb
  subst hb
  refine Z4t ?_
  exact q33 (q4d hB (q3t rfl .nil) rfl rfl)
 ·refine Z4v ?_
  refine ao2 Y11 (q55 (sz:=1) (bytes:=8) rfl (Src.pl rfl (qml l)) rfl (by decide) Y1c Y1c (qcl 0 l)) ?_
  exact Z4y
def qqq (l:List Int) (k:Nat):Int:=if k=0 then 0 else (l[k-1]?).getD 0
theorem qtg {id:Int} {l:List Int} {k:Nat} {n:Int} (hn:l[k]?=some n) (h:∀ i,i<k→ndB id l i=true):ndB id l k = !(decide (n≤qqq l k)||decide (id≤n)):=by
 rw [qd1 hn,qqq]
 cases k with
 | zero=>simp;rw [Bool.eq_iff_iff];simp;omega
 | succ k =>
  have hk:k<l.length:=by have:=(List.getElem?_eq_some_iff.1 hn).1;omega
  have hm:l[k]?=some l[k]:=List.getElem?_eq_getElem hk
  have h1:=h k (by omega)
  rw [qd1 hm] at h1
  simp only [Bool.and_eq_true,decide_eq_true_eq] at h1
  simp only [Nat.add_sub_cancel,hm,Option.getD_some]
  rw [Bool.eq_iff_iff]
  simp
  omega
theorem qpx (j:Job) (H:qj):AC Tryz.prog 163 [.agg (q1d j)] H (Ret (.bool (q78 j)) H):=by
 refine AC.body (N:=28) [.tmp 2] Tryz.func163 rfl rfl rfl (Nat.le_of_ble_eq_true rfl) fun B hB=>?_
 refine Z50 ?_
 refine Z34 ?_
 refine Z53 ?_
 refine Z54 ?_
 refine Z2p ?_
 refine Z56 ?_
 refine qa rfl (fun hc=>?_) (fun hc=>?_)
 ·refine Zf ?_
  rw [show q78 j=false by simp at hc;simp [q78];omega]
  exact Zb
 have hl:j.needs.length≤16:=by simp at hc;omega
 rw [show q78 j=qfl j.id j.needs by simp [q78,hl]]
 refine Z5 ?_
 refine Z53 ?_
 refine Z59 ?_
 refine qm (G:=Nat) (fun k=>k≤j.needs.length∧∀ i,i<k→ndB j.id j.needs i=true) (fun k=>[(1,.pt (Lid H.length 0) 0 0 0),(3,.int .i64 (qqq j.needs k)),(11,.pl (j.needs.map eI)),(12,.int .i64 (j.needs.length:Int)),(13,.int .i64 (k:Int))]) (fun _=>H++[⟨0,13,[q1d j]⟩]) (fun k=>j.needs.length-k) 0 ⟨Nat.zero_le _,fun i hi=>by omega⟩ Y6 (Fit.refl _ _) ?_
 rintro k ⟨hk,hno⟩
 refine Z5a ?_
 refine qa rfl (fun hc=>?_) (fun hc=>?_)
 ·have hlt:k<j.needs.length:=by simpa using hc
  obtain ⟨x,hx,hxl⟩:=qo hlt
  have hr:=qh eI hx
  have hok:=qtg hx hno
  refine Z5e ?_
  refine Za ?_
  refine qn 25 (.bool (!ndB j.id j.needs k)) ?_ ?_
  ·refine Z30 ?_
   refine Zi ?_
   refine qb rfl rfl (fun hg3=>?_) (fun hg3=>?_)
   ·refine Z5g ?_
    exact Z5h
   ·refine Zj ?_
    refine Z4a ?_
    refine Zr ?_
    exact Z5i
  refine Z1 ?_
  refine qa rfl (fun hc=>?_) (fun hc=>?_)
  ·refine Zf ?_
   rw [qlv hlt Y19]
   exact Zb
  ·have hlast:qqq j.needs (k+1)=x:=by rw [qqq,if_neg (by omega),Nat.add_sub_cancel,hx];rfl
   refine Z1c ?_
   refine Z5l ?_
   refine ⟨k+1,by omega,⟨by omega,fun i hi=>?_⟩,by rw [hlast];exact Y6,.refl _ _⟩
   rcases Nat.lt_or_eq_of_le (Nat.le_of_lt_succ hi) with h | h
   ·exact hno i h
   ·subst h;simpa using hc
 ·have:k=j.needs.length:=by simp at hc;omega
  subst this
  rw [ql1 hno]
  exact Z5m
set_option maxHeartbeats 0 in
theorem qps (j:Job) (H:qj):AC Tryz.prog 164 [.agg (q1d j)] H (Ret (.bool (q43 j)) H):=by
 refine AC.body (N:=78) [.tmp 2] Tryz.func164 rfl rfl rfl (Nat.le_of_ble_eq_true rfl) fun B hB=>?_
 refine Z50 ?_
 refine Z35 ?_
 refine qn 3 (.bool (q9e j)) ?_ ?_
 ·refine Z37 ?_
  refine Z5n ?_
  refine Zh ?_
  refine qb rfl rfl (fun hg3=>?_) (fun hg3=>?_)
  ·refine Z39 ?_
   refine Z4a ?_
   refine Zn ?_
   exact qf (Out.mk (by (refine congrArg AV.bool ?_;(simp only [q9e,tm] at *;(simp_all;done)))) Yb)
  ·refine Z5o ?_
   exact qf (Out.mk (by (refine congrArg AV.bool ?_;(simp only [q9e,tm] at *;(simp_all;omega)))) Yb)
 refine Z1 ?_
 refine qn 4 (.bool (qch j)) ?_ ?_
 ·refine Z37 ?_
  refine Z5n ?_
  refine Zh ?_
  refine qb rfl rfl (fun hg3=>?_) (fun hg3=>?_)
  ·refine Z39 ?_
   refine Z39 ?_
   refine Z39 ?_
   refine Z5p ?_
   refine Z27 ?_
   refine Zn ?_
   exact qf (Out.mk (by (refine congrArg AV.bool ?_;(simp only [qch,tm] at *;(simp_all;done)))) Yb)
  ·refine Z2c ?_
   refine Z2c ?_
   refine Zs ?_
   exact qf (Out.mk (by (refine congrArg AV.bool ?_;(simp only [qch,tm] at *;(simp_all;omega)))) Yb)
 refine Z4i ?_
 refine Z55 ?_
 refine Z5q ?_
 refine qa rfl (fun hc=>?_) (fun hc=>?_)
 ·have hs:j.state=0:=by simpa using hc
  refine Z1 ?_
  refine qa rfl (fun hc=>?_) (fun hc=>?_)
  ·refine Z1 ?_
   refine qn 2 (.bool (q43 j)) ?_ ?_
   ·refine Z45 ?_
    refine qb rfl rfl (fun hg3=>?_) (fun hg3=>?_)
    ·refine Z47 ?_
     exact Z5s
    ·refine Z21 ?_
     exact Z5r
   exact Z22
  ·simp [hs] at hc
 ·have h0:j.state≠0:=by simpa using hc
  refine q1k ?_
  refine Z14 ?_
  refine qa rfl (fun hc=>?_) (fun hc=>?_)
  ·have hs:j.state=1:=by simpa using hc
   refine Z1 ?_
   refine qn 2 (.bool (q43 j)) ?_ ?_
   ·refine Z45 ?_
    refine qb rfl rfl (fun hg3=>?_) (fun hg3=>?_)
    ·refine Z47 ?_
     exact Z5s
    ·refine Z21 ?_
     exact Z5r
   exact Z22
  ·have h1:j.state≠1:=by simpa using hc
   refine Z5q ?_
   refine qa rfl (fun hc=>?_) (fun hc=>?_)
   ·have hs:j.state=2:=by simpa using hc
    refine Z1 ?_
    refine qn 2 (.bool (q43 j)) ?_ ?_
    ·refine Z3r ?_
     refine qb rfl rfl (fun hg1=>?_) (fun hg1=>?_)
     ·refine Z47 ?_
      exact Z5s
     ·refine Z21 ?_
      exact Z5r
    exact Z22
   ·have h2:j.state≠2:=by simpa using hc
    refine Z5q ?_
    refine qa rfl (fun hc=>?_) (fun hc=>?_)
    ·have hs:j.state=3:=by simpa using hc
     refine Z1 ?_
     refine qa rfl (fun hc=>?_) (fun hc=>?_)
     ·refine Z1 ?_
      refine qn 2 (.bool (q43 j)) ?_ ?_
      ·refine Z3r ?_
       refine qb rfl rfl (fun hg1=>?_) (fun hg1=>?_)
       ·refine Z28 ?_
        exact Z5s
       ·refine Z5t ?_
        exact Z5r
      exact Z22
     ·simp [hs] at hc
    ·have h3:j.state≠3:=by simpa using hc
     refine q1k ?_
     refine Z14 ?_
     refine qa rfl (fun hc=>?_) (fun hc=>?_)
     ·have hs:j.state=4:=by simpa using hc
      refine Z1 ?_
      refine qn 2 (.bool (q43 j)) ?_ ?_
      ·refine Z3r ?_
       refine qb rfl rfl (fun hg1=>?_) (fun hg1=>?_)
       ·refine Z28 ?_
        exact Z5s
       ·refine Z5t ?_
        exact Z5r
      exact Z22
     ·have h4:j.state≠4:=by simpa using hc
      refine Z5q ?_
      refine qa rfl (fun hc=>?_) (fun hc=>?_)
      ·have hs:j.state=5:=by simpa using hc
       refine Z1 ?_
       refine qn 2 (.bool (q43 j)) ?_ ?_
       ·refine Z3r ?_
        refine qb rfl rfl (fun hg1=>?_) (fun hg1=>?_)
        ·refine Z3l ?_
         refine Z28 ?_
         exact Z5s
        ·refine Z47 ?_
         refine Z3e ?_
         refine qb rfl rfl (fun hg6=>?_) (fun hg6=>?_)
         ·refine Z28 ?_
          exact Z5s
         ·refine Z5t ?_
          exact Z5r
       exact Z22
      ·have h5:j.state≠5:=by simpa using hc
       refine Z1 ?_
       refine qn 2 (.bool (q43 j)) ?_ ?_
       ·refine Z45 ?_
        refine qb rfl rfl (fun hg3=>?_) (fun hg3=>?_)
        ·refine Z48 ?_
         refine qb rfl rfl (fun hg8=>?_) (fun hg8=>?_)
         ·refine Z28 ?_
          refine Zn ?_
          exact Z5u
         ·refine Z5t ?_
          exact Z5u
        ·refine Z3f ?_
         refine Z5t ?_
         exact Z5u
       exact Z22
theorem qhw (j:Job) (H:qj):AC Tryz.prog 124 [.agg (q1d j)] H (Ret (.bool (q1q j)) H):=by
 refine AC.body (N:=29) [.tmp 2] Tryz.func124 rfl rfl rfl (Nat.le_of_ble_eq_true rfl) fun B hB=>?_
 refine Z50 ?_
 refine Z35 ?_
 refine qn 2 (.bool (q1q j)) ?_ ?_
 ·refine Z37 ?_
  refine Z24 ?_
  refine qb rfl rfl (fun hg3=>?_) (fun hg3=>?_)
  ·refine Z39 ?_
   refine Zx ?_
   refine Z3b ?_
   refine qb rfl rfl (fun hg8=>?_) (fun hg8=>?_)
   ·refine Z38 ?_
    refine Z5v ?_
    refine Z5w ?_
    refine Z3b ?_
    refine qb rfl rfl (fun hg13=>?_) (fun hg13=>?_)
    ·refine Z5x ?_
     refine q5b rfl rfl (by decide) (V2.call (qpx _ _) rfl) ?_
     refine Z3b ?_
     refine qb rfl rfl (fun hg17=>?_) (fun hg17=>?_)
     ·refine Z39 ?_
      refine Z5y ?_
      refine Z3b ?_
      refine qb rfl rfl (fun hg22=>?_) (fun hg22=>?_)
      ·refine Z5x ?_
       refine q5b rfl rfl (by decide) (V2.call (qps _ _) rfl) ?_
       refine Zn ?_
       exact Z5z
      ·refine Zt ?_
       exact Z60
     ·refine Z61 ?_
      refine Zs ?_
      exact Z5z
    ·refine Z62 ?_
     refine Z61 ?_
     refine Zs ?_
     exact Z5z
   ·refine Z61 ?_
    refine Z3e ?_
    refine Z61 ?_
    refine Zs ?_
    exact Z60
  ·refine Z63 ?_
   refine Z3e ?_
   refine Z61 ?_
   refine Zs ?_
   exact Z60
 exact Z22
set_option maxHeartbeats 0 in
theorem qds (j:Job) (H:qj) (ht:j.spec.tag.size≤9223372036854775807):AC Tryz.prog 144 [.agg (q1d j)] H (Ret (.bool (q1q j)) H):=by
 have c1:=fun H=>q8u j.spec H ht
 refine AC.body (N:=141) [.tmp 2] Tryz.func144 rfl rfl rfl (Nat.le_of_ble_eq_true rfl) fun B hB=>?_
 refine Z50 ?_
 refine Z35 ?_
 refine qn 29 (.bool (!(decide (1≤j.id)&&decide (j.id≤1073741824)&&q2m j.spec&&decide (j.needs.length≤16)&&tm j.came))) ?_ ?_
 ·refine Z3w ?_
  refine qb rfl rfl (fun hg3=>?_) (fun hg3=>?_)
  ·refine Z3l ?_
   refine Z64 ?_
   refine Z65 ?_
   exact Z1z
  ·refine Z3p ?_
   refine qb rfl rfl (fun hg8=>?_) (fun hg8=>?_)
   ·refine Z64 ?_
    refine Z65 ?_
    exact Z1z
   ·refine Z38 ?_
    refine Z5v ?_
    refine q5b rfl rfl (by decide) (V2.call (c1 _) rfl) ?_
    refine Z66 ?_
    refine qb rfl rfl (fun hg14=>?_) (fun hg14=>?_)
    ·refine Z65 ?_
     exact Z1z
    ·refine Z68 ?_
     refine Z69 ?_
     refine Z3o ?_
     refine qb rfl rfl (fun hg20=>?_) (fun hg20=>?_)
     ·refine Z5g ?_
      exact Z6a
     ·refine Z39 ?_
      refine Z6b ?_
      refine Z6c ?_
      exact Z6a
 refine Z1 ?_
 refine qa rfl (fun hc=>?_) (fun hc=>?_)
 ·refine Zf ?_
  rw [show q1q j=false by simp only [q1q,q78];revert hc;cases decide (1≤j.id)<;>cases decide (j.id≤1073741824)<;>cases q2m j.spec<;>cases decide (j.needs.length≤16)<;>cases tm j.came<;>simp]
  exact Zb
 have hc0:(((decide (1≤j.id)=true∧decide (j.id≤1073741824)=true)∧q2m j.spec=true)∧decide (j.needs.length≤16)=true)∧tm j.came=true:=by simpa only [Bool.not_eq_false',Bool.and_eq_true] using hc
 obtain ⟨⟨⟨⟨h1,h2⟩,h3⟩,h4⟩,h5⟩:=hc0
 have hl:j.needs.length≤16:=by simpa using h4
 have hjr:q1q j=(qfl j.id j.needs&&q43 j):=by simp only [q1q,q78,h1,h2,h3,h4,h5,Bool.true_and,Bool.and_true]
 rw [hjr]
 refine Z1e ?_
 refine qm (G:=Nat) (fun k=>k≤j.needs.length∧∀ i,i<k→ndB j.id j.needs i=true) (fun k=>[(1,.pt (Lid H.length 0) 0 0 0),(3,.int .i64 (k:Int))]) (fun _=>H++[⟨0,13,[q1d j]⟩]) (fun k=>j.needs.length-k) 0 ⟨Nat.zero_le _,fun i hi=>by omega⟩ Y6 (Fit.refl _ _) ?_
 rintro k ⟨hk,hno⟩
 refine Z6e ?_
 refine Z6f ?_
 refine qa rfl (fun hc=>?_) (fun hc=>?_)
 ·have hlt:k<j.needs.length:=by simpa using hc
  obtain ⟨x,hx,hxl⟩:=qo hlt
  have hr:=qh eI hx
  obtain ⟨m,hm,_⟩:=qo (l:=j.needs) (k:=((k:Int)-1).toNat) (by omega)
  have hr1:=qh eI hm
  have hnd:ndB j.id j.needs k=(decide (1≤x)&&decide (x<j.id)&&(decide (k=0)||decide (m<x))):=by
   rw [qd1 hx]
   cases k with
   | zero=>simp
   | succ k =>
    have e:(((k+1:Nat):Int)-1).toNat=k:=by omega
    rw [e] at hm
    simp [hm]
  clear hxl
  refine Z1 ?_
  refine q1l 70 (.bool (!ndB j.id j.needs k)) ?_ ?_
  ·refine Z1g ?_
   refine Z6g ?_
   refine Z6i ?_
   refine Z6j ?_
   refine Z6k ?_
   refine Z6l ?_
   refine Z6m ?_
   refine Z6n ?_
   refine qp (g:=43) rfl (fun hg6=>?_) (fun hg6=>?_)
   ·refine Z6o ?_
    refine Z6p ?_
    refine Z6q ?_
    refine Z6r ?_
    refine qr (g:=43) 11 rfl Y17 (by decide) rfl rfl rfl ?_
    refine qr (g:=43) 12 rfl Y17 (by decide) rfl rfl rfl ?_
    refine qr (g:=43) 13 rfl Y17 (by decide) rfl rfl rfl ?_
    refine qr (g:=43) 14 rfl Y17 (by decide) rfl rfl rfl ?_
    refine Z6s ?_
    refine Z6t ?_
    refine Z6u ?_
    refine Z6v ?_
    refine Z6w ?_
    refine Z6x ?_
    refine Z6y ?_
    refine Z6z ?_
    refine Z70 ?_
    refine Z71 ?_
    refine Z72 ?_
    refine Z73 ?_
    refine Z74 ?_
    refine Z75 ?_
    refine Z76 ?_
    refine Z77 ?_
    refine Z78 ?_
    refine Z79 ?_
    refine Z7a ?_
    exact Z7b
   ·refine q1j (g:=43) 7 rfl Y17 (by decide) rfl rfl (fun G=>qc rfl (lk rfl rfl) rfl (by decide)) ?_
    refine q1j (g:=43) 8 rfl Y17 (by decide) rfl rfl (fun G=>qi (v:=.pl _) rfl (lk rfl rfl) rfl rfl rfl) ?_
    refine q1h (g:=43) 9 rfl Y17 (by decide) rfl rfl (fun _=>qd (v:=.int _ _) rfl) ?_
    refine q1j (g:=43) 10 rfl Y17 (by decide) rfl rfl (fun G=>qe rfl rfl hr rfl) ?_
    refine q1j (g:=43) 11 rfl Y17 (by decide) rfl rfl (fun G=>qz (v:=.int _ _) rfl hr rfl) ?_
    refine q1j (g:=43) 12 rfl Y17 (by decide) rfl rfl (fun G=>qc rfl (lk rfl rfl) rfl (by decide)) ?_
    refine q1j (g:=43) 13 rfl Y17 (by decide) rfl rfl (fun G=>qi (v:=.int _ _) rfl (lk rfl rfl) rfl rfl rfl) ?_
    refine q1h (g:=43) 14 rfl Y17 (by decide) rfl rfl (fun _=>qy2 rfl rfl) ?_
    refine Z7c ?_
    refine Z6t ?_
    refine qp (g:=53) rfl (fun hg16=>?_) (fun hg16=>?_)
    ·refine Z6u ?_
     refine Z6v ?_
     refine Z6w ?_
     refine Z6x ?_
     refine Z6y ?_
     refine Z6z ?_
     refine Z70 ?_
     refine Z71 ?_
     refine Z72 ?_
     refine Z73 ?_
     refine Z74 ?_
     refine Z75 ?_
     refine Z76 ?_
     refine Z77 ?_
     refine Z78 ?_
     refine Z79 ?_
     refine Z7a ?_
     exact Z7b
    ·refine q1h (g:=53) 17 rfl Y17 (by decide) rfl rfl (fun _=>qd (v:=.int _ _) rfl) ?_
     refine q1h (g:=53) 18 rfl Y17 (by decide) rfl rfl (fun _=>qjz rfl rfl) ?_
     refine q1h (g:=53) 19 rfl Y17 (by decide) rfl rfl (fun _=>qd (v:=.bool _) rfl) ?_
     refine qp (g:=56) rfl (fun hg19=>?_) (fun hg19=>?_)
     ·refine q1j (g:=56) 20 rfl Y17 (by decide) rfl rfl (fun G=>qc rfl (lk rfl rfl) rfl (by decide)) ?_
      refine q1j (g:=56) 21 rfl Y17 (by decide) rfl rfl (fun G=>qi (v:=.pl _) rfl (lk rfl rfl) rfl rfl rfl) ?_
      refine q1h (g:=56) 22 rfl Y17 (by decide) rfl rfl (fun _=>qd (v:=.int _ _) rfl) ?_
      refine q1j (g:=56) 23 rfl Y17 (by decide) rfl rfl (fun G=>qe rfl rfl hr rfl) ?_
      refine q1j (g:=56) 24 rfl Y17 (by decide) rfl rfl (fun G=>qz (v:=.int _ _) rfl hr rfl) ?_
      refine q1j (g:=56) 25 rfl Y17 (by decide) rfl rfl (fun G=>qc rfl (lk rfl rfl) rfl (by decide)) ?_
      refine q1j (g:=56) 26 rfl Y17 (by decide) rfl rfl (fun G=>qi (v:=.pl _) rfl (lk rfl rfl) rfl rfl rfl) ?_
      refine q1h (g:=56) 27 rfl Y17 (by decide) rfl rfl (fun _=>qd (v:=.int _ _) rfl) ?_
      refine q1h (g:=56) 28 rfl Y17 (by decide) rfl rfl (fun _=>q5p (r:=(k:Int)-1) rfl rfl (q1b (by omega) (by omega))) ?_
      refine q1j (g:=56) 29 rfl Y17 (by decide) rfl rfl (fun G=>q57 rfl rfl (by simp at hg19;omega) hr1 rfl) ?_
      refine q1j (g:=56) 30 rfl Y17 (by decide) rfl rfl (fun G=>qz (v:=.int _ _) rfl hr1 rfl) ?_
      refine q1h (g:=56) 31 rfl Y17 (by decide) rfl rfl (fun _=>qqc rfl rfl) ?_
      refine q1h (g:=53) 32 rfl Y17 (by decide) rfl rfl (fun _=>q16 (v:=.bool _) rfl rfl) ?_
      refine Z7d ?_
      exact Z7b
     ·refine qr (g:=56) 20 rfl Y17 (by decide) rfl rfl rfl ?_
      refine qr (g:=56) 21 rfl Y17 (by decide) rfl rfl rfl ?_
      refine qr (g:=56) 22 rfl Y17 (by decide) rfl rfl rfl ?_
      refine qr (g:=56) 23 rfl Y17 (by decide) rfl rfl rfl ?_
      refine qr (g:=56) 24 rfl Y17 (by decide) rfl rfl rfl ?_
      refine qr (g:=56) 25 rfl Y17 (by decide) rfl rfl rfl ?_
      refine qr (g:=56) 26 rfl Y17 (by decide) rfl rfl rfl ?_
      refine qr (g:=56) 27 rfl Y17 (by decide) rfl rfl rfl ?_
      refine qr (g:=56) 28 rfl Y17 (by decide) rfl rfl rfl ?_
      refine qr (g:=56) 29 rfl Y17 (by decide) rfl rfl rfl ?_
      refine qr (g:=56) 30 rfl Y17 (by decide) rfl rfl rfl ?_
      refine qr (g:=56) 31 rfl Y17 (by decide) rfl rfl rfl ?_
      refine q1h (g:=53) 32 rfl Y17 (by decide) rfl rfl (fun _=>q17 (v:=.bool _) rfl rfl) ?_
      refine Z7d ?_
      exact Z7b
  refine Z1 ?_
  refine qa rfl (fun hc=>?_) (fun hc=>?_)
  ·refine Zf ?_
   rw [qlv hlt Y19]
   exact Zb
  ·refine Z2l ?_
   refine ⟨k+1,by omega,⟨by omega,fun i hi=>?_⟩,Y6,.refl _ _⟩
   rcases Nat.lt_or_eq_of_le (Nat.le_of_lt_succ hi) with h | h
   ·exact hno i h
   ·subst h;simpa using hc
 ·have:k=j.needs.length:=by simp at hc;omega
  subst this
  rw [ql1 hno,Bool.true_and,q80 h5]
  clear hjr hno
  refine Z1 ?_
  refine qn 90 (.bool (!(decide (0≤j.state)&&decide (j.state≤6)&&tm j.frm&&tm j.to))) ?_ ?_
  ·refine Z3w ?_
   refine qb rfl rfl (fun hg3=>?_) (fun hg3=>?_)
   ·refine Z3l ?_
    refine Z65 ?_
    exact Z1z
   ·refine Z3p ?_
    refine qb rfl rfl (fun hg8=>?_) (fun hg8=>?_)
    ·refine Z65 ?_
     exact Z1z
    ·refine Z39 ?_
     refine Z6b ?_
     refine Z66 ?_
     refine qb rfl rfl (fun hg14=>?_) (fun hg14=>?_)
     ·refine Z5g ?_
      exact Z1z
     ·refine Z39 ?_
      refine Z6b ?_
      refine Z6c ?_
      exact Z1z
  refine Z1 ?_
  refine qa rfl (fun hc=>?_) (fun hc=>?_)
  ·refine Zf ?_
   rw [show (decide (0≤j.state)&&decide (j.state≤6)&&tm j.frm&&tm j.to)=false by simpa only [Bool.not_eq_true'] using hc,Bool.false_and,Bool.false_and]
   exact Zb
  rw [show (decide (0≤j.state)&&decide (j.state≤6)&&tm j.frm&&tm j.to)=true by simpa only [Bool.not_eq_false'] using hc,Bool.true_and]
  have hst:0≤j.state∧j.state≤6:=by simp at hc;omega
  refine Z1 ?_
  refine qn 103 (.bool (decide (j.state=0∨j.state=1∨j.state=6))) ?_ ?_
  ·refine Z45 ?_
   refine qb rfl rfl (fun hg3=>?_) (fun hg3=>?_)
   ·refine Z40 ?_
    exact Z1z
   ·refine Z47 ?_
    refine Z3e ?_
    refine qb rfl rfl (fun hg8=>?_) (fun hg8=>?_)
    ·refine Z3z ?_
     exact Z1z
    ·refine Z47 ?_
     refine Zr ?_
     exact Z7e
  refine Z1 ?_
  refine qa rfl (fun hc=>?_) (fun hc=>?_)
  ·have hs:j.state=0∨j.state=1∨j.state=6:=by simpa only [decide_eq_true_eq] using hc
   rw [if_pos hs]
   refine Z4i ?_
   refine Z2u ?_
   refine Z56 ?_
   refine qa rfl (fun hc=>?_) (fun hc=>?_)
   ·refine Zf ?_
    rw [show decide (j.frm=0)=false by simpa using hc,Bool.false_and]
    exact Zb
   rw [show decide (j.frm=0)=true by simpa using hc,Bool.true_and]
   refine Z4i ?_
   refine Z6f ?_
   refine qa rfl (fun hc=>?_) (fun hc=>?_)
   ·rw [if_pos Y19]
    refine Z4i ?_
    refine Z7g ?_
    refine Z1 ?_
    rw [show (j.to == 0)=decide (j.to=0) from rfl]
    exact Zb
   ·rw [if_neg Y19]
    refine Z1 ?_
    refine qn 2 (.bool (decide (j.came≤j.to)&&decide (j.frm≤j.to))) ?_ ?_
    ·refine Z7h ?_
     refine Z24 ?_
     refine qb rfl rfl (fun hg5=>?_) (fun hg5=>?_)
     ·refine Z39 ?_
      refine Z4a ?_
      refine Zn ?_
      exact Z1z
     ·refine Z5o ?_
      exact Z6a
    exact Z22
  ·have hs:¬ (j.state=0∨j.state=1∨j.state=6):=by simpa only [decide_eq_false_iff_not] using hc
   rw [if_neg hs]
   refine Z1 ?_
   refine qn 122 (.bool (!(decide (j.came≤j.frm)||(decide (j.state=5)&&decide (j.frm=0))))) ?_ ?_
   ·refine Z7h ?_
    refine Zv ?_
    refine qb rfl rfl (fun hg5=>?_) (fun hg5=>?_)
    ·refine Z7i ?_
     refine qb rfl rfl (fun hg9=>?_) (fun hg9=>?_)
     ·refine Z47 ?_
      refine Z29 ?_
      refine Z2a ?_
      exact Z7e
     ·refine Z7j ?_
      refine Z2a ?_
      exact Z1z
    ·refine Z2c ?_
     refine Z7k ?_
     refine Z2h ?_
     exact Z1z
   refine Z1 ?_
   refine qa rfl (fun hc=>?_) (fun hc=>?_)
   ·refine Zf ?_
    rw [show (decide (j.came≤j.frm)||(decide (j.state=5)&&decide (j.frm=0)))=false by simpa only [Bool.not_eq_true'] using hc,Bool.false_and]
    exact Zb
   rw [show (decide (j.came≤j.frm)||(decide (j.state=5)&&decide (j.frm=0)))=true by simpa only [Bool.not_eq_false'] using hc,Bool.true_and]
   refine Z4i ?_
   refine Z6f ?_
   refine qa rfl (fun hc=>?_) (fun hc=>?_)
   ·rw [if_pos Y19]
    refine Z4i ?_
    refine Z7g ?_
    refine Z1 ?_
    rw [show (j.to == 0)=decide (j.to=0) from rfl]
    exact Zb
   ·rw [if_neg Y19]
    refine Z1 ?_
    refine qn 2 (.bool (decide (j.came≤j.to)&&decide (j.frm≤j.to))) ?_ ?_
    ·refine Z7h ?_
     refine Z24 ?_
     refine qb rfl rfl (fun hg5=>?_) (fun hg5=>?_)
     ·refine Z39 ?_
      refine Z4a ?_
      refine Zn ?_
      exact Z1z
     ·refine Z5o ?_
      exact Z6a
    exact Z22
set_option maxHeartbeats 0 in
theorem qtk (s w:Int) (H:qj):AC Tryz.prog 193 [.int .i64 s,.int .i64 w] H (Ret (.tup [.int .i64 (nx s w).1,.bool (nx s w).2]) H):=by
 refine AC.body (N:=56) [.tmp 4,.tmp 5] Tryz.func193 rfl rfl rfl (Nat.le_of_ble_eq_true rfl) fun B hB=>?_
 refine Z7m ?_
 refine qn 6 (.bool (decide (s=0∧w=1))) ?_ ?_
 ·refine Z7n ?_
  refine qb rfl rfl (fun hg2=>?_) (fun hg2=>?_)
  ·exact Z7q
  ·refine Zt ?_
   exact Z1z
 refine Z1 ?_
 refine qa rfl (fun hc=>?_) (fun hc=>?_)
 ·have h:s=0∧w=1:=by simpa only [decide_eq_true_eq] using hc
  have e:nx s w=(1,true):=by rw [nx,q3w,if_pos h]
  refine Z7m ?_
  rw [e]
  exact Z7r
 have h0:¬ (s=0∧w=1):=by simpa only [decide_eq_false_iff_not] using hc
 refine Z1 ?_
 refine qn 13 (.bool (decide (s=1∧w=2))) ?_ ?_
 ·refine Z7n ?_
  refine qb rfl rfl (fun hg2=>?_) (fun hg2=>?_)
  ·exact Z7q
  ·refine Zt ?_
   exact Z1z
 refine Z1 ?_
 refine qa rfl (fun hc=>?_) (fun hc=>?_)
 ·have h:s=1∧w=2:=by simpa only [decide_eq_true_eq] using hc
  have e:nx s w=(0,true):=by rw [nx,q3w,if_neg h0,if_pos h]
  refine Z7m ?_
  rw [e]
  exact Z7r
 have h1:¬ (s=1∧w=2):=by simpa only [decide_eq_false_iff_not] using hc
 refine Z1 ?_
 refine qn 20 (.bool (decide (s=0∧w=3))) ?_ ?_
 ·refine Z7n ?_
  refine qb rfl rfl (fun hg2=>?_) (fun hg2=>?_)
  ·exact Z7q
  ·refine Zt ?_
   exact Z1z
 refine Z1 ?_
 refine qa rfl (fun hc=>?_) (fun hc=>?_)
 ·have h:s=0∧w=3:=by simpa only [decide_eq_true_eq] using hc
  have e:nx s w=(2,true):=by rw [nx,q3w,if_neg h0,if_neg h1,if_pos h]
  refine Z7m ?_
  rw [e]
  exact Z7r
 have h2:¬ (s=0∧w=3):=by simpa only [decide_eq_false_iff_not] using hc
 refine Z1 ?_
 refine qn 27 (.bool (decide (s=2∧w=4))) ?_ ?_
 ·refine Z7n ?_
  refine qb rfl rfl (fun hg2=>?_) (fun hg2=>?_)
  ·exact Z7q
  ·refine Zt ?_
   exact Z1z
 refine Z1 ?_
 refine qa rfl (fun hc=>?_) (fun hc=>?_)
 ·have h:s=2∧w=4:=by simpa only [decide_eq_true_eq] using hc
  have e:nx s w=(3,true):=by rw [nx,q3w,if_neg h0,if_neg h1,if_neg h2,if_pos h]
  refine Z7m ?_
  rw [e]
  exact Z7r
 have h3:¬ (s=2∧w=4):=by simpa only [decide_eq_false_iff_not] using hc
 refine Z1 ?_
 refine qn 34 (.bool (decide (s=2∧w=5))) ?_ ?_
 ·refine Z7n ?_
  refine qb rfl rfl (fun hg2=>?_) (fun hg2=>?_)
  ·exact Z7q
  ·refine Zt ?_
   exact Z1z
 refine Z1 ?_
 refine qa rfl (fun hc=>?_) (fun hc=>?_)
 ·have h:s=2∧w=5:=by simpa only [decide_eq_true_eq] using hc
  have e:nx s w=(4,true):=by rw [nx,q3w,if_neg h0,if_neg h1,if_neg h2,if_neg h3,if_pos h]
  refine Z7m ?_
  rw [e]
  exact Z7r
 have h4:¬ (s=2∧w=5):=by simpa only [decide_eq_false_iff_not] using hc
 refine Z1 ?_
 refine qn 41 (.bool (decide (s≤2∧w=6))) ?_ ?_
 ·refine Z8 ?_
  refine Zi ?_
  refine qb rfl rfl (fun hg2=>?_) (fun hg2=>?_)
  ·exact Z7q
  ·refine Zt ?_
   exact Z6a
 refine Z1 ?_
 refine qa rfl (fun hc=>?_) (fun hc=>?_)
 ·have h:s≤2∧w=6:=by simpa only [decide_eq_true_eq] using hc
  have e:nx s w=(5,true):=by rw [nx,q3w,if_neg h0,if_neg h1,if_neg h2,if_neg h3,if_neg h4,if_pos h]
  refine Z7m ?_
  rw [e]
  exact Z7r
 have h5:¬ (s≤2∧w=6):=by simpa only [decide_eq_false_iff_not] using hc
 refine Z1 ?_
 refine qn 48 (.bool (decide (s<2∧w=7))) ?_ ?_
 ·refine Zw ?_
  refine qb rfl rfl (fun hg2=>?_) (fun hg2=>?_)
  ·exact Z7q
  ·refine Zt ?_
   exact Z6a
 refine Z1 ?_
 refine qa rfl (fun hc=>?_) (fun hc=>?_)
 ·have h:s<2∧w=7:=by simpa only [decide_eq_true_eq] using hc
  have e:nx s w=(6,true):=by rw [nx,q3w,if_neg h0,if_neg h1,if_neg h2,if_neg h3,if_neg h4,if_neg h5,if_pos h]
  refine Z7m ?_
  rw [e]
  exact Z7r
 have h6:¬ (s<2∧w=7):=by simpa only [decide_eq_false_iff_not] using hc
 have e:nx s w=(s,false):=by rw [nx,q3w,if_neg h0,if_neg h1,if_neg h2,if_neg h3,if_neg h4,if_neg h5,if_neg h6]
 refine Z12 ?_
 refine Z3 ?_
 refine Ze ?_
 rw [e]
 exact Z7r
def jtab:List Int:=[1,-1,2,-1,-1,5,6,-1,0,-1,-1,-1,5,6,-1,-1,-1,3,4,5,-1,-1,-1,-1,-1,-1,-1,-1,-1,-1,-1,-1,-1,-1,-1,-1,-1,-1,-1,-1,-1,-1,-1,-1,-1,-1,-1,-1,-1]
theorem qtr:∀ a:Nat,a<7→∀ b:Nat,b<7→jtab[a * 7+b]?=some ((q3w (a:Int) ((b:Int)+1)).getD (-1)):=by decide +kernel
abbrev eTab:List AV:=jtab.map fun i=>.int .i64 i
set_option maxHeartbeats 0 in
theorem qny (s w:Int) (hs:0≤s∧s≤6) (hw:1≤w∧w≤7) (H:qj):AC Tryz.prog 186 [.int .i64 s,.int .i64 w] H (Ret (.int .i64 ((q3w s w).getD (-1))) H):=by
 obtain ⟨a,rfl⟩:∃ a:Nat,s=a:=⟨s.toNat,by omega⟩
 obtain ⟨b,rfl⟩:∃ b:Nat,w=(b:Int)+1:=⟨(w-1).toNat,by omega⟩
 have hrow:=qtr a (by omega) b (by omega)
 have hget:((eTab.drop (((a:Nat):Int).toNat * 7)).take 7)[((b:Nat):Int).toNat * 1]?=some (.int .i64 ((q3w (a:Int) ((b:Int)+1)).getD (-1))):=by
  show ((eTab.drop (a * 7)).take 7)[b * 1]?=_
  rw [Nat.mul_one,List.getElem?_take,if_pos (by omega),List.getElem?_drop,List.getElem?_map,hrow]
  rfl
 refine AC.body (N:=18) [.tmp 4] Tryz.func186 rfl rfl rfl (Nat.le_of_ble_eq_true rfl) fun B hB=>?_
 refine Z5 ?_
 refine Z2 ?_
 refine Z7s ?_
 refine Z7s ?_
 refine Z7s ?_
 refine Z7s ?_
 refine Z7s ?_
 refine Z7s ?_
 refine Z7s ?_
 refine ao1 (by decide) (V1.up (qev (cs:=eTab) rfl)) ?_
 refine Z8 ?_
 refine ao1 (by decide) (qvs (cs:=eTab) (sz:=7) rfl rfl (by omega) (by omega) rfl (by simp [jtab];omega)) ?_
 refine Z8 ?_
 refine ao1 (by decide) (q5p (r:=(b:Int)) rfl rfl (by rw [show (b:Int)+1-1=(b:Int) by omega];exact q1b (by omega) (by omega))) ?_
 refine ao1 (by decide) (qmy (sz:=1) (v:=.int .i64 _) rfl rfl (by omega) (by omega) hget) ?_
 refine Z4 ?_
 try dsimp only [AV.up]
 exact Z22
theorem qlx (s:Int) (H:qj):AC Tryz.prog 31 [.int .i64 s] H (Ret (.bool (q3z s)) H):=by
 refine AC.body (N:=9) [.tmp 2] Tryz.func31 rfl rfl rfl (Nat.le_of_ble_eq_true rfl) fun B hB=>?_
 refine Zf ?_
 refine qn 2 (.bool (q3z s)) ?_ ?_
 ·refine Z8 ?_
  refine Z24 ?_
  refine qb rfl rfl (fun hg2=>?_) (fun hg2=>?_)
  ·refine Zz ?_
   exact qf (Out.mk (by (refine congrArg AV.bool ?_;(simp only [q3z] at *;(simp_all;done)))) Yb)
  ·refine Zt ?_
   exact qf (Out.mk (by (refine congrArg AV.bool ?_;(simp only [q3z] at *;(simp_all;omega)))) Yb)
 exact Z22
set_option maxHeartbeats 0 in
theorem qy3 (j:Job) (w now:Int) (hn:j.needs.length≤1000000) (H:qj):AC Tryz.prog 170 [.agg (q1d j),.int .i64 w,.int .i64 now] H (Ret (.tup [.agg (q1d (jdo j w now).1),.int .i64 (jdo j w now).2]) H):=by
 refine AC.body (N:=61) [.cell 6 63,.tmp 7] Tryz.func170 rfl rfl rfl (Nat.le_of_ble_eq_true rfl) fun B hB=>?_
 refine Z50 ?_
 refine Z7t ?_
 refine Z4 ?_
 refine Z7u ?_
 refine Z53 ?_
 refine Z7v ?_
 refine Z36 ?_
 refine Z7w ?_
 refine Z7y ?_
 refine Z1 ?_
 refine qn 38 (.bool (qdv j w now)) ?_ ?_
 ·refine Z4b ?_
  refine q13 (qhw _ _) rfl (by decide) ?_
  refine Z26 ?_
  refine qb rfl rfl (fun hg3=>?_) (fun hg3=>?_)
  ·refine Z80 ?_
   refine Z3l ?_
   refine Z5f ?_
   refine Z3z ?_
   exact Z81
  ·refine Z82 ?_
   refine qb rfl rfl (fun hg7=>?_) (fun hg7=>?_)
   ·refine Z7z ?_
    refine Z3l ?_
    refine Z5f ?_
    refine Z3z ?_
    exact Z81
   ·refine Z83 ?_
    refine qb rfl rfl (fun hg11=>?_) (fun hg11=>?_)
    ·refine Z3l ?_
     refine Z5f ?_
     refine Z3z ?_
     exact Z81
    ·refine Zj ?_
     refine Z5y ?_
     refine Z66 ?_
     refine qb rfl rfl (fun hg16=>?_) (fun hg16=>?_)
     ·refine Z5f ?_
      refine Z3z ?_
      exact Z81
     ·refine Zj ?_
      refine Z39 ?_
      refine Z39 ?_
      refine Z5p ?_
      refine Zk ?_
      refine Zr ?_
      exact Z84
 refine Z1 ?_
 refine qa rfl (fun hc=>?_) (fun hc=>?_)
 ·refine Z87 ?_
  refine Z89 ?_
  rw [show jdo j w now=(j,1) by rw [jdo,if_pos hc]]
  exact Z8a
 have hb:qdv j w now=false:=hc
 have c4:=fun H=>qtk j.state w H
 cases hnx:q3w j.state w with
 | none =>
  rw [show nx j.state w=(j.state,false) by rw [nx,hnx]] at c4
  refine Z8b ?_
  refine Z8c ?_
  refine Z8i ?_
  refine Z8j ?_
  refine Z8k ?_
  refine qa rfl (fun hc=>?_) (fun hc=>?_)
  ·refine Z87 ?_
   refine Z89 ?_
   rw [show jdo j w now=(j,8) by rw [jdo,if_neg (by rw [hb];simp),hnx]]
   exact Z8a
  ·simp at hc
 | some s =>
  rw [show nx j.state w=(s,true) by rw [nx,hnx]] at c4
  rw [show jdo j w now=(q3f j s now,0) by rw [jdo,if_neg (by rw [hb];simp),hnx]]
  refine Z8b ?_
  refine Z8c ?_
  refine Z8i ?_
  refine Z8j ?_
  refine Z8k ?_
  refine qa rfl (fun hc=>?_) (fun hc=>?_)
  ·simp at hc
  refine Z12 ?_
  refine Z8m ?_
  refine Z18 ?_
  refine qa rfl (fun hc=>?_) (fun hc=>?_)
  ·have hs:s=2:=by simpa using hc
   rw [show q3f j s now=⟨j.id,j.spec,j.needs,s,j.came,now,j.to⟩ by rw [q3f,if_pos hs,if_neg (by rw [hs];decide)]]
   refine Z8n ?_
   refine Z8m ?_
   refine Z12 ?_
   refine Z8o ?_
   refine Z9 ?_
   refine qa rfl (fun hc=>?_) (fun hc=>?_)
   ·rw [hs] at hc;exact absurd hc (by decide)
   exact Z8q
  ·have hs:¬ s=2:=by simpa using hc
   refine Z12 ?_
   refine Z8o ?_
   refine Z9 ?_
   refine qa rfl (fun hc=>?_) (fun hc=>?_)
   ·rw [show q3f j s now=⟨j.id,j.spec,j.needs,s,j.came,j.frm,now⟩ by rw [q3f,if_neg hs,if_pos hc]]
    refine Z8n ?_
    refine Z8m ?_
    exact Z8q
   ·rw [show q3f j s now=⟨j.id,j.spec,j.needs,s,j.came,j.frm,j.to⟩ by rw [q3f,if_neg hs,if_neg (by rw [hc];simp)]]
    exact Z8q
set_option maxHeartbeats 0 in
theorem qtz (j:Job) (w now:Int) (ht:j.spec.tag.size≤9223372036854775807) (H:qj):AC Tryz.prog 154 [.agg (q1d j),.int .i64 w,.int .i64 now] H (Ret (.tup [.agg (q1d (jdo j w now).1),.int .i64 (jdo j w now).2]) H):=by
 refine AC.body (N:=56) [.cell 6 63,.tmp 7] Tryz.func154 rfl rfl rfl (Nat.le_of_ble_eq_true rfl) fun B hB=>?_
 refine Z50 ?_
 refine Z7t ?_
 refine Z8s ?_
 refine qn 36 (.bool (qdv j w now)) ?_ ?_
 ·refine Z4b ?_
  refine q13 (qds _ _ Y1d) rfl (by decide) ?_
  refine Z26 ?_
  refine qb rfl rfl (fun hg3=>?_) (fun hg3=>?_)
  ·refine Z80 ?_
   refine Z3l ?_
   refine Z65 ?_
   exact Z81
  ·refine Z82 ?_
   refine qb rfl rfl (fun hg7=>?_) (fun hg7=>?_)
   ·refine Z7z ?_
    refine Z3l ?_
    refine Z65 ?_
    exact Z81
   ·refine Z83 ?_
    refine qb rfl rfl (fun hg11=>?_) (fun hg11=>?_)
    ·refine Z3l ?_
     refine Z65 ?_
     exact Z81
    ·refine Zj ?_
     refine Z6b ?_
     refine Z66 ?_
     refine qb rfl rfl (fun hg16=>?_) (fun hg16=>?_)
     ·refine Z65 ?_
      exact Z81
     ·refine Zj ?_
      refine Z42 ?_
      refine qb rfl rfl (fun hg22=>?_) (fun hg22=>?_)
      ·refine Z5g ?_
       exact Z84
      ·refine Z8t ?_
       refine Zr ?_
       exact qf (Out.mk (by (refine congrArg AV.bool ?_;(simp only [qdv,tm] at *;grind))) Yb)
 refine Z1 ?_
 refine qa rfl (fun hc=>?_) (fun hc=>?_)
 ·refine Z87 ?_
  refine Z89 ?_
  rw [show jdo j w now=(j,1) by rw [jdo,if_pos hc]]
  exact Z8a
 have hb:qdv j w now=false:=hc
 have hb2:=hb
 simp only [qdv,Bool.or_eq_false_iff,Bool.not_eq_false',decide_eq_false_iff_not] at hb2
 obtain ⟨⟨⟨⟨hjr,hw1⟩,hw2⟩,hnow⟩,hmx⟩:=hb2
 have hst:=q53 hjr
 have c4:=fun H=>qny j.state w hst (by omega) H
 cases hnx:q3w j.state w with
 | none =>
  rw [hnx] at c4
  refine Z8b ?_
  refine Z8c ?_
  refine Z4 ?_
  refine Z8j ?_
  refine Z1p ?_
  refine qa rfl (fun hc=>?_) (fun hc=>?_)
  ·refine Z87 ?_
   refine Z89 ?_
   rw [show jdo j w now=(j,8) by rw [jdo,if_neg (by rw [hb];simp),hnx]]
   exact Z8a
  ·simp at hc
 | some s =>
  have hsi:=qbp hst.1 hnx
  rw [hnx] at c4
  rw [show jdo j w now=(q3f j s now,0) by rw [jdo,if_neg (by rw [hb];simp),hnx]]
  refine Z8b ?_
  refine Z8c ?_
  refine Z4 ?_
  refine Z8j ?_
  refine Z1p ?_
  refine qa rfl (fun hc=>?_) (fun hc=>?_)
  ·simp at hc;omega
  refine Z12 ?_
  refine Z8m ?_
  refine Z18 ?_
  refine qa rfl (fun hc=>?_) (fun hc=>?_)
  ·have hs:s=2:=by simpa using hc
   rw [show q3f j s now=⟨j.id,j.spec,j.needs,s,j.came,now,j.to⟩ by rw [q3f,if_pos hs,if_neg (by rw [hs];decide)]]
   refine Z8n ?_
   refine Z8m ?_
   refine Z12 ?_
   refine Z2q ?_
   refine qa rfl (fun hc=>?_) (fun hc=>?_)
   ·simp at hc;omega
   exact Z8q
  ·have hs:¬ s=2:=by simpa using hc
   refine Z12 ?_
   refine Z2q ?_
   refine qa rfl (fun hc=>?_) (fun hc=>?_)
   ·have hv:q3z s=true:=by simp at hc;simp [q3z];omega
    rw [show q3f j s now=⟨j.id,j.spec,j.needs,s,j.came,j.frm,now⟩ by rw [q3f,if_neg hs,if_pos hv]]
    refine Z8n ?_
    refine Z8m ?_
    exact Z8q
   ·have hv:q3z s=false:=by simp at hc;simp [q3z];omega
    rw [show q3f j s now=⟨j.id,j.spec,j.needs,s,j.came,j.frm,j.to⟩ by rw [q3f,if_neg hs,if_neg (by rw [hv];simp)]]
    exact Z8q
theorem qxb {α:Type} {a b:List α} {k:Nat} {x:α} (hx:a[k]?=some x) (hy:b[k]?=some x) (h:a.take k=b.take k):a.take (k+1)=b.take (k+1):=by
 rw [ql hx,ql hy,h]
theorem qwe {α:Type} {a b:List α} (hn:a.length=b.length) (h:a.take a.length=b.take a.length):a=b:=by
 rw [List.take_length,hn,List.take_length] at h;exact h
theorem qyy {α:Type} {a b:List α} {k:Nat} {x y:α} (hx:a[k]?=some x) (hy:b[k]?=some y) (h:x≠y):a≠b:=by
 rintro rfl;rw [hx] at hy;exact h (Option.some.inj hy)
theorem q6b (a b:List Int) (H:qj) (ha:a.length≤1000000000):AC Tryz.prog 23 [.pl (a.map eI),.pl (b.map eI)] H (Ret (.bool (decide (a=b))) H):=by
 refine AC.body (N:=26) [.tmp 4] Tryz.func23 rfl rfl rfl (Nat.le_of_ble_eq_true rfl) fun B hB=>?_
 refine Z8v ?_
 refine Z8w ?_
 refine Z8x ?_
 refine qa rfl (fun hc=>?_) (fun hc=>?_)
 ·have hn:a.length≠b.length:=by simp at hc;omega
  rw [show decide (a=b)=false by simp;intro e;exact hn (congrArg List.length e)]
  exact Z5m
 have hn:a.length=b.length:=by simp at hc;omega
 refine Z1e ?_
 refine qm (G:=Nat) (fun k=>k≤a.length∧a.take k=b.take k) (fun k=>[(0,.pl (a.map eI)),(1,.pl (b.map eI)),(5,.int .i64 (k:Int))]) (fun _=>H++[]) (fun k=>a.length-k) 0 ⟨Nat.zero_le _,by simp⟩ Y6 (Fit.refl _ _) ?_
 rintro k ⟨hk,he⟩
 refine Z8z ?_
 refine qa rfl (fun hc=>?_) (fun hc=>?_)
 ·have hlt:k<a.length:=by simpa using hc
  obtain ⟨x,hx,_⟩:=qo hlt
  obtain ⟨y,hy,_⟩:=qo (l:=b) (k:=k) (by omega)
  have hr:=qh eI hx
  have hr1:=qh eI hy
  refine Z1h ?_
  refine Z92 ?_
  refine Z93 ?_
  refine Z95 ?_
  refine aqp 6 rfl Y17 (by decide) (fun G=>qe rfl rfl hr1 rfl) ?_
  refine aqp 7 rfl Y17 (by decide) (fun G=>qz (v:=.int _ _) rfl hr1 rfl) ?_
  refine aq0 8 rfl Y17 (by decide) (fun _=>qpe rfl rfl) ?_
  refine Z1m ?_
  refine qa rfl (fun hc=>?_) (fun hc=>?_)
  ·rw [show decide (a=b)=false by simp;exact qyy hx hy Y19]
   exact Z5m
  ·have hxy:x=y:=by simpa using hc
   subst hxy
   refine Z2l ?_
   exact ⟨k+1,by omega,⟨by omega,qxb hx hy he⟩,Y6,.refl _ _⟩
 ·have:k=a.length:=by simp at hc;omega
  subst this
  rw [show decide (a=b)=true by simp;exact qwe hn he]
  exact Z5m
set_option maxHeartbeats 0 in
theorem qp1 (a b:Job) (H:qj) (ha:a.needs.length≤1000000):AC Tryz.prog 106 [.agg (q1d a),.agg (q1d b)] H (Ret (.bool (decide (a=b))) H):=by
 have he:decide (a=b)=(a.id == b.id&&decide (a.spec=b.spec)&&a.state == b.state&&a.came == b.came&&a.frm == b.frm&&a.to == b.to&&decide (a.needs=b.needs)):=by
  cases a;cases b;simp [Bool.beq_eq_decide_eq];grind
 rw [he]
 refine AC.body (N:=52) [.tmp 4] Tryz.func106 rfl rfl rfl (Nat.le_of_ble_eq_true rfl) fun B hB=>?_
 refine Z50 ?_
 refine Z4z ?_
 refine Z1q ?_
 refine Z8r ?_
 refine qn 4 (.bool (a.id == b.id&&decide (a.spec=b.spec)&&a.state == b.state&&a.came == b.came&&a.frm == b.frm&&a.to == b.to&&decide (a.needs=b.needs))) ?_ ?_
 ·refine Z7h ?_
  refine Z44 ?_
  refine qb rfl rfl (fun hg5=>?_) (fun hg5=>?_)
  ·refine Z38 ?_
   refine Z5v ?_
   refine Z38 ?_
   refine Z5v ?_
   refine q2n rfl rfl (by decide) (qw9 (us:=qt1 a.spec) (vs:=qt1 b.spec) rfl rfl rfl rfl Y1e (qon _ _)) ?_
   refine Z3b ?_
   refine qb rfl rfl (fun hg12=>?_) (fun hg12=>?_)
   ·refine Z96 ?_
    refine qb rfl rfl (fun hg19=>?_) (fun hg19=>?_)
    ·refine Z96 ?_
     refine qb rfl rfl (fun hg26=>?_) (fun hg26=>?_)
     ·refine Z96 ?_
      refine qb rfl rfl (fun hg33=>?_) (fun hg33=>?_)
      ·refine Z96 ?_
       refine qb rfl rfl (fun hg40=>?_) (fun hg40=>?_)
       ·refine Z97 ?_
        refine q5b rfl rfl (by decide) (V2.call (q6b a.needs b.needs _ (by omega)) rfl) ?_
        refine Zn ?_
        exact Z98
       ·refine Z5o ?_
        exact Z98
      ·refine Zq ?_
       exact Z9a
     ·refine Zq ?_
      refine Z61 ?_
      exact Z9a
    ·refine Z9c ?_
     exact Z9a
   ·refine Z9c ?_
    refine Z61 ?_
    exact Z9a
  ·refine Z9c ?_
   refine Z9b ?_
   exact Z9a
 exact Z22
end Go.Av
namespace Go.Av
structure Know where
 g:Nat
 tab:List Value
def Kn (K:Know) (S:List Slot) (w:World):Prop:=¬ own S K.g∧K.g<w.heap.size∧(∀ j v,K.tab[j]?=some v→w.cell? ⟨K.g,j,none⟩=some v)∧∃ ty fz,w.heap[K.g]?=some (Obj.cells K.tab.toArray ty fz)
abbrev Know.av (K:Know):AV:=.know K.g K.tab
theorem VR.kn {S:List Slot} {w:World} {K:Know} {u:Value} (h:VR (own S) w S K.av u):Kn K S w:=by
 cases h with
 | know ho hg h hx=>exact ⟨ho,hg,h,hx⟩
theorem Kn.vr {S:List Slot} {w:World} {K:Know} {u:Value} (h:Kn K S w):VR (own S) w S K.av u:=.know h.1 h.2.1 h.2.2.1 h.2.2.2
def ACT (P:Program) (K:Know) (f:FuncId) (args:List AV) (H:qj) (R:AOut→qj→Prop):Prop :=
 ∀ S w cargs,Kn K S w→HRel H S w→VRs (own S) w S args cargs →
  Calls P f cargs w fun e w'=>∃ o H' S',R o H'∧OutR (own S') w' S' o e∧HRel H' S' w'∧Ext S w S' w'
section
variable {P : Program} {N : Nat} {B : Base} {env : Env} {H H0 L : qj} {ty : TypeId}
theorem V2.callT {K:Know} {f:Nat} {xs:Array Operand} {ts:Array TypeId} {v:AV} {vs:List AV} {M:qj} [FnI P f] (hac:ACT P K f vs H (Ret v M)) (hvs:xs.toList.map (aev env)=vs) (hk:get env KT=K.av) :
  V2 P N (.call { callee:=.value (.func f),args:=xs,argTypes:=ts }) ty env H v M:=by
 subst hvs
 intro dst pos after guard S a w hc next Q hn hp
 have hkn:=hc.env KT
 rw [hk] at hkn
 have hrun:(execOp a.eval ⟨dst,.call { callee:=.value (.func f),args:=xs,argTypes:=ts },ty,pos,after,guard⟩).run P w = .ok (.enter f (xs.map a.eval)) w:=by
  simp [execOp,resolve,Act.eval,Deferred.ofValue,invoke,q59 (P:=P) (f:=f)]
 unfold Oper.wp
 rw [hrun]
 refine (hac S w (xs.map a.eval) hkn.kn hc.heap (qi1 hc xs)).mono ?_
 rintro e w' ⟨out,H',S',⟨rfl,rfl⟩,hout,hh,hx⟩
 cases hout with
 | ret hv=>exact hn _ _ _ S' w' ⟨rfl,rfl⟩ hh hx hv
theorem ACT.up {K:Know} {f:FuncId} {vs us:List AV} {R:AOut→qj→Prop} (h:ACT P K f us H R) (hvs:vs.map AV.up=us):ACT P K f vs H R:=fun S w cargs hk hH hv=>h S w cargs hk hH (hvs▸hv.up)
theorem ACT.body {K:Know} {f:FuncId} {N:Nat} {fn:Func} {c:Code} {args:List AV} {R:AOut→qj→Prop} (rs:List ResultVar) (hf:P.funcs[f]?=some fn) (hb:fn.body=some c) (hr:fn.results=rs.toArray)
  (hN:fn.ntmps=N) (hn:args.length≤N) (h:∀ B,Begun B H args→AWp P N B c (Ends P B rs R) ((KT,K.av) :: params 0 args) (H++[])):ACT P K f args H R:=by
 subst hN
 simp only [List.append_nil] at h
 intro S w cargs hkn hH hv
 refine calls_of_wp hf hb ?_
 have hc:CR fn.ntmps ((KT,K.av) :: params 0 args) H S { tmps:=cargs++Array.replicate (fn.ntmps-cargs.size) undef,defers:=[] } w:=by
  refine ⟨hH,fun t=>?_,?_,rfl⟩
  ·by_cases hKT:KT=t
   ·subst hKT;rw [qv];exact hkn.vr
   rw [qk _ _ hKT,qe9,if_pos (Nat.zero_le _),Nat.sub_zero]
   by_cases ht:t<args.length
   ·have h1:args.getD t .junk=args[t]:=by simp [List.getD,ht]
    have ht':t<cargs.size:=by rw [← hv.1];exact ht
    have h2:(cargs++Array.replicate (fn.ntmps-cargs.size) undef).getD t undef=cargs[t]:=by
     simp [Array.getElem?_append_left ht',ht']
    rw [h1,h2]
    exact hv.2 t _ _ (List.getElem?_eq_getElem ht) (Array.getElem?_eq_getElem ht')
   ·have h1:args.getD t .junk = .junk:=by simp [List.getD,List.getElem?_eq_none (Nat.le_of_not_lt ht)]
    rw [h1];exact .junk
  ·have:=hv.1
   simp
   omega
 have hbg:Begun ⟨S,w⟩ H args:=by
  refine ⟨hH.len.symm,hH.bel,?_⟩
  rw [AV.bels_iff]
  intro v hv'
  obtain ⟨j,hj⟩:=List.mem_iff_getElem?.1 hv'
  rw [hH.len]
  exact (hv.2 j v _ hj (Array.getElem?_eq_getElem (by rw [← hv.1];exact (List.getElem?_eq_some_iff.1 hj).1))).bel
 refine wp_mono (h ⟨S,w⟩ hbg S _ w hc (Ext.refl S w)) ?_
 intro e a' w' ⟨x,env',H',S',q,r,c,k⟩
 cases r with
 | nrm =>
  obtain ⟨vs,M,h1,h2,h3⟩:=q
  obtain ⟨u,k1,k2⟩:=q84 c hr h1
  obtain ⟨S2,m1,m2,m3⟩:=h2.ok c.heap k2 k
  exact ⟨c.defers,u,k1,_,M,S2,h3,.ret m2,m1,m3⟩
 | ret =>
  obtain ⟨vs,M,h1,h2,h3⟩:=q
  obtain ⟨u,k1,k2⟩:=q84 c hr h1
  obtain ⟨S2,m1,m2,m3⟩:=h2.ok c.heap k2 k
  exact ⟨c.defers,u,k1,_,M,S2,h3,.ret m2,m1,m3⟩
 | brk=>exact q.elim
 | pan hv =>
  obtain ⟨M,h2,h3⟩:=q
  obtain ⟨S2,m1,m2,m3⟩:=h2.ok c.heap hv k
  exact ⟨c.defers,_,M,S2,h3,.pan m2,m1,m3⟩
theorem qjr {t e:TypeId} {x y:Operand} {g m n:Nat} {k:IntKind} {sz:Nat} {agg:Bool} [ArI P t m e] [TyI P e agg sz] (hx:aev env x = .raw (.pointer (some ⟨g,0,none⟩))) (hy:aev env y = .int k (n:Int)) (h1:n<m) :
  V1 P N (.indexAddr t x y) ty env H (.raw (.pointer (some ⟨g,n * sz,none⟩))):=by
 intro S a w hc
 have hv:=hc.ev x
 rw [hx] at hv
 generalize he:a.eval x=u at hv
 cases hv
 refine ⟨.pointer (some ⟨g,n * sz,none⟩),fun _ _ _ _=>?_,.raw⟩
 simp [execOp,he,q1v hc hy,qbe (P:=P) (t:=t) (e:=e) (sz:=sz) (agg:=agg) (n:=(n:Int)) (by omega) (by omega),q3v]
theorem qos {K:Know} {t:TypeId} {x:Operand} {g j sz:Nat} {v:AV} {u:Value} [TyI P t false sz] (hx:aev env x = .raw (.pointer (some ⟨g,j,none⟩))) (hk:get env KT=K.av) (hg:K.g=g) (hu:K.tab[j]?=some u) (hv:∀ O w S,VR O w S v u):V1 P N (.load t x) ty env H v:=by
 intro S a w hc
 have hkn:=hc.env KT
 rw [hk] at hkn
 have hcell:=hkn.kn.2.2.1 j u hu
 rw [hg] at hcell
 have h:=hc.ev x
 rw [hx] at h
 generalize he:a.eval x=y at h
 cases h
 exact ⟨u,fun _ _ _ _=>by simp [execOp,he,Instr.loadAt,Instr.sureAddr,q7p (P:=P) (t:=t) hcell],hv _ _ _⟩
end
end Go.Av
namespace Go.Av
open Go.Proofs
theorem q47 {P:Program} {N:Nat} {env:Env} {H:qj} {ty:TypeId} {t e:TypeId} {x y:Operand} {id g i j m n:Nat} {k:IntKind} {sz:Nat} {agg:Bool} {o:AObj} [ArI P t m e] [TyI P e agg sz] (hx:aev env x = .pt id g i j) (hid:H[id]?=some o) (hg:o.gen=g)
  (hy:aev env y = .int k (n:Int)) (h1:n<m):V1 P N (.indexAddr t x y) ty env H (.pt id g i (j+n * sz)):=qof (agg:=agg) (e:=e) hx hid hg hy (by omega) (by omega)
theorem p64 {k:Nat} (h:k<64):2 ^ k<18446744073709551616:=Nat.pow_lt_pow_right (a:=2) (n:=64) (by decide) h
def KD:Know:=⟨0,Lib.deBruijn64tab.map fun n:Nat=>Value.int .u8 (n:Int)⟩
theorem qz6 {q k:Nat} (hi:q<64) (h:Lib.deBruijn64tab.getD q 0=k):KD.tab[q]?=some (.int .u8 (k:Int)):=by
 have hlen:Lib.deBruijn64tab.length=64:=rfl
 unfold KD
 dsimp only
 generalize Lib.deBruijn64tab=l at h hlen
 rw [List.getElem?_map]
 cases hq:l[q]? with
 | none=>rw [List.getElem?_eq_none_iff] at hq;omega
 | some v =>
  rw [List.getD_eq_getElem?_getD,hq] at h
  subst h
  rfl
theorem qxn (x:Nat) (hx:x<18446744073709551616) (H:qj):ACT Tryz.prog KD 179 [.int .u64 (x:Int)] H (Ret (.int .i64 ((Lib.ctz 64 x:Nat):Int)) H):=by
 refine ACT.body (N:=14) [.tmp 2] Tryz.func179 rfl rfl rfl (Nat.le_of_ble_eq_true rfl) fun B hB=>?_
 refine Z2m ?_
 refine Z17 ?_
 refine qa rfl (fun hc=>?_) (fun hc=>?_)
 ·refine Z10 ?_
  rw [show Lib.ctz 64 x=64 by simp at hc;simp [Lib.ctz,hc]]
  exact Zb
 ·have hx0:x≠0:=by simp at hc;omega
  obtain ⟨hlow,hk⟩:=Lib.lowest_bit 64 x hx0 hx
  generalize Lib.ctz 64 x=k at hlow hk
  obtain ⟨hi,htab⟩:=Lib.deBruijn64_at k hk
  have hlt:2 ^ k<18446744073709551616:=p64 hk
  generalize hm:2 ^ k=m at hlow hi htab hlt
  generalize hq:m * 285870213051353865 % 18446744073709551616 / 288230376151711744=q at hi htab
  have hu:=qz6 hi htab
  refine Z2t ?_
  refine ao1 (by decide) (qyv (r:=((18446744073709551616-x:Nat):Int)) rfl Yq) ?_
  refine ao1 (by decide) (qu1 (r:=(m:Int)) rfl rfl (by rw [qfz x _ hx (by omega)];rw [show (18446744073709551616:Nat)=2 ^ 64 from rfl,hlow])) ?_
  refine ao1 (by decide) (qy5 (r:=((m * 285870213051353865 % 18446744073709551616:Nat):Int)) rfl rfl Yq) ?_
  refine ao1 (by decide) (qxx (r:=(q:Int)) rfl rfl (by omega) (by rw [← hq,show ((2:Int) ^ min (58:Int).toNat IntKind.u64.bits)=((288230376151711744:Nat):Int) from rfl,Int.fdiv_eq_ediv_of_nonneg _ (by omega)];exact (Int.natCast_ediv _ _).symm)) ?_
  refine ao1 (by decide) (qjr (n:=q) rfl rfl (by omega)) ?_
  refine ao1 (by decide) (qos (K:=KD) (v:=.int .u8 (k:Int)) rfl rfl rfl (by rw [Nat.mul_one];exact hu) (fun _ _ _=>.int)) ?_
  refine ao1 (by decide) (q5h (r:=(k:Int)) rfl (q1b (by omega) (by omega))) ?_
  exact Zc
abbrev q3u (i:Int):List AV:=[.int .i64 i]
theorem q1y (n:Nat) (l:List Int):∀ r∈l.map q3u,AV.bels n r=true:=q83 (e:=q3u) (fun _=>rfl) l
theorem qv6 (l:List Int):∀ r∈l.map q3u,r.length=1:=q85 (e:=q3u) (n:=1) (fun _=>rfl) l
theorem qg7 (n:Nat) (w:Nat→Nat):AV.bels n (eWn w)=true:=by rw [AV.bels_iff];intro v hv;simp only [eWn,List.mem_map] at hv;obtain ⟨i,_,rfl⟩:=hv;rfl
theorem q60 (w:Nat→Nat):(eWn w).length=4:=by simp [eWn]
theorem eW0 (l:List Int):eWn (wd (q4r l 0))=[.int .u64 0,.int .u64 0,.int .u64 0,.int .u64 0]:=by
 rw [qq2];simp [eWn,qx9,List.range_succ]
def pof (l:List Int):Nat→Nat:=wd (q4r l (okn l))
theorem qxp (l:List Int) (hl:l.length≤9223372036854775807) (H:qj):AC Tryz.prog 132 [.pl (l.map q3u)] H (Ret (.tup [.agg (eWn (pof l)),.bool (sok l)]) H):=by
 refine AC.body (N:=34) [.cell 2 111,.tmp 3] Tryz.func132 rfl rfl rfl (Nat.le_of_ble_eq_true rfl) fun B hB=>?_
 refine Z2 ?_
 refine Z9d ?_
 refine Z1q ?_
 refine Z9e ?_
 refine Z2 ?_
 refine Z9d ?_
 refine qf ?_
 try dsimp only [put,List.length_cons,List.length_nil,Nat.reduceAdd,List.cons_append,List.nil_append]
 refine Z9i ?_
 refine qm (G:=Nat) (fun k=>k≤l.length∧∀ i,i<k→okB l i=true) (fun k=>[(2,.pt (Lid H.length 0) 0 0 0),(4,.pt (Lid H.length 1) 0 0 0),(5,.int .i64 (qsv l k)),(8,.pl (l.map q3u)),(9,.int .i64 (l.length:Int)),(10,.int .i64 (k:Int))]) (fun k=>H++[⟨0,4,[[.int .u64 0,.int .u64 0,.int .u64 0,.int .u64 0]]⟩,⟨0,4,[eWn (wd (q4r l k))]⟩]) (fun k=>l.length-k) 0 ⟨Nat.zero_le _,fun i hi=>by omega⟩ Y6 (.inl (by rw [eW0])) ?_
 rintro k ⟨hk,hno⟩
 refine Z5a ?_
 refine qa rfl (fun hc=>?_) (fun hc=>?_)
 ·have hlt:k<l.length:=by simpa using hc
  obtain ⟨x,hx,hxl⟩:=qo hlt
  have hr:=qh q3u hx
  have hok:=qum hx hno
  refine Z5e ?_
  refine Za ?_
  refine qn 20 (.bool (!okB l k)) ?_ ?_
  ·refine Z30 ?_
   refine Zi ?_
   refine qb rfl rfl (fun hg3=>?_) (fun hg3=>?_)
   ·refine Z9j ?_
    exact Z5h
   ·refine Z9k ?_
    refine Zr ?_
    exact Z5i
  refine Z1 ?_
  refine qa rfl (fun hc=>?_) (fun hc=>?_)
  ·refine Z4c ?_
   refine Z9m ?_
   refine Z9n ?_
   refine Z1 ?_
   rw [qj1 hlt Y19,show wd (q4r l k)=pof l by rw [pof,qxv hlt hno Y19]]
   exact Z9o
  ·have hokk:okB l k=true:=by simpa using hc
   obtain ⟨h0,h256⟩:=q7i hx hokk
   obtain ⟨n,rfl⟩:∃ n:Nat,x=n:=⟨x.toNat,by omega⟩
   have hn4:n / 64<4:=by omega
   have hp:2 ^ (n % 64)<18446744073709551616:=p64 (by omega)
   have hcell:(eWn (wd (q4r l k)))[0+n / 64 * 1]?=some (.int .u64 ((wd (q4r l k) (n / 64):Nat):Int)):=by rw [Nat.zero_add,Nat.mul_one];exact q7e _ hn4
   have hlast:qsv l (k+1)=(n:Int):=by rw [qsv,if_neg (by omega),Nat.add_sub_cancel,hx];rfl
   have q4s:(eWn (wd (q4r l k))).take (0+n / 64 * 1)++[AV.int .u64 ((wd (q4r l k) (n / 64) ||| 2 ^ (n % 64):Nat):Int)]++(eWn (wd (q4r l k))).drop (0+n / 64 * 1+1)=eWn (wd (q4r l (k+1))):=by
    rw [Nat.zero_add,Nat.mul_one,qr4 _ hn4,qsg hx]
    refine qcf fun j _=>?_
    rw [qxo]
    split<;>simp_all
   refine Z1w ?_
   refine qm8 mixed (some 9) 1 ?_
   refine Z9p ?_
   refine aq0 1 rfl Y17 (by decide) (fun _=>qza (r:=((n / 64:Nat):Int)) rfl rfl (by omega) (q1b (n:=((n / 64:Nat):Int)) (by omega) (by omega))) ?_
   refine aqr 2 rfl Y17 (by decide) (fun G hG=>q47 rfl (lk rfl hG) rfl rfl hn4) ?_
   refine aqr 3 rfl Y17 (by decide) (fun G hG=>qi (v:=.int .u64 _) rfl (lk rfl hG) rfl rfl hcell) ?_
   refine Z1k ?_
   refine aq0 5 rfl Y17 (by decide) (fun _=>qzd (r:=((n % 64:Nat):Int)) rfl rfl (by omega) rfl) ?_
   refine aq0 6 rfl Y17 (by decide) (fun _=>qyx (r:=((2 ^ (n % 64):Nat):Int)) rfl rfl (by omega) (by rw [show min ((n % 64:Nat):Int).toNat IntKind.u64.bits=n % 64 by show min (n % 64) 64=_;omega,Int.one_mul];rw [show ((2:Int) ^ (n % 64))=((2 ^ (n % 64):Nat):Int) by simp];exact qbq _ hp)) ?_
   refine aq0 7 rfl Y17 (by decide) (fun _=>o_or (r:=((wd (q4r l k) (n / 64) ||| 2 ^ (n % 64):Nat):Int)) rfl rfl (qw0 _ _ (qbi _ _) hp)) ?_
   refine aqr 8 rfl Y17 (by decide) (fun G hG=>q47 rfl (lk rfl hG) rfl rfl hn4) ?_
   refine aqs 9 rfl Y17 Yr Y1b (q25 (sz:=1) (v:=.int .u64 _) (r':=eWn (wd (q4r l (k+1)))) rfl rfl rfl rfl rfl rfl rfl rfl (by show _≤4;omega) q4s) ?_
   refine Z9q ?_
   refine Z88 ?_
   refine Z5l ?_
   refine ⟨k+1,by omega,⟨by omega,fun i hi=>?_⟩,by rw [hlast];exact Y6,.refl _ _⟩
   rcases Nat.lt_or_eq_of_le (Nat.le_of_lt_succ hi) with h | h
   ·exact hno i h
   ·subst h;exact hokk
 ·have:k=l.length:=by simp at hc;omega
  subst this
  refine Z4c ?_
  refine Z9m ?_
  refine Z9n ?_
  refine Z1 ?_
  rw [qgo hno,show wd (q4r l l.length)=pof l by rw [pof,qa6 hno]]
  exact Z9o
end Go.Av
namespace Go.Av
def qym (H0 L0:qj) (k1 k2:Nat) (H:qj):Prop:=∃ G:qj,H=H0++G∧G[k1]?=L0[k1]?∧G[k2]?=L0[k2]?
section
variable {P : Program} {N : Nat} {B : Base} {ops : Array Oper} {a : Option Nat} {C : qj → Prop} {F : Env → qj → Prop} {Q : q77}
variable {fuel : Nat} {listed : Array Bool} {env : Env} {H H0 L : qj} {op : Op} {ty : TypeId} {pos : String} {after : Array Edge} {v : AV} {id : Nat} {l : List Oper}
theorem qtt (hm:P.follows .mixedOrders=true) (a:Option Nat) (k1 k2:Nat) (h:AAny P N B l.toArray a (qym H0 L k1 k2) (Q .nrm) l.length (Array.replicate l.length false) env (H0++L)):AWp P N B (.region id l.toArray true) Q env (H0++L):=qh2 hm a _ h
theorem qyh {d k1 k2:Nat} {L0:qj} (i:Nat) (hi:ops[i]?=some ⟨some d,op,ty,pos,after,none⟩) (hB:q5u ops listed a i=true) (hd:DN d N) (h1:∀ G:qj,G[k1]?=L0[k1]?→G[k2]?=L0[k2]?→V1 P N op ty (renv ⟨some d,op,ty,pos,after,none⟩ env) (H0++G) v)
  (h:AAny P N B ops a (qym H0 L0 k1 k2) F fuel (listed.setIfInBounds i true) ((d,v) :: env) H):AAny P N B ops a (qym H0 L0 k1 k2) F (fuel+1) listed env H :=
 aq1 i hi hB hd (by rintro _ ⟨G,rfl,hG1,hG2⟩;exact h1 G hG1 hG2) h
end
end Go.Av
namespace Go.Av
open Go.Proofs
theorem qxm {l:List Int} (h:sok l=true):∀ k:Nat,k<l.length→(k:Int)≤l.getD k 0:=by
 intro k
 induction k with
 | zero =>
  intro hk
  have hm:l[0]?=some l[0]:=List.getElem?_eq_getElem hk
  have:=q7i hm (q63 h hk)
  simp only [List.getD_eq_getElem?_getD,hm,Option.getD_some]
  omega
 | succ k ih =>
  intro hk
  have hm:l[k+1]?=some l[k+1]:=List.getElem?_eq_getElem hk
  have hm0:l[k]?=some l[k]:=List.getElem?_eq_getElem (by omega)
  have h1:=q63 h hk
  rw [qac hm] at h1
  have ih:=ih (by omega)
  simp only [List.getD_eq_getElem?_getD,hm0,hm,Option.getD_some] at ih ⊢
  simp only [Nat.add_sub_cancel,hm0,Bool.and_eq_true,Bool.or_eq_true,decide_eq_true_eq,beq_iff_eq] at h1
  omega
theorem qwo {l:List Int} (h:sok l=true):l.length≤256:=by
 rcases Nat.lt_or_ge 256 l.length with hl | hl
 ·have h1:=qxm h 256 hl
  have hm:l[256]?=some l[256]:=List.getElem?_eq_getElem hl
  have:=q7i hm (q63 h hl)
  simp only [List.getD_eq_getElem?_getD,hm,Option.getD_some] at h1
  omega
 ·exact hl
theorem qvu {l:List Int} (h:sok l=true):pof l=wd (inl l):=by
 rw [pof,qa6 fun i hi=>q63 h hi,q9q]
theorem qi9 (l:List Int) (hl:l.length≤9223372036854775807) (H:qj):AC Tryz.prog 91 [.pl (l.map q3u)] H (Ret (.bool (sok l)) H):=by
 refine AC.body (N:=11) [.tmp 2] Tryz.func91 rfl rfl rfl (Nat.le_of_ble_eq_true rfl) fun B hB=>?_
 refine Z1r ?_
 refine Z4o ?_
 refine Z9r ?_
 refine Z9u ?_
 refine Z9d ?_
 refine Z9m ?_
 refine Z9v ?_
 refine Z2w ?_
 exact Z1t
theorem qtc (a b:List Int) (ha:a.length≤9223372036854775807) (hb:b.length≤9223372036854775807) (H:qj):AC Tryz.prog 79 [.pl (a.map q3u),.pl (b.map q3u)] H (Ret (.tup [.agg (eWn (pof a)),.agg (eWn (pof b)),.bool (sok a&&sok b)]) H):=by
 refine AC.body (N:=27) [.cell 4 111,.cell 5 111,.tmp 6] Tryz.func79 rfl rfl rfl (Nat.le_of_ble_eq_true rfl) fun B hB=>?_
 refine Z2 ?_
 refine Z9d ?_
 refine Z9d ?_
 refine Z1q ?_
 try dsimp only [List.length_nil,put,List.nil_append,List.length_cons,Nat.reduceAdd,List.cons_append]
 refine Z4o ?_
 refine Z9r ?_
 refine Z9u ?_
 refine Z9d ?_
 refine Z9m ?_
 refine Z9w ?_
 refine Z4o ?_
 refine Z9r ?_
 refine Z9u ?_
 refine Z9d ?_
 refine Z9m ?_
 refine Z9w ?_
 have hbel:∀ n:Nat,(AV.tup [.agg (eWn (pof a)),.agg (eWn (pof b)),.bool (sok a&&sok b)]).bel n=true:=by intro n;simp [AV.bel,AV.bels,qg7]
 refine Z1 ?_
 refine Z9x ?_
 refine qyh 0 rfl Y17 (by decide) (fun G hG1 hG2=>q2h rfl (lk rfl hG1) rfl rfl (q60 _)) ?_
 refine qyh 1 rfl Y17 (by decide) (fun G hG1 hG2=>q2h rfl (lk rfl hG2) rfl rfl (q60 _)) ?_
 refine Z9y ?_
 refine Z9z ?_
 refine qp (g:=24) rfl (fun hg3=>?_) (fun hg3=>?_)
 ·refine q1h (g:=24) 4 rfl Y17 (by decide) rfl rfl (fun _=>qd (v:=.bool _) rfl) ?_
  refine aq0 5 rfl Y17 (by decide) (fun _=>q16 (v:=.bool _) rfl rfl) ?_
  refine Za0 ?_
  refine Za1 ?_
  refine Za2 ?_
  refine Za3 ?_
  refine Z89 ?_
  rw [hg3] at hbel ⊢
  exact Za4
 ·refine qr (g:=24) 4 rfl Y17 (by decide) rfl rfl rfl ?_
  refine aq0 5 rfl Y17 (by decide) (fun _=>q17 (v:=.bool _) rfl rfl) ?_
  refine Za0 ?_
  refine Za1 ?_
  refine Za2 ?_
  refine Za3 ?_
  refine Z89 ?_
  rw [hg3] at hbel ⊢
  exact Za4
theorem qeq (f:Nat→Bool):((List.range 4).all fun k=>wd f k == 0)=decide (qdz f=[]):=by
 rw [Bool.eq_iff_iff,List.all_eq_true,decide_eq_true_eq,qdz,List.map_eq_nil_iff,List.filter_eq_nil_iff]
 simp only [List.mem_range,beq_iff_eq,qp6]
 constructor
 ·intro h n hn
  have:=h (n / 64) (by omega) (n % 64) (by omega)
  rw [show 64 * (n / 64)+n % 64=n by omega] at this
  simp [this]
 ·intro h k hk j hj
  have:=h (64 * k+j) (by omega)
  simpa using this
theorem q4y {p:Nat→Bool} (k:Nat):(List.range (k+1)).all p=((List.range k).all p&&p k):=by
 rw [List.range_succ,List.all_append];simp
theorem qvc (a b:List Int) (ha:a.length≤9223372036854775807) (hb:b.length≤9223372036854775807) (H:qj):AC Tryz.prog 28 [.pl (a.map q3u),.pl (b.map q3u)] H (Ret (.bool (q2u a b)) H):=by
 refine AC.body (N:=32) [.tmp 4] Tryz.func28 rfl rfl rfl (Nat.le_of_ble_eq_true rfl) fun B hB=>?_
 refine Z1r ?_
 refine Za5 ?_
 refine Za6 ?_
 refine Z9t ?_
 refine Z9s ?_
 refine Z8f ?_
 refine Z9d ?_
 refine Z9d ?_
 refine Z9l ?_
 refine Z9m ?_
 refine Za7 ?_
 refine Z12 ?_
 refine qf ?_
 refine Z1d ?_
 refine qm (G:=Nat) (fun k=>k≤4) (fun k=>[(5,.pt (Lid H.length 0) 0 0 0),(6,.pt (Lid H.length 1) 0 0 0),(7,.bool (sok a&&sok b&&(List.range k).all fun i=>wd (fun n=>q4r a (okn a) n&&!q4r b (okn b) n) i == 0)),(16,.int .i64 (k:Int))]) (fun _=>H++[⟨0,4,[eWn (pof a)]⟩,⟨0,4,[eWn (pof b)]⟩]) (fun k=>4-k) 0 (Nat.zero_le _) (by simp only [List.range_zero,List.all_nil,Bool.and_true];exact Y6) (Fit.refl _ _) ?_
 intro k hk
 refine Z5a ?_
 refine qa rfl (fun hc=>?_) (fun hc=>?_)
 ·have hk4:k<4:=by simp at hc;omega
  have hx:(eWn (pof a))[0+k * 1]?=some (.int .u64 ((wd (q4r a (okn a)) k:Nat):Int)):=by rw [Nat.zero_add,Nat.mul_one];exact q7e _ hk4
  have hy:(eWn (pof b))[0+k * 1]?=some (.int .u64 ((wd (q4r b (okn b)) k:Nat):Int)):=by rw [Nat.zero_add,Nat.mul_one];exact q7e _ hk4
  refine Z1w ?_
  refine q1l 7 (.bool (sok a&&sok b&&(List.range (k+1)).all fun i=>wd (fun n=>q4r a (okn a) n&&!q4r b (okn b) n) i == 0)) ?_ ?_
  ·refine Zaa ?_
   refine Zab ?_
   refine Zac ?_
   refine qp (g:=20) rfl (fun hg1=>?_) (fun hg1=>?_)
   ·refine Zad ?_
    refine Zae ?_
    refine Zaf ?_
    refine Zag ?_
    refine Zah ?_
    refine Zai ?_
    refine q1h (g:=20) 8 rfl Y17 (by decide) rfl rfl (fun _=>qn8 (r:=((wd (fun n=>q4r a (okn a) n&&!q4r b (okn b) n) k:Nat):Int)) rfl rfl (qf1 _ _ _)) ?_
    refine Zaj ?_
    refine Zak ?_
    refine Zal ?_
    exact q1i Y17 Yv (Out.mk (by (refine congrArg AV.bool ?_;(rw [q4y];generalize ((List.range k).all fun i=>wd (fun n=>q4r a (okn a) n&&!q4r b (okn b) n) i == 0)=q at *;generalize wd (fun n=>q4r a (okn a) n&&!q4r b (okn b) n) k=m at *;rw [← Bool.and_assoc];grind))) Yb)
   ·refine Zam ?_
    refine Zan ?_
    refine Zao ?_
    refine Zap ?_
    refine Zaq ?_
    refine Zas ?_
    refine Zat ?_
    refine Zal ?_
    exact q1i Y17 Yv (Out.mk (by (refine congrArg AV.bool ?_;(rw [q4y];generalize ((List.range k).all fun i=>wd (fun n=>q4r a (okn a) n&&!q4r b (okn b) n) i == 0)=q at *;generalize wd (fun n=>q4r a (okn a) n&&!q4r b (okn b) n) k=m at *;rw [← Bool.and_assoc];(simp_all;done)))) Yb)
  refine Z5l ?_
  exact ⟨k+1,by omega,by omega,Y6,.refl _ _⟩
 ·have:k=4:=by simp at hc;omega
  subst this
  rw [qeq]
  refine Z2w ?_
  refine Ze ?_
  rw [show (sok a&&sok b&&decide (qdz (fun n=>q4r a (okn a) n&&!q4r b (okn b) n)=[]))=q2u a b by
   unfold q2u
   cases h1:sok a with
   | false=>simp
   | true =>
    cases h2:sok b with
    | false=>simp
    | true=>rw [qa6 fun i hi=>q63 h1 hi,qa6 fun i hi=>q63 h2 hi,q9q,q9q]]
  exact Zb
theorem qr9 (a b:List Int) (ha:a.length≤9223372036854775807) (hb:b.length≤9223372036854775807) (H:qj):AC Tryz.prog 166 [.pl (a.map q3u),.pl (b.map q3u)] H (Ret (.bool (qb2 a b)) H):=by
 refine AC.body (N:=32) [.tmp 4] Tryz.func166 rfl rfl rfl (Nat.le_of_ble_eq_true rfl) fun B hB=>?_
 refine Z1r ?_
 refine Za5 ?_
 refine Za6 ?_
 refine Z9t ?_
 refine Z9s ?_
 refine Z8f ?_
 refine Z9d ?_
 refine Z9d ?_
 refine Z9l ?_
 refine Z9m ?_
 refine Za7 ?_
 refine Z12 ?_
 refine qf ?_
 refine Z1d ?_
 refine qm (G:=Nat) (fun k=>k≤4) (fun k=>[(5,.pt (Lid H.length 0) 0 0 0),(6,.pt (Lid H.length 1) 0 0 0),(7,.bool (sok a&&sok b&&(List.range k).all fun i=>wd (fun n=>q4r a (okn a) n&&q4r b (okn b) n) i == 0)),(16,.int .i64 (k:Int))]) (fun _=>H++[⟨0,4,[eWn (pof a)]⟩,⟨0,4,[eWn (pof b)]⟩]) (fun k=>4-k) 0 (Nat.zero_le _) (by simp only [List.range_zero,List.all_nil,Bool.and_true];exact Y6) (Fit.refl _ _) ?_
 intro k hk
 refine Z5a ?_
 refine qa rfl (fun hc=>?_) (fun hc=>?_)
 ·have hk4:k<4:=by simp at hc;omega
  have hx:(eWn (pof a))[0+k * 1]?=some (.int .u64 ((wd (q4r a (okn a)) k:Nat):Int)):=by rw [Nat.zero_add,Nat.mul_one];exact q7e _ hk4
  have hy:(eWn (pof b))[0+k * 1]?=some (.int .u64 ((wd (q4r b (okn b)) k:Nat):Int)):=by rw [Nat.zero_add,Nat.mul_one];exact q7e _ hk4
  refine Z1w ?_
  refine q1l 7 (.bool (sok a&&sok b&&(List.range (k+1)).all fun i=>wd (fun n=>q4r a (okn a) n&&q4r b (okn b) n) i == 0)) ?_ ?_
  ·refine Zaa ?_
   refine Zab ?_
   refine Zac ?_
   refine qp (g:=20) rfl (fun hg1=>?_) (fun hg1=>?_)
   ·refine Zad ?_
    refine Zae ?_
    refine Zaf ?_
    refine Zag ?_
    refine Zah ?_
    refine Zai ?_
    refine q1h (g:=20) 8 rfl Y17 (by decide) rfl rfl (fun _=>qu1 (r:=((wd (fun n=>q4r a (okn a) n&&q4r b (okn b) n) k:Nat):Int)) rfl rfl (by rw [qfz _ _ (qbi _ _) (qbi _ _),qw4])) ?_
    refine Zaj ?_
    refine Zak ?_
    refine Zal ?_
    exact q1i Y17 Yv (Out.mk (by (refine congrArg AV.bool ?_;(rw [q4y];generalize ((List.range k).all fun i=>wd (fun n=>q4r a (okn a) n&&q4r b (okn b) n) i == 0)=q at *;generalize wd (fun n=>q4r a (okn a) n&&q4r b (okn b) n) k=m at *;rw [← Bool.and_assoc];grind))) Yb)
   ·refine Zam ?_
    refine Zan ?_
    refine Zao ?_
    refine Zap ?_
    refine Zaq ?_
    refine Zas ?_
    refine Zat ?_
    refine Zal ?_
    exact q1i Y17 Yv (Out.mk (by (refine congrArg AV.bool ?_;(rw [q4y];generalize ((List.range k).all fun i=>wd (fun n=>q4r a (okn a) n&&q4r b (okn b) n) i == 0)=q at *;generalize wd (fun n=>q4r a (okn a) n&&q4r b (okn b) n) k=m at *;rw [← Bool.and_assoc];(simp_all;done)))) Yb)
  refine Z5l ?_
  exact ⟨k+1,by omega,by omega,Y6,.refl _ _⟩
 ·have:k=4:=by simp at hc;omega
  subst this
  rw [qeq]
  refine Z2w ?_
  refine Ze ?_
  rw [show (sok a&&sok b&&decide (qdz (fun n=>q4r a (okn a) n&&q4r b (okn b) n)=[]))=qb2 a b by
   unfold qb2
   cases h1:sok a with
   | false=>simp
   | true =>
    cases h2:sok b with
    | false=>simp
    | true=>rw [qa6 fun i hi=>q63 h1 hi,qa6 fun i hi=>q63 h2 hi,q9q,q9q]]
  exact Zb
structure LS where
 acc:List Int
 x:Nat
set_option maxHeartbeats 0 in
theorem qpb (f:Nat→Bool) (H:qj):ACT Tryz.prog KD 143 [.agg (eWn (wd f))] H (Ret (.pl ((qdz f).map q3u)) H):=by
 have hbel:∀ (n:Nat) (g m:Nat) (l:List Int),∀ o∈[AObj.mk 0 4 [eWn (wd f)],AObj.mk g 1 (l.map q3u)],∀ r∈o.rows,AV.bels n r=true:=by
  intro n g m l o ho r hr
  simp only [List.mem_cons,List.not_mem_nil,or_false] at ho
  rcases ho with rfl | rfl
  ·simp only [List.mem_singleton] at hr;subst hr;exact qg7 _ _
  ·exact q1y _ _ r hr
 refine ACT.body (N:=27) [.tmp 2] Tryz.func143 rfl rfl rfl (Nat.le_of_ble_eq_true rfl) fun B hB=>?_
 refine Z2 ?_
 refine ao2 Y11 (qcc (sz:=4) (v:=.agg _) rfl rfl rfl (q60 _) (by decide) rfl) ?_
 refine Zav ?_
 refine Z4s ?_
 refine Zaw ?_
 refine q1k ?_
 refine Zax ?_
 refine Z9f ?_
 refine Zay ?_
 refine Z1d ?_
 refine qm (G:=Nat) (fun i=>i≤4) (fun i=>[(KT,KD.av),(3,.sl (Lid H.length 1) (qo5 f i).length 0 (qo5 f i).length (qo5 f i).length),(6,.agg (eWn (wd f))),(7,.int .i64 (i:Int))]) (fun i=>H++[⟨0,4,[eWn (wd f)]⟩,⟨(qo5 f i).length,1,(qo5 f i).map q3u⟩]) (fun i=>4-i) 0 (Nat.zero_le _) Y6 (Fit.refl _ _) ?_
 intro i hi
 refine Z5a ?_
 refine qa rfl (fun hc=>?_) (fun hc=>?_)
 ·have hi4:i<4:=by simp at hc;omega
  have hcell:(eWn (wd f))[((i:Nat):Int).toNat * 1]?=some (.int .u64 ((wd f i:Nat):Int)):=by show (eWn (wd f))[i * 1]?=_;rw [Nat.mul_one];exact q7e _ hi4
  have hstep:=qqj f i
  have hslen:=qll f (i+1)
  refine Z12 ?_
  refine ao1 (by decide) (qmy (sz:=1) (v:=.int .u64 _) rfl rfl (by omega) (by omega) hcell) ?_
  refine Z16 ?_
  refine Z1d ?_
  refine qm (G:=LS) (fun s=>s.x<18446744073709551616∧s.acc++(bl s.x).map (fun j:Nat=>((64 * i+j:Nat):Int))=qo5 f (i+1)) (fun s=>[(KT,KD.av),(3,.sl (Lid H.length 1) s.acc.length 0 s.acc.length s.acc.length),(4,.int .i64 (i:Int)),(5,.int .u64 (s.x:Int)),(6,.agg (eWn (wd f))),(7,.int .i64 (i:Int))]) (fun s=>H++[⟨0,4,[eWn (wd f)]⟩,⟨s.acc.length,1,s.acc.map q3u⟩]) (fun s=>s.x) ⟨qo5 f i,wd f i⟩ ⟨qbi f i,hstep.symm⟩ Y6 (Fit.refl _ _) ?_
  rintro ⟨acc,x⟩ ⟨hx64,hacc⟩
  simp only at hx64 hacc ⊢
  have hal:acc.length≤256:=by
   have:=congrArg List.length hacc
   rw [List.length_append] at this
   omega
  refine Zaz ?_
  refine qa rfl (fun hc=>?_) (fun hc=>?_)
  ·have hx0:x≠0:=by simp at hc;omega
   have hb:=qwt hx0 hx64
   have hlt:=qle hx0
   obtain ⟨hk,_⟩:=qpr hx0 hx64
   refine Zb2 ?_
   refine ao1 (by decide) (qy5 (r:=((64 * i:Nat):Int)) rfl rfl (by rw [show (64:Int) * (i:Int)=((64 * i:Nat):Int) by omega];exact q1b (by omega) (by omega))) ?_
   refine Z8 ?_
   refine ao2 Y11 (V2.callT (qxn x hx64 _) rfl rfl) ?_
   refine ao1 (by decide) (q5y (r:=((64 * i+Lib.ctz 64 x:Nat):Int)) rfl rfl (by rw [show ((64 * i:Nat):Int)+((Lib.ctz 64 x:Nat):Int)=((64 * i+Lib.ctz 64 x:Nat):Int) by omega];exact q1b (by omega) (by omega))) ?_
   refine Zb8 ?_
   rw [show (acc.map q3u).take acc.length=acc.map q3u from List.take_of_length_le (by simp)]
   refine Z2t ?_
   refine ao1 (by decide) (q5p (r:=((x-1:Nat):Int)) rfl rfl (qtp x hx0 hx64)) ?_
   refine ao1 (by decide) (qu1 (r:=((x &&& (x-1):Nat):Int)) rfl rfl (qfz _ _ hx64 (by omega))) ?_
   refine Za ?_
   refine ⟨⟨acc++[((64 * i+Lib.ctz 64 x:Nat):Int)],x &&& (x-1)⟩,hlt,⟨by simp only;omega,?_⟩,by simp only [List.length_append,List.length_cons,List.length_nil];exact Y6,Fit.loc hB (by simp only [List.length_append,List.length_cons,List.length_nil,List.map_append,List.map_cons,List.map_nil];rfl) Y1 (hbel _ _ 0 _)⟩
   simp only
   rw [← hacc,hb,List.map_cons,List.append_assoc]
   rfl
  ·have hx0:x=0:=by simp at hc;omega
   subst hx0
   rw [qx3,List.map_nil,List.append_nil] at hacc
   subst hacc
   refine Z5l ?_
   exact ⟨i+1,by omega,by omega,Y6,Fit.refl _ _⟩
 ·have:i=4:=by simp at hc;omega
  subst this
  rw [qqg]
  refine Zba ?_
  refine qu (ys:=(qdz f).map q3u) 2 rfl rfl rfl rfl Yg (by simp) (q1y 0 _) ?_
  exact Zbb
theorem qoa (f g:Nat→Bool) (k:Nat) (H:qj):AC Tryz.prog 133 [.int .u64 (wd f k:Int),.int .u64 (wd g k:Int)] H (Ret (.int .u64 ((wd (fun n=>f n||g n) k:Nat):Int)) H):=by
 refine AC.body (N:=8) [.tmp 4] Tryz.func133 rfl rfl rfl (Nat.le_of_ble_eq_true rfl) fun B hB=>?_
 refine Z5 ?_
 refine Z2t ?_
 refine ao1 (by decide) (o_or (r:=((wd (fun n=>f n||g n) k:Nat):Int)) rfl rfl (by rw [qw0 _ _ (qbi _ _) (qbi _ _),qzg])) ?_
 exact Zc
theorem qo7 (f g:Nat→Bool) (k:Nat) (H:qj):AC Tryz.prog 90 [.int .u64 (wd f k:Int),.int .u64 (wd g k:Int)] H (Ret (.int .u64 ((wd (fun n=>f n&&!g n) k:Nat):Int)) H):=by
 refine AC.body (N:=8) [.tmp 4] Tryz.func90 rfl rfl rfl (Nat.le_of_ble_eq_true rfl) fun B hB=>?_
 refine Z5 ?_
 refine Z2t ?_
 refine ao1 (by decide) (qn8 (r:=((wd (fun n=>f n&&!g n) k:Nat):Int)) rfl rfl (qf1 _ _ _)) ?_
 exact Zc
set_option maxHeartbeats 0 in
theorem qkg (g:Nat) [FnI Tryz.prog g] (op:Bool→Bool→Bool) (hdo:∀ (f h:Nat→Bool) (k:Nat) (H:qj),AC Tryz.prog g [.int .u64 (wd f k:Int),.int .u64 (wd h k:Int)] H (Ret (.int .u64 ((wd (fun n=>op (f n) (h n)) k:Nat):Int)) H))
  (a b:List Int) (ha:a.length≤9223372036854775807) (hb:b.length≤9223372036854775807) (H:qj):ACT Tryz.prog KD 89 [.pl (a.map q3u),.pl (b.map q3u),.fn (.func g) [] []] H (Ret (.pl ((q4x op a b).map q3u)) H):=by
 refine ACT.body (N:=36) [.tmp 6] Tryz.func89 rfl rfl rfl (Nat.le_of_ble_eq_true rfl) fun B hB=>?_
 refine Zbc ?_
 refine Za6 ?_
 refine Z9t ?_
 refine Z9s ?_
 refine Z8f ?_
 refine Z9d ?_
 refine Z9d ?_
 refine Z9l ?_
 refine Z9m ?_
 refine Za7 ?_
 refine Z8k ?_
 refine qa rfl (fun hc=>?_) (fun hc=>?_)
 ·have hs:(sok a&&sok b)=false:=by cases h:(sok a&&sok b)<;>simp_all
  refine Zbd ?_
  refine q33 ?_
  rw [show q4x op a b=[] by rw [q4x,hs];rfl]
  exact Zb
 have hs:sok a=true∧sok b=true:=by simpa using hc
 rw [show q4x op a b=qdz (fun n=>op (inl a n) (inl b n)) by rw [q4x,hs.1,hs.2];rfl,qvu hs.1,qvu hs.2]
 refine Z12 ?_
 refine qf ?_
 refine Z1d ?_
 refine qm (G:=Nat) (fun k=>k≤4) (fun k=>[(KT,KD.av),(2,.fn (.func g) [] []),(7,.pt (Lid H.length 0) 0 0 0),(8,.pt (Lid H.length 1) 0 0 0),(20,.int .i64 (k:Int))]) (fun k=>H++[⟨0,4,[eWn (fun j=>if j<k then wd (fun n=>op (inl a n) (inl b n)) j else wd (inl a) j)]⟩,⟨0,4,[eWn (wd (inl b))]⟩]) (fun k=>4-k) 0 (Nat.zero_le _) Y6 (.inl (by simp)) ?_
 intro k hk
 refine Z5a ?_
 refine qa rfl (fun hc=>?_) (fun hc=>?_)
 ·have hk4:k<4:=by simp at hc;omega
  have hx:(eWn (fun j=>if j<k then wd (fun n=>op (inl a n) (inl b n)) j else wd (inl a) j))[0+k * 1]?=some (.int .u64 ((wd (inl a) k:Nat):Int)):=by
   rw [Nat.zero_add,Nat.mul_one,q7e _ hk4];simp
  have hy:(eWn (wd (inl b)))[0+k * 1]?=some (.int .u64 ((wd (inl b) k:Nat):Int)):=by rw [Nat.zero_add,Nat.mul_one];exact q7e _ hk4
  have q4s:(eWn (fun j=>if j<k then wd (fun n=>op (inl a n) (inl b n)) j else wd (inl a) j)).take (0+k * 1)++[AV.int .u64 ((wd (fun n=>op (inl a n) (inl b n)) k:Nat):Int)]++(eWn (fun j=>if j<k then wd (fun n=>op (inl a n) (inl b n)) j else wd (inl a) j)).drop (0+k * 1+1)=eWn (fun j=>if j<k+1 then wd (fun n=>op (inl a n) (inl b n)) j else wd (inl a) j):=by
   rw [Nat.zero_add,Nat.mul_one,qr4 _ hk4]
   refine qcf fun j _=>?_
   by_cases e:j=k
   ·subst e;simp
   ·rw [if_neg e]
    by_cases e2:j<k
    ·rw [if_pos e2,if_pos (by omega)]
    ·rw [if_neg e2,if_neg (by omega)]
  refine Z1w ?_
  refine q2y mixed (some 10) 2 ?_
  refine Za9 ?_
  refine Z9p ?_
  refine aq0 1 rfl Y17 (by decide) (fun _=>qd (v:=.fn _ _ _) rfl) ?_
  refine Z6j ?_
  refine aqp 3 rfl Y17 (by decide) (fun G=>q47 rfl (lk rfl rfl) rfl rfl hk4) ?_
  refine aqp 4 rfl Y17 (by decide) (fun G=>qi (v:=.int .u64 _) rfl (lk rfl rfl) rfl rfl hx) ?_
  refine Z1n ?_
  refine aqp 6 rfl Y17 (by decide) (fun G=>q47 rfl (lk rfl rfl) rfl rfl hk4) ?_
  refine aqp 7 rfl Y17 (by decide) (fun G=>qi (v:=.int .u64 _) rfl (lk rfl rfl) rfl rfl hy) ?_
  refine q48 8 rfl Y17 (by decide) (fun _=>V2.callv (hdo (inl a) (inl b) k _) rfl rfl) ?_
  refine aqp 9 rfl Y17 (by decide) (fun G=>q47 rfl (lk rfl rfl) rfl rfl hk4) ?_
  refine aqs 10 rfl Y17 Yv Y1b (q25 (sz:=1) (v:=.int .u64 _) (r':=eWn (fun j=>if j<k+1 then wd (fun n=>op (inl a n) (inl b n)) j else wd (inl a) j)) rfl rfl rfl rfl rfl rfl rfl rfl (by show _≤4;omega) q4s) ?_
  refine Z9q ?_
  refine Z9n ?_
  refine Z5l ?_
  exact ⟨k+1,by omega,by omega,Y6,.refl _ _⟩
 ·have:k=4:=by simp at hc;omega
  subst this
  rw [show eWn (fun j=>if j<4 then wd (fun n=>op (inl a n) (inl b n)) j else wd (inl a) j)=eWn (wd fun n=>op (inl a n) (inl b n)) from qcf fun j hj=>if_pos hj]
  refine Z2 ?_
  refine Zax ?_
  refine ao2 Y11 (V2.callT (qpb (fun n=>op (inl a n) (inl b n)) _) rfl rfl) ?_
  exact Z4y
theorem qgr (a b:List Int) (ha:a.length≤9223372036854775807) (hb:b.length≤9223372036854775807) (H:qj):ACT Tryz.prog KD 81 [.pl (a.map q3u),.pl (b.map q3u)] H (Ret (.pl ((q4x (·||·) a b).map q3u)) H):=by
 refine ACT.body (N:=8) [.tmp 4] Tryz.func81 rfl rfl rfl (Nat.le_of_ble_eq_true rfl) fun B hB=>?_
 refine Zbc ?_
 refine ao2 Y11 (V2.callT (qkg 133 (·||·) (fun f h k H=>qoa f h k H) a b ha hb _) rfl rfl) ?_
 exact Z4y
theorem qme (a b:List Int) (ha:a.length≤9223372036854775807) (hb:b.length≤9223372036854775807) (H:qj):ACT Tryz.prog KD 40 [.pl (a.map q3u),.pl (b.map q3u)] H (Ret (.pl ((q4x (fun x y=>x&&!y) a b).map q3u)) H):=by
 refine ACT.body (N:=8) [.tmp 4] Tryz.func40 rfl rfl rfl (Nat.le_of_ble_eq_true rfl) fun B hB=>?_
 refine Zbc ?_
 refine ao2 Y11 (V2.callT (qkg 90 (fun x y=>x&&!y) (fun f h k H=>qo7 f h k H) a b ha hb _) rfl rfl) ?_
 exact Z4y
theorem qvg {l:List Int} {k:Nat} {x:Int} {n:Nat} (hx:l[k]?=some x) (hno:inl (l.take k) n=false):inl (l.take (k+1)) n=(x == (n:Int)):=by
 rw [inl,ql hx,List.any_append,show (l.take k).any (fun y=>y == (n:Int))=inl (l.take k) n from rfl,hno];simp
theorem qmm (l:List Int) (n:Nat) (hl:l.length≤9223372036854775807) (H:qj):AC Tryz.prog 98 [.pl (l.map q3u),.int .i64 (n:Int)] H (Ret (.bool (inl l n)) H):=by
 refine AC.body (N:=18) [.tmp 4] Tryz.func98 rfl rfl rfl (Nat.le_of_ble_eq_true rfl) fun B hB=>?_
 refine Z23 ?_
 refine qm (G:=Nat) (fun k=>k≤l.length∧inl (l.take k) n=false) (fun k=>[(0,.pl (l.map q3u)),(1,.int .i64 (n:Int)),(5,.int .i64 (k:Int))]) (fun _=>H++[]) (fun k=>l.length-k) 0 ⟨Nat.zero_le _,rfl⟩ Y6 (Fit.refl _ _) ?_
 rintro k ⟨hk,hno⟩
 refine Z8z ?_
 refine qa rfl (fun hc=>?_) (fun hc=>?_)
 ·have hlt:k<l.length:=by simpa using hc
  obtain ⟨x,hx,hxl⟩:=qo hlt
  have hr:=qh q3u hx
  have hst:=qvg hx hno
  refine Zbe ?_
  refine Z5d ?_
  refine Z8 ?_
  refine Z17 ?_
  refine qa rfl (fun hc=>?_) (fun hc=>?_)
  ·refine Zf ?_
   rw [show inl l n=true from List.any_eq_true.2 ⟨x,hxl,hc⟩]
   exact Zb
  ·refine Z2l ?_
   exact ⟨k+1,by omega,⟨by omega,by rw [hst];exact hc⟩,Y6,.refl _ _⟩
 ·have:k=l.length:=by simp at hc;omega
  subst this
  rw [List.take_length] at hno
  rw [hno]
  exact Z5m
set_option maxHeartbeats 0 in
theorem q71 (l:List Int) (hl:l.length≤9223372036854775807) (H:qj):AC Tryz.prog 97 [.pl (l.map q3u)] H (Ret (.bool (sok l)) H):=by
 refine AC.body (N:=38) [.tmp 2] Tryz.func97 rfl rfl rfl (Nat.le_of_ble_eq_true rfl) fun B hB=>?_
 refine Z23 ?_
 refine qm (G:=Nat) (fun k=>k≤l.length∧∀ i,i<k→okB l i=true) (fun k=>[(0,.pl (l.map q3u)),(3,.int .i64 (k:Int))]) (fun _=>H++[]) (fun k=>l.length-k) 0 ⟨Nat.zero_le _,fun i hi=>by omega⟩ Y6 (Fit.refl _ _) ?_
 rintro k ⟨hk,hno⟩
 refine Z8z ?_
 refine qa rfl (fun hc=>?_) (fun hc=>?_)
 ·have hlt:k<l.length:=by simpa using hc
  obtain ⟨x,hx,hxl⟩:=qo hlt
  have hr:=qh q3u hx
  obtain ⟨m,hm,_⟩:=qo (l:=l) (k:=((k:Int)-1).toNat) (by omega)
  have hr1:=qh q3u hm
  have hnd:okB l k=(decide (0≤x)&&decide (x<256)&&(decide (k=0)||decide (m<x))):=by
   rw [qac hx]
   cases k with
   | zero=>simp
   | succ k =>
    have e:(((k+1:Nat):Int)-1).toNat=k:=by omega
    rw [e] at hm
    simp [hm]
  clear hxl
  refine Z1 ?_
  refine q1l 37 (.bool (!okB l k)) ?_ ?_
  ·refine Z1g ?_
   refine Z92 ?_
   refine Z93 ?_
   refine Zbf ?_
   refine Zbg ?_
   refine qp (g:=15) rfl (fun hg5=>?_) (fun hg5=>?_)
   ·refine qr (g:=15) 6 rfl Y17 (by decide) rfl rfl rfl ?_
    refine qr (g:=15) 7 rfl Y17 (by decide) rfl rfl rfl ?_
    refine qr (g:=15) 8 rfl Y17 (by decide) rfl rfl rfl ?_
    refine qr (g:=15) 9 rfl Y17 (by decide) rfl rfl rfl ?_
    refine qr (g:=15) 10 rfl Y17 (by decide) rfl rfl rfl ?_
    refine Zbh ?_
    refine Zbi ?_
    refine Zbj ?_
    refine Zbk ?_
    refine Zbl ?_
    refine Zbm ?_
    refine Zbn ?_
    refine Zbo ?_
    refine Zbp ?_
    refine Zbq ?_
    refine Zbr ?_
    refine Zbs ?_
    refine Zbt ?_
    refine Zbu ?_
    refine Zbv ?_
    refine Zbw ?_
    refine Zbx ?_
    exact Zby
   ·refine q1h (g:=15) 6 rfl Y17 (by decide) rfl rfl (fun _=>qd (v:=.pl _) rfl) ?_
    refine q1h (g:=15) 7 rfl Y17 (by decide) rfl rfl (fun _=>qd (v:=.int _ _) rfl) ?_
    refine q1j (g:=15) 8 rfl Y17 (by decide) rfl rfl (fun G=>qe rfl rfl hr rfl) ?_
    refine q1j (g:=15) 9 rfl Y17 (by decide) rfl rfl (fun G=>qz (v:=.int _ _) rfl hr rfl) ?_
    refine q1h (g:=15) 10 rfl Y17 (by decide) rfl rfl (fun _=>qjz rfl rfl) ?_
    refine Zbz ?_
    refine Zbi ?_
    refine qp (g:=22) rfl (fun hg12=>?_) (fun hg12=>?_)
    ·refine Zbj ?_
     refine Zbk ?_
     refine Zbl ?_
     refine Zbm ?_
     refine Zbn ?_
     refine Zbo ?_
     refine Zbp ?_
     refine Zbq ?_
     refine Zbr ?_
     refine Zbs ?_
     refine Zbt ?_
     refine Zbu ?_
     refine Zbv ?_
     refine Zbw ?_
     refine Zbx ?_
     exact Zby
    ·refine q1h (g:=22) 13 rfl Y17 (by decide) rfl rfl (fun _=>qd (v:=.int _ _) rfl) ?_
     refine q1h (g:=22) 14 rfl Y17 (by decide) rfl rfl (fun _=>qjz rfl rfl) ?_
     refine q1h (g:=22) 15 rfl Y17 (by decide) rfl rfl (fun _=>qd (v:=.bool _) rfl) ?_
     refine qp (g:=25) rfl (fun hg15=>?_) (fun hg15=>?_)
     ·refine q1h (g:=25) 16 rfl Y17 (by decide) rfl rfl (fun _=>qd (v:=.pl _) rfl) ?_
      refine q1h (g:=25) 17 rfl Y17 (by decide) rfl rfl (fun _=>qd (v:=.int _ _) rfl) ?_
      refine q1j (g:=25) 18 rfl Y17 (by decide) rfl rfl (fun G=>qe rfl rfl hr rfl) ?_
      refine q1j (g:=25) 19 rfl Y17 (by decide) rfl rfl (fun G=>qz (v:=.int _ _) rfl hr rfl) ?_
      refine q1h (g:=25) 20 rfl Y17 (by decide) rfl rfl (fun _=>qd (v:=.pl _) rfl) ?_
      refine q1h (g:=25) 21 rfl Y17 (by decide) rfl rfl (fun _=>qd (v:=.int _ _) rfl) ?_
      refine q1h (g:=25) 22 rfl Y17 (by decide) rfl rfl (fun _=>q5p (r:=(k:Int)-1) rfl rfl (q1b (by omega) (by omega))) ?_
      refine q1j (g:=25) 23 rfl Y17 (by decide) rfl rfl (fun G=>q57 rfl rfl (by simp at hg15;omega) hr1 rfl) ?_
      refine q1j (g:=25) 24 rfl Y17 (by decide) rfl rfl (fun G=>qz (v:=.int _ _) rfl hr1 rfl) ?_
      refine q1h (g:=25) 25 rfl Y17 (by decide) rfl rfl (fun _=>qqc rfl rfl) ?_
      refine q1h (g:=22) 26 rfl Y17 (by decide) rfl rfl (fun _=>q16 (v:=.bool _) rfl rfl) ?_
      refine Zc0 ?_
      exact Zby
     ·refine Zc1 ?_
      refine qr (g:=25) 17 rfl Y17 (by decide) rfl rfl rfl ?_
      refine Zc2 ?_
      refine qr (g:=25) 19 rfl Y17 (by decide) rfl rfl rfl ?_
      refine qr (g:=25) 20 rfl Y17 (by decide) rfl rfl rfl ?_
      refine qr (g:=25) 21 rfl Y17 (by decide) rfl rfl rfl ?_
      refine qr (g:=25) 22 rfl Y17 (by decide) rfl rfl rfl ?_
      refine qr (g:=25) 23 rfl Y17 (by decide) rfl rfl rfl ?_
      refine qr (g:=25) 24 rfl Y17 (by decide) rfl rfl rfl ?_
      refine qr (g:=25) 25 rfl Y17 (by decide) rfl rfl rfl ?_
      refine q1h (g:=22) 26 rfl Y17 (by decide) rfl rfl (fun _=>q17 (v:=.bool _) rfl rfl) ?_
      refine Zc0 ?_
      exact Zby
  refine Z1 ?_
  refine qa rfl (fun hc=>?_) (fun hc=>?_)
  ·refine Zf ?_
   rw [qj1 hlt Y19]
   exact Zb
  ·refine Z2l ?_
   refine ⟨k+1,by omega,⟨by omega,fun i hi=>?_⟩,Y6,.refl _ _⟩
   rcases Nat.lt_or_eq_of_le (Nat.le_of_lt_succ hi) with h | h
   ·exact hno i h
   ·subst h;simpa using hc
 ·have:k=l.length:=by simp at hc;omega
  subst this
  rw [qgo hno]
  exact Z5m
def opw (how:Int) (x y:Bool):Bool:=if how=0 then x||y else if how=1 then x&&y else if how=2 then x&&!y else false
def qmo (f:Nat→Bool) (n:Nat):List Int:=((List.range n).filter f).map fun j:Nat=>(j:Int)
theorem qrn (f:Nat→Bool) (n:Nat):qmo f (n+1)=qmo f n++if f n then [(n:Int)] else []:=by
 rw [qmo,List.range_succ,List.filter_append,List.map_append,qmo]
 congr 1
 cases h:f n<;>simp [h]
theorem qtd (f:Nat→Bool) (n:Nat):(qmo f n).length≤n:=by
 rw [qmo,List.length_map]
 exact Nat.le_trans (List.length_filter_le _ _) (by simp)
set_option maxHeartbeats 0 in
theorem q4w (a b:List Int) (how:Int) (ha:a.length≤9223372036854775807) (hb:b.length≤9223372036854775807) (H:qj):AC Tryz.prog 68 [.pl (a.map q3u),.pl (b.map q3u),.int .i64 how] H (Ret (.pl ((q4x (opw how) a b).map q3u)) H):=by
 have hbel:∀ (n g:Nat) (l:List Int),∀ o∈[AObj.mk g 1 (l.map q3u)],∀ r∈o.rows,AV.bels n r=true:=by
  intro n g l o ho r hr
  simp only [List.mem_singleton] at ho
  subst ho
  exact q1y _ _ r hr
 refine AC.body (N:=63) [.tmp 6] Tryz.func68 rfl rfl rfl (Nat.le_of_ble_eq_true rfl) fun B hB=>?_
 refine Z4l ?_
 refine Z9 ?_
 refine qn 18 (.bool (!(sok a&&sok b))) ?_ ?_
 ·refine Z4n ?_
  refine q13 (q71 _ Y1d _) rfl (by decide) ?_
  refine Z26 ?_
  refine qb rfl rfl (fun hg3=>?_) (fun hg3=>?_)
  ·refine Z3z ?_
   exact Z1z
  ·refine Zc3 ?_
   refine q5b rfl rfl (by decide) (V2.call (q71 _ Y1d _) rfl) ?_
   refine Z6c ?_
   exact Z1z
 refine Z1 ?_
 refine qa rfl (fun hc=>?_) (fun hc=>?_)
 ·have hs:(sok a&&sok b)=false:=by cases h:(sok a&&sok b)<;>simp_all
  refine Zbd ?_
  refine q33 ?_
  rw [show q4x (opw how) a b=[] by rw [q4x,hs];rfl]
  exact Zb
 have hs:(sok a&&sok b)=true:=by cases h:(sok a&&sok b)<;>simp_all
 rw [show q4x (opw how) a b=qmo (fun n=>opw how (inl a n) (inl b n)) 256 by rw [q4x,hs];rfl]
 refine Z4s ?_
 refine Zc4 ?_
 refine q1k ?_
 refine Z4 ?_
 refine Zc5 ?_
 refine Z1d ?_
 refine qm (G:=Nat) (fun n=>n≤256) (fun n=>[(0,.pl (a.map q3u)),(1,.pl (b.map q3u)),(2,.int .i64 how),(7,.sl (Lid H.length 0) (qmo (fun n=>opw how (inl a n) (inl b n)) n).length 0 (qmo (fun n=>opw how (inl a n) (inl b n)) n).length (qmo (fun n=>opw how (inl a n) (inl b n)) n).length),(8,.int .i64 (n:Int))]) (fun n=>H++[⟨(qmo (fun n=>opw how (inl a n) (inl b n)) n).length,1,(qmo (fun n=>opw how (inl a n) (inl b n)) n).map q3u⟩]) (fun n=>256-n) 0 (Nat.zero_le _) Y6 (Fit.refl _ _) ?_
 intro n hn
 refine Z1p ?_
 refine qa rfl (fun hc=>?_) (fun hc=>?_)
 ·have hn2:n<256:=by simp at hc;omega
  have hst:=qrn (fun n=>opw how (inl a n) (inl b n)) n
  have hle:=qtd (fun n=>opw how (inl a n) (inl b n)) n
  try simp only at hst
  generalize qmo (fun n=>opw how (inl a n) (inl b n)) n=acc at hst hle
  refine Zbe ?_
  refine Zc6 ?_
  refine Zc7 ?_
  refine Zc6 ?_
  refine Zd ?_
  refine Ze ?_
  refine qn 57 (.bool (opw how (inl a n) (inl b n))) ?_ ?_
  ·refine Z7n ?_
   refine qb rfl rfl (fun hg2=>?_) (fun hg2=>?_)
   ·refine Z28 ?_
    refine Z28 ?_
    refine qb rfl rfl (fun hg4=>?_) (fun hg4=>?_)
    ·refine Z3i ?_
     refine Z29 ?_
     refine Z3b ?_
     refine Zc8 ?_
     refine Z3j ?_
     refine Z2e ?_
     refine Z3i ?_
     refine Z3b ?_
     refine Zc8 ?_
     refine Zcb ?_
     exact Zcc
    ·refine Z28 ?_
     refine Z2d ?_
     refine Z3b ?_
     refine qb rfl rfl (fun hg8=>?_) (fun hg8=>?_)
     ·refine Zc8 ?_
      refine Z3j ?_
      refine Z2e ?_
      refine Z3i ?_
      refine Z3b ?_
      refine Zc8 ?_
      refine Zcb ?_
      exact Zcc
     ·refine Zcd ?_
      refine qb rfl rfl (fun hg11=>?_) (fun hg11=>?_)
      ·refine Zcf ?_
       refine qb rfl rfl (fun hg14=>?_) (fun hg14=>?_)
       ·refine Z28 ?_
        refine Z29 ?_
        refine Z3e ?_
        refine qb rfl rfl (fun hg18=>?_) (fun hg18=>?_)
        ·refine Zc8 ?_
         refine Zcb ?_
         exact Zcc
        ·refine Zcd ?_
         refine qb rfl rfl (fun hg21=>?_) (fun hg21=>?_)
         ·refine Zcf ?_
          refine qb rfl rfl (fun hg24=>?_) (fun hg24=>?_)
          ·exact Zcj
          ·exact Zcm
         ·exact Zcp
       ·refine Zcn ?_
        refine Z3e ?_
        refine Zcd ?_
        refine qb rfl rfl (fun hg21=>?_) (fun hg21=>?_)
        ·refine Zcf ?_
         refine qb rfl rfl (fun hg24=>?_) (fun hg24=>?_)
         ·exact Zcj
         ·exact Zcm
        ·exact Zcp
      ·refine Zco ?_
       refine Zcn ?_
       refine Z3e ?_
       refine Zcd ?_
       refine qb rfl rfl (fun hg21=>?_) (fun hg21=>?_)
       ·refine Zcf ?_
        refine qb rfl rfl (fun hg24=>?_) (fun hg24=>?_)
        ·exact Zcj
        ·exact Zcm
       ·exact Zcp
   ·refine Zq ?_
    refine Z2e ?_
    refine Zp ?_
    refine Z3e ?_
    refine Zcd ?_
    refine qb rfl rfl (fun hg11=>?_) (fun hg11=>?_)
    ·refine Zcf ?_
     refine qb rfl rfl (fun hg14=>?_) (fun hg14=>?_)
     ·refine Z28 ?_
      refine Z29 ?_
      refine Z3e ?_
      refine qb rfl rfl (fun hg18=>?_) (fun hg18=>?_)
      ·refine Zc8 ?_
       refine Zcb ?_
       exact Zcc
      ·refine Zcd ?_
       refine qb rfl rfl (fun hg21=>?_) (fun hg21=>?_)
       ·refine Zcf ?_
        refine qb rfl rfl (fun hg24=>?_) (fun hg24=>?_)
        ·exact Zcj
        ·exact Zcm
       ·exact Zcp
     ·refine Zcn ?_
      refine Z3e ?_
      refine Zcd ?_
      refine qb rfl rfl (fun hg21=>?_) (fun hg21=>?_)
      ·refine Zcf ?_
       refine qb rfl rfl (fun hg24=>?_) (fun hg24=>?_)
       ·exact Zcj
       ·exact Zcm
      ·exact Zcp
    ·refine Zco ?_
     refine Zcn ?_
     refine Z3e ?_
     refine Zcd ?_
     refine qb rfl rfl (fun hg21=>?_) (fun hg21=>?_)
     ·refine Zcf ?_
      refine qb rfl rfl (fun hg24=>?_) (fun hg24=>?_)
      ·exact Zcj
      ·exact Zcm
     ·exact Zcp
  refine Z1 ?_
  refine qa rfl (fun hc=>?_) (fun hc=>?_)
  ·rw [if_pos hc] at hst
   refine Zcr ?_
   refine Zb3 ?_
   refine Zct ?_
   rw [show (acc.map q3u).take acc.length=acc.map q3u from List.take_of_length_le (by simp)]
   refine Z2l ?_
   exact ⟨n+1,by omega,by omega,by rw [hst,List.length_append];exact Y6,Fit.loc hB (by rw [hst,List.length_append,List.map_append];rfl) Y1 (hbel _ _ _)⟩
  ·rw [if_neg (by rw [hc];simp),List.append_nil] at hst
   refine Z2l ?_
   exact ⟨n+1,by omega,by omega,by rw [hst];exact Y6,by rw [hst];exact Fit.refl _ _⟩
 ·have:n=256:=by simp at hc;omega
  subst this
  refine Zba ?_
  refine qu (ys:=(qmo (fun n=>opw how (inl a n) (inl b n)) 256).map q3u) 6 rfl rfl rfl rfl Yg (by simp) (q1y 0 _) ?_
  exact Zbb
theorem qp7 (f g:Nat→Bool) (k:Nat) (H:qj):AC Tryz.prog 161 [.int .u64 (wd f k:Int),.int .u64 (wd g k:Int)] H (Ret (.int .u64 ((wd (fun n=>f n&&g n) k:Nat):Int)) H):=by
 refine AC.body (N:=8) [.tmp 4] Tryz.func161 rfl rfl rfl (Nat.le_of_ble_eq_true rfl) fun B hB=>?_
 refine Z5 ?_
 refine Z2t ?_
 refine ao1 (by decide) (qu1 (r:=((wd (fun n=>f n&&g n) k:Nat):Int)) rfl rfl (by rw [qfz _ _ (qbi _ _) (qbi _ _),qw4])) ?_
 exact Zc
theorem qmc (a b:List Int) (ha:a.length≤9223372036854775807) (hb:b.length≤9223372036854775807) (H:qj):ACT Tryz.prog KD 118 [.pl (a.map q3u),.pl (b.map q3u)] H (Ret (.pl ((q4x (·&&·) a b).map q3u)) H):=by
 refine ACT.body (N:=8) [.tmp 4] Tryz.func118 rfl rfl rfl (Nat.le_of_ble_eq_true rfl) fun B hB=>?_
 refine Zbc ?_
 refine ao2 Y11 (V2.callT (qkg 161 (·&&·) (fun f h k H=>qp7 f h k H) a b ha hb _) rfl rfl) ?_
 exact Z4y
end Go.Av
namespace Go.Av
section
variable {P : Program} {N : Nat} {B : Base} {Q : q77} {env : Env} {H H0 L : qj} {ty : TypeId} {ops : Array Oper} {rest : List Oper}
end
section
variable {P : Program} {N : Nat} {B : Base} {Q : q77} {env : Env} {H : qj}
end
section
variable {P : Program} {N : Nat} {env : Env} {H : qj} {ty : TypeId}
theorem qx4 {t e:TypeId} {x:Operand} {lo:Option Operand} {xs ys:List (List AV)} {l sz:Nat} {agg:Bool} [hu:SlI P t e] [TyI P e agg sz] (hx:aev env x = .pl xs) (hl:Bd env lo 0 l) (h1:l≤xs.length) (hsz:∀ r∈xs,r.length=sz) (hy:xs.drop l=ys) :
  V1 P N (.slice t x lo Option.none Option.none) ty env H (.pl ys):=by
 have:=qbj (P:=P) (N:=N) (env:=env) (H:=H) (ty:=ty) (t:=t) (e:=e) (agg:=agg) (h:=xs.length) hx hl .none h1 (Nat.le_refl _) hsz
 rwa [List.take_of_length_le (by simp),hy] at this
theorem qsq {t e:TypeId} {x:Operand} {hi:Option Operand} {xs ys:List (List AV)} {h sz:Nat} {agg:Bool} [hu:SlI P t e] [TyI P e agg sz] (hx:aev env x = .pl xs) (hh:Bd env hi xs.length h) (h1:h≤xs.length) (hsz:∀ r∈xs,r.length=sz) (hy:xs.take h=ys) :
  V1 P N (.slice t x Option.none hi Option.none) ty env H (.pl ys):=by
 have:=qbj (P:=P) (N:=N) (env:=env) (H:=H) (ty:=ty) (t:=t) (e:=e) (agg:=agg) (l:=0) (h:=h) hx .none hh (Nat.zero_le _) h1 hsz
 rwa [List.drop_zero,Nat.sub_zero,hy] at this
end
end Go.Av
namespace Go.Av
open Go.Proofs
theorem qpa (k u:Int) (H:qj):AC Tryz.prog 101 [.int .i64 k,.int .i64 u] H (Ret (.bool (q5o k u)) H):=by
 refine AC.body (N:=23) [.tmp 4] Tryz.func101 rfl rfl rfl (Nat.le_of_ble_eq_true rfl) fun B hB=>?_
 refine Z1r ?_
 refine Z12 ?_
 refine qf ?_
 refine Z5q ?_
 refine qa rfl (fun hc=>?_) (fun hc=>?_)
 ·have h1:k=1:=by simpa using hc
  refine Z12 ?_
  refine Z14 ?_
  rw [show q5o k u=(u == 0) by simp [q5o,h1];rfl]
  exact Zb
 have h1:¬ k=1:=by simpa using hc
 refine Z5q ?_
 refine qa rfl (fun hc=>?_) (fun hc=>?_)
 ·have h2:k=2:=by simpa using hc
  refine Z1 ?_
  refine qn 4 (.bool (q5o k u)) ?_ ?_
  ·refine Z7n ?_
   refine qb rfl rfl (fun hg2=>?_) (fun hg2=>?_)
   ·refine Z3j ?_
    refine Zn ?_
    exact qf (Out.mk (by (refine congrArg AV.bool ?_;(simp only [q5o] at *;(simp_all;done)))) Yb)
   ·refine Z7o ?_
    refine Zs ?_
    exact qf (Out.mk (by (refine congrArg AV.bool ?_;(simp only [q5o] at *;grind))) Yb)
  exact Z22
 have h2:¬ k=2:=by simpa using hc
 refine Z2 ?_
 refine Z7f ?_
 repeat (first | refine qg1 ?_ | refine qg6 ?_ | refine q95 ?_ | refine qjw ?_ | refine qgk ?_ | refine qk5 ?_ | refine qg0 rfl ?_ | refine qfs ?_ | refine qjx ?_ | refine qen ?_ | refine qdr ?_ | refine qjv ?_ | refine qgn ?_ | refine q33 ?_)
 refine q4m ([(1,.int .i64 u),(18,.bool (decide (k=3)||decide (k=4)))]) (H++[]) ?_ ?_
 ·refine Z1 ?_
  refine qa rfl (fun hc=>?_) (fun hc=>?_)
  ·have h3:k=3:=by simpa using hc
   refine Z1 ?_
   refine q2d ?_ (.inl rfl)
   rw [show (decide (k=3)||decide (k=4))=(k == 3) by simp [h3]]
   exact Y6
  ·have h3:¬ k=3:=by simpa using hc
   refine q1k ?_
   refine Z7f ?_
   refine q2d ?_ (.inl rfl)
   rw [show (decide (k=3)||decide (k=4))=(k == 4) by simp [h3];rfl]
   exact Y6
 refine Z1 ?_
 refine qa rfl (fun hc=>?_) (fun hc=>?_)
 ·have h3:k=3∨k=4:=by simpa using hc
  refine Z12 ?_
  refine Z14 ?_
  rw [show q5o k u=(u == 2) by simp only [q5o];rw [Bool.eq_iff_iff];simp;omega]
  exact Zb
 ·have h3:¬ (k=3∨k=4):=by simpa using hc
  refine Zf ?_
  rw [show q5o k u=false by simp only [q5o];rw [Bool.eq_false_iff];simp;omega]
  exact Zb
def qcs (t:Thing):List Value:=[.int .i64 t.kind,.int .i64 t.up,.string t.tag]
theorem qd3 (a b:Thing) (w:World):(Op.equalIn 10000 72 (.agg (qcs a).toArray) (.agg (qcs b).toArray)).run Tryz.prog w = .ok (decide (a=b)) w:=by
 have hS:Tryz.prog.underlying 72=some (.struct (Tryz.prog.fieldsOf 72)):=by kernel_rfl
 have hp:Tryz.prog.stoodInHeld 72=false:=by kernel_rfl
 rw [show (10000:Nat)=9999+1 from rfl,run_equalIn_agg w 9999 72 _ _ hS hp]
 have u3:=Tryz.underlying3
 have a3:=Tryz.isAgg3
 have z3:=Tryz.sizeOf3
 simp only [qcs,Program.fieldsOf,Tryz.underlying72]
 go_simp
 have ht:a.tag.toList=b.tag.toList↔a.tag=b.tag:=by have:=qs7 a.tag b.tag;rw [Bool.eq_iff_iff] at this;simpa using this
 simp only [ht]
 cases a;cases b
 simp only [Thing.mk.injEq]
 (repeat' split)<;>simp_all
theorem qfa (g:List Thing):∀ r∈g.map qq,r.length=3:=q85 (e:=qq) (n:=3) (fun _=>rfl) g
theorem qnm (n:Nat) (g:List Thing):∀ r∈g.map qq,AV.bels n r=true:=q83 (e:=qq) (fun _=>rfl) g
theorem qvf {g:List Thing} {i:Nat} {t:Thing} (h:g[i+1]?=some t):qkx g i=(decide (0≤t.up)&&decide (t.up≤(i:Int))&&q5o t.kind (q2k g t.up.toNat)&&q8d t.tag&&(decide (t.tag=⟨#[]⟩)||decide (t.kind=2))):=by rw [qkx,h]
theorem qk6 (t0:Thing) (g1:List Thing):q1o (t0 :: g1)=(decide (g1.length+1≤256)&&decide (t0=qba)&&qh4 (qkx (t0 :: g1)) g1.length):=by
 simp [q1o]
set_option maxHeartbeats 0 in
theorem q90 (g:List Thing) (H:qj) (hl:g.length≤9223372036854775807):AC Tryz.prog 50 [.pl (g.map qq)] H (Ret (.bool (q1o g)) H):=by
 refine AC.body (N:=66) [.tmp 2] Tryz.func50 rfl rfl rfl (Nat.le_of_ble_eq_true rfl) fun B hB=>?_
 refine Z1r ?_
 cases g with
 | nil =>
  refine Z1 ?_
  refine qn 19 (.bool true) ?_ ?_
  ·refine Zcu ?_
   refine qb rfl rfl (fun hg3=>?_) (fun hg3=>?_)
   ·refine Z3l ?_
    refine Z3j ?_
    refine Z3z ?_
    exact Z11
   ·exfalso;simp at hg3
  refine Z1 ?_
  refine qa rfl (fun hc=>?_) (fun hc=>?_)
  ·exact Z5m
  ·simp at hc
 | cons t0 g1 =>
  have hr:((t0 :: g1).map qq)[(0:Int).toNat]?=some (qq t0):=rfl
  refine Z1 ?_
  refine qn 19 (.bool (!(decide (g1.length+1≤256)&&decide (t0=qba)))) ?_ ?_
  ·refine Zcu ?_
   refine qb rfl rfl (fun hg3=>?_) (fun hg3=>?_)
   ·refine Z3l ?_
    refine Z3j ?_
    refine Z3z ?_
    exact Zcv
   ·refine Zcw ?_
    refine Z3o ?_
    refine qb rfl rfl (fun hg8=>?_) (fun hg8=>?_)
    ·refine Z3j ?_
     refine Z3z ?_
     exact Zcv
    ·refine Zc3 ?_
     refine q2n rfl rfl (by decide) (q57 rfl rfl (by decide) hr rfl) ?_
     refine Zcx ?_
     refine q2n rfl rfl (by decide) (V1.up (q4i (cs:=[.int _ _,.int _ _,.str _]) rfl)) ?_
     refine q2n rfl rfl (by decide) (qr3 (us:=qcs t0) (vs:=qcs qba) rfl rfl rfl rfl Y1e (qd3 _ _)) ?_
     refine Zr ?_
     exact Zcv
  clear hr
  rw [qk6]
  refine Z1 ?_
  refine qa rfl (fun hc=>?_) (fun hc=>?_)
  ·have hno:(decide (g1.length+1≤256)&&decide (t0=qba))=false:=by simpa only [Bool.not_eq_true'] using hc
   rw [hno,Bool.false_and]
   exact Z5m
  have hyes:(decide (g1.length+1≤256)&&decide (t0=qba))=true:=by simpa only [Bool.not_eq_false'] using hc
  rw [hyes,Bool.true_and]
  have hl2:g1.length+1≤256:=by simp at hyes;omega
  refine Z4o ?_
  refine ao1 (by decide) (qx4 (ys:=g1.map qq) rfl (Bd.some rfl rfl) (by simp) (qfa _) rfl) ?_
  refine Z54 ?_
  refine Z9g ?_
  refine qm (G:=Nat) (fun i=>i≤g1.length∧∀ k,k<i→qkx (t0 :: g1) k=true) (fun i=>[(0,.pl ((t0 :: g1).map qq)),(21,.pl (g1.map qq)),(22,.int .i64 ((g1.map qq).length:Int)),(23,.int .i64 (i:Int))]) (fun _=>H++[]) (fun i=>g1.length-i) 0 ⟨Nat.zero_le _,fun k hk=>by omega⟩ Y6 (Fit.refl _ _) ?_
  rintro i ⟨hi,hno⟩
  refine Z5a ?_
  refine qa rfl (fun hc=>?_) (fun hc=>?_)
  ·have hlt:i<g1.length:=by simpa using hc
   obtain ⟨t,ht,htl⟩:=qo hlt
   have hr:=qh qq ht
   have hB2:=qvf (g:=t0 :: g1) (i:=i) (t:=t) ht
   refine Zcz ?_
   refine Zd0 ?_
   refine Z3 ?_
   refine Zd1 ?_
   refine Zd3 ?_
   have hno0:=hno
   clear hr htl ht hno hc
   by_cases hup:0≤t.up∧t.up≤(i:Int)
   ·obtain ⟨u,hu,_⟩:=qo (l:=t0 :: g1) (k:=t.up.toNat) (by simp only [List.length_cons];omega)
    have hr1:=qh qq hu
    have hk:q2k (t0 :: g1) t.up.toNat=u.kind:=by rw [q2k,hu]
    rw [hk] at hB2
    clear hu hk hyes hl
    refine Z1 ?_
    refine q1l 64 (.bool (!qkx (t0 :: g1) i)) ?_ ?_
    ·refine Zd5 ?_
     refine Zd6 ?_
     refine Zd7 ?_
     refine Z9z ?_
     refine qp (g:=31) rfl (fun hg3=>?_) (fun hg3=>?_)
     ·refine Zd8 ?_
      refine Zd9 ?_
      refine Zda ?_
      refine Zdb ?_
      refine Zdc ?_
      refine Zdd ?_
      refine Zde ?_
      refine Zdf ?_
      refine Zdg ?_
      refine Zdh ?_
      refine Zdi ?_
      refine Zdj ?_
      refine Zdk ?_
      refine Zdl ?_
      refine Zdm ?_
      refine Zdn ?_
      refine Zdo ?_
      refine Zdp ?_
      refine Zdq ?_
      refine Zdr ?_
      refine Zds ?_
      refine Zdt ?_
      refine Zdu ?_
      refine Zdv ?_
      refine Ze4 ?_
      exact Ze5
     ·refine Ze6 ?_
      refine Ze7 ?_
      refine Ze8 ?_
      refine Ze9 ?_
      refine Zea ?_
      refine Zdd ?_
      refine qp (g:=37) rfl (fun hg9=>?_) (fun hg9=>?_)
      ·refine Zde ?_
       refine Zdf ?_
       refine Zdg ?_
       refine Zdh ?_
       refine Zdi ?_
       refine Zdj ?_
       refine Zdk ?_
       refine Zdl ?_
       refine Zdm ?_
       refine Zdn ?_
       refine Zdo ?_
       refine Zdp ?_
       refine Zdq ?_
       refine Zdr ?_
       refine Zds ?_
       refine Zdt ?_
       refine Zdu ?_
       refine Zdv ?_
       refine Ze4 ?_
       exact Ze5
      ·refine q1j (g:=37) 10 rfl Y17 (by decide) rfl rfl (fun G=>qc rfl (lk rfl rfl) rfl (by decide)) ?_
       refine q1j (g:=37) 11 rfl Y17 (by decide) rfl rfl (fun G=>qi (v:=.int _ _) rfl (lk rfl rfl) rfl rfl rfl) ?_
       refine q1h (g:=37) 12 rfl Y17 (by decide) rfl rfl (fun _=>qd (v:=.pl _) rfl) ?_
       refine q1j (g:=37) 13 rfl Y17 (by decide) rfl rfl (fun G=>qc rfl (lk rfl rfl) rfl (by decide)) ?_
       refine q1j (g:=37) 14 rfl Y17 (by decide) rfl rfl (fun G=>qi (v:=.int _ _) rfl (lk rfl rfl) rfl rfl rfl) ?_
       refine q1j (g:=37) 15 rfl Y17 (by decide) rfl rfl (fun G=>q57 rfl rfl hup.1 hr1 rfl) ?_
       refine q1j (g:=37) 16 rfl Y17 (by decide) rfl rfl (fun G=>qx rfl (by decide)) ?_
       refine q1j (g:=37) 17 rfl Y17 (by decide) rfl rfl (fun G=>qz (v:=.int _ _) rfl hr1 rfl) ?_
       refine q7c (g:=37) 18 rfl Y17 (by decide) rfl rfl (fun _=>V2.call (qpa _ _ _) rfl) ?_
       refine q1h (g:=37) 19 rfl Y17 (by decide) rfl rfl (fun _=>q8e rfl) ?_
       refine Zeb ?_
       refine Zdp ?_
       refine qp (g:=49) rfl (fun hg21=>?_) (fun hg21=>?_)
       ·refine Zdq ?_
        refine Zdr ?_
        refine Zds ?_
        refine Zdt ?_
        refine Zdu ?_
        refine Zdv ?_
        refine Ze4 ?_
        exact Zec
       ·refine q1j (g:=49) 22 rfl Y17 (by decide) rfl rfl (fun G=>qc rfl (lk rfl rfl) rfl (by decide)) ?_
        refine q1j (g:=49) 23 rfl Y17 (by decide) rfl rfl (fun G=>qi (v:=.str _) rfl (lk rfl rfl) rfl rfl rfl) ?_
        refine q7c (g:=49) 24 rfl Y17 (by decide) rfl rfl (fun _=>V2.call (qie _ _) rfl) ?_
        refine q1h (g:=49) 25 rfl Y17 (by decide) rfl rfl (fun _=>q8e rfl) ?_
        refine Zed ?_
        refine Zdv ?_
        refine qp (g:=55) rfl (fun hg27=>?_) (fun hg27=>?_)
        ·refine Ze4 ?_
         exact Zec
        ·refine q1j (g:=55) 28 rfl Y17 (by decide) rfl rfl (fun G=>qc rfl (lk rfl rfl) rfl (by decide)) ?_
         refine q1j (g:=55) 29 rfl Y17 (by decide) rfl rfl (fun G=>qi (v:=.str _) rfl (lk rfl rfl) rfl rfl rfl) ?_
         refine q1h (g:=55) 30 rfl Y17 (by decide) rfl rfl (fun _=>qer rfl rfl) ?_
         refine q1h (g:=55) 31 rfl Y17 (by decide) rfl rfl (fun _=>qd (v:=.bool _) rfl) ?_
         refine qp (g:=59) rfl (fun hg31=>?_) (fun hg31=>?_)
         ·refine q1j (g:=59) 32 rfl Y17 (by decide) rfl rfl (fun G=>qc rfl (lk rfl rfl) rfl (by decide)) ?_
          refine q1j (g:=59) 33 rfl Y17 (by decide) rfl rfl (fun G=>qi (v:=.int _ _) rfl (lk rfl rfl) rfl rfl rfl) ?_
          refine q1h (g:=59) 34 rfl Y17 (by decide) rfl rfl (fun _=>qpe rfl rfl) ?_
          refine q1h (g:=55) 35 rfl Y17 (by decide) rfl rfl (fun _=>q16 (v:=.bool _) rfl rfl) ?_
          refine Zee ?_
          exact q1i Y17 Yv (Out.mk (by (refine congrArg AV.bool ?_;(rw [hB2];clear hB hr1 hB2;grind))) Yb)
         ·refine qr (g:=59) 32 rfl Y17 (by decide) rfl rfl rfl ?_
          refine qr (g:=59) 33 rfl Y17 (by decide) rfl rfl rfl ?_
          refine qr (g:=59) 34 rfl Y17 (by decide) rfl rfl rfl ?_
          refine q1h (g:=55) 35 rfl Y17 (by decide) rfl rfl (fun _=>q17 (v:=.bool _) rfl rfl) ?_
          refine Zee ?_
          exact Zec
    refine Z1 ?_
    refine qa rfl (fun hc=>?_) (fun hc=>?_)
    ·have hbad:qkx (t0 :: g1) i=false:=by simpa only [Bool.not_eq_true'] using hc
     refine Zf ?_
     rw [q1z hlt hbad]
     exact Zb
    ·have hgood:qkx (t0 :: g1) i=true:=by simpa only [Bool.not_eq_false'] using hc
     refine Z5l ?_
     refine ⟨i+1,by omega,⟨by omega,fun k hk=>?_⟩,Y6,Fit.loc hB (L:=[]) rfl Y1 (fun o ho=>by simp at ho)⟩
     rcases Nat.lt_or_eq_of_le (Nat.le_of_lt_succ hk) with h | h
     ·exact hno0 k h
     ·subst h;exact hgood
   ·have hB3:qkx (t0 :: g1) i=false:=by
     rw [hB2]
     rcases Classical.not_and_iff_not_or_not.1 hup with h | h
     ·rw [decide_eq_false h];rfl
     ·rw [decide_eq_false h];simp
    clear hB2 hyes hl
    refine Z1 ?_
    refine q1l 64 (.bool (!qkx (t0 :: g1) i)) ?_ ?_
    ·refine Zd5 ?_
     refine Zd6 ?_
     refine Zd7 ?_
     refine Z9z ?_
     refine qp (g:=31) rfl (fun hg3=>?_) (fun hg3=>?_)
     ·refine Zd8 ?_
      refine Zd9 ?_
      refine Zda ?_
      refine Zdb ?_
      refine Zdc ?_
      refine Zdd ?_
      refine Zde ?_
      refine Zdf ?_
      refine Zdg ?_
      refine Zdh ?_
      refine Zdi ?_
      refine Zdj ?_
      refine Zdk ?_
      refine Zdl ?_
      refine Zdm ?_
      refine Zdn ?_
      refine Zdo ?_
      refine Zdp ?_
      refine Zdq ?_
      refine Zdr ?_
      refine Zds ?_
      refine Zdt ?_
      refine Zdu ?_
      refine Zdv ?_
      refine Ze4 ?_
      exact Zef
     ·refine Ze6 ?_
      refine Ze7 ?_
      refine Ze8 ?_
      refine Ze9 ?_
      refine Zea ?_
      refine Zdd ?_
      refine qp (g:=37) rfl (fun hg9=>?_) (fun hg9=>?_)
      ·refine Zde ?_
       refine Zdf ?_
       refine Zdg ?_
       refine Zdh ?_
       refine Zdi ?_
       refine Zdj ?_
       refine Zdk ?_
       refine Zdl ?_
       refine Zdm ?_
       refine Zdn ?_
       refine Zdo ?_
       refine Zdp ?_
       refine Zdq ?_
       refine Zdr ?_
       refine Zds ?_
       refine Zdt ?_
       refine Zdu ?_
       refine Zdv ?_
       refine Ze4 ?_
       exact Zef
      ·exfalso;simp at hg3 hg9;omega
    refine Z1 ?_
    refine qa rfl (fun hc=>?_) (fun hc=>?_)
    ·have hbad:qkx (t0 :: g1) i=false:=by simpa only [Bool.not_eq_true'] using hc
     refine Zf ?_
     rw [q1z hlt hbad]
     exact Zb
    ·have hgood:qkx (t0 :: g1) i=true:=by simpa only [Bool.not_eq_false'] using hc
     refine Z5l ?_
     refine ⟨i+1,by omega,⟨by omega,fun k hk=>?_⟩,Y6,Fit.loc hB (L:=[]) rfl Y1 (fun o ho=>by simp at ho)⟩
     rcases Nat.lt_or_eq_of_le (Nat.le_of_lt_succ hk) with h | h
     ·exact hno0 k h
     ·subst h;exact hgood
  ·have:i=g1.length:=by simp at hc;omega
   subst this
   refine Zf ?_
   rw [q2s hno]
   exact Zb
end Go.Av
namespace Go.Av
theorem q1w {g:List Thing} (h:q1o g=true):1≤g.length∧g.length≤256:=by
 simp only [q1o,Bool.and_eq_true,decide_eq_true_eq] at h;exact ⟨h.1.1.1,h.1.1.2⟩
theorem q34 {g:List Thing} (h:q1o g=true) {j:Nat} {t:Thing} (ht:g[j]?=some t):t.up<(j:Int)∧(0≤t.up∨t.up = -1):=by
 simp only [q1o,Bool.and_eq_true,decide_eq_true_eq] at h
 have hj:j<g.length:=(List.getElem?_eq_some_iff.1 ht).1
 cases j with
 | zero=>rw [h.1.2] at ht;cases ht;exact ⟨by decide,.inr rfl⟩
 | succ i =>
  have h2:=q4f h.2 (k:=i) (by omega)
  rw [qkx,ht] at h2
  simp only [Bool.and_eq_true,decide_eq_true_eq] at h2
  exact ⟨by omega,.inl h2.1.1.1.1⟩
theorem qbo (g:List Thing) (n:Int):∀ k,(qt4 g n k).length=k
 | 0=>rfl
 | k+1=>by rw [qt4,List.length_append,qbo g n k];rfl
theorem qgz (g:List Thing) (n:Int) {j k:Nat} (hj:j<k):∀ m,k≤m→(qt4 g n m).getD j false=(qt4 g n k).getD j false
 | 0,h=>by omega
 | m+1,h=>by
  rcases Nat.lt_or_eq_of_le h with h1 | h1
  ·rw [qt4,List.getD_eq_getElem?_getD,List.getElem?_append_left (by rw [qbo];omega),← List.getD_eq_getElem?_getD]
   exact qgz g n hj m (by omega)
  ·rw [h1]
def uU (g:List Thing) (n:Int) (j:Nat):Bool:=(qt4 g n g.length).getD j false
theorem qjm {g:List Thing} {n:Int} {j:Nat} {t:Thing} (ht:g[j]?=some t) (hu:t.up<(j:Int)):uU g n j=(decide ((j:Int)=n)||(decide (0≤t.up)&&uU g n t.up.toNat)):=by
 have hj:j<g.length:=(List.getElem?_eq_some_iff.1 ht).1
 have e:qh3 g j=t.up:=by rw [qh3,ht]
 rw [uU,qgz g n (Nat.lt_succ_self j) g.length (by omega),qt4,List.getD_eq_getElem?_getD,List.getElem?_append_right (by rw [qbo];exact Nat.le_refl _),qbo,Nat.sub_self,e]
 simp only [List.getElem?_cons_zero,Option.getD_some]
 by_cases h0:0≤t.up
 ·rw [uU,qgz g n (k:=j) (by omega) g.length (by omega)]
 ·rw [decide_eq_false h0,Bool.false_and,Bool.false_and]
def uAt (g:List Thing) (n:Int) (i j:Nat):Bool:=if j<i then uU g n j else decide ((j:Int)=n)
def ql6 (g:List Thing) (n:Int) (i:Nat):List (List AV):=(List.range g.length).map fun j=>[AV.bool (uAt g n i j)]
theorem qn7 (g:List Thing) (n:Int) (i:Nat):(ql6 g n i).length=g.length:=by simp [ql6]
theorem q6w {g:List Thing} {n:Int} {i j:Nat} (h:j<g.length):(ql6 g n i)[j]?=some [AV.bool (uAt g n i j)]:=by
 simp [ql6,h]
theorem qu6 (g:List Thing) (n:Int) (i:Nat):(ql6 g n i).set i [AV.bool (uU g n i)]=ql6 g n (i+1):=by
 apply List.ext_getElem?
 intro j
 rw [List.getElem?_set]
 by_cases hj:j<g.length
 ·rw [q6w hj]
  by_cases e:i=j
  ·subst e;rw [if_pos rfl,if_pos (by rw [qn7];exact hj),q6w hj,uAt,if_pos (by omega)]
  ·rw [if_neg e,q6w hj]
   have:(j<i+1)↔(j<i):=by omega
   simp only [uAt,this]
 ·rw [List.getElem?_eq_none Yy,List.getElem?_eq_none Yy]
  split
  ·rw [if_neg Yy]
  ·rfl
theorem qpo {g:List Thing} {m:Nat} (h:m<g.length):(List.replicate g.length [AV.bool false]).set m [AV.bool true]=ql6 g m 0:=by
 apply List.ext_getElem?
 intro j
 rw [List.getElem?_set]
 by_cases hj:j<g.length
 ·rw [q6w hj]
  by_cases e:m=j
  ·subst e;simp [uAt,hj]
  ·rw [if_neg e,List.getElem?_replicate,if_pos hj]
   have:¬ ((j:Int)=(m:Int)):=by omega
   simp [uAt,this]
 ·rw [List.getElem?_eq_none (l:=ql6 g m 0) Yy,List.getElem?_replicate,if_neg hj]
  split
  ·rw [if_neg Y1c]
  ·rfl
theorem qva (k:Nat) (g:List Thing) (n:Int) (i:Nat):∀ r∈ql6 g n i,AV.bels k r=true:=by
 intro r hr
 simp only [ql6,List.mem_map,List.mem_range] at hr
 obtain ⟨j,_,rfl⟩:=hr
 rfl
theorem q89 {g:List Thing} {n:Int} (h:q44 g n=true):q45 g n=idx (uU g n) g.length:=by rw [q45,if_pos h];rfl
end Go.Av
namespace Go.Av
open Go.Proofs
theorem qkr (g:List Thing) (n:Int) (H:qj) (hl:g.length≤9223372036854775807):AC Tryz.prog 103 [.pl (g.map qq),.int .i64 n] H (Ret (.bool (q44 g n)) H):=by
 refine AC.body (N:=17) [.tmp 4] Tryz.func103 rfl rfl rfl (Nat.le_of_ble_eq_true rfl) fun B hB=>?_
 refine Zf ?_
 refine qn 4 (.bool (q44 g n)) ?_ ?_
 ·refine Z8 ?_
  refine Z24 ?_
  refine qb rfl rfl (fun hg2=>?_) (fun hg2=>?_)
  ·refine Zj ?_
   refine Zcw ?_
   refine Zk ?_
   refine Z3b ?_
   refine qb rfl rfl (fun hg8=>?_) (fun hg8=>?_)
   ·refine Zc3 ?_
    refine q5b rfl rfl (by decide) (V2.call (q90 _ _ Y1d) rfl) ?_
    refine Zn ?_
    exact qf (Out.mk (by (refine congrArg AV.bool ?_;(simp only [q44];clear hB;(simp_all;done)))) Yb)
   ·refine Zt ?_
    exact Zeg
  ·refine Z2c ?_
   refine Z3e ?_
   refine Zt ?_
   exact Zeg
 exact Z22
set_option maxHeartbeats 0 in
theorem qdg (g:List Thing) (n:Int) (H:qj) (hl:g.length≤9223372036854775807):AC Tryz.prog 54 [.pl (g.map qq),.int .i64 n] H (Ret (.pl ((q45 g n).map q3u)) H):=by
 have hbel:∀ (b i:Nat) (n:Int) (l:List Int),∀ o∈[AObj.mk 0 1 (ql6 g n i),AObj.mk l.length 1 (l.map q3u)],∀ r∈o.rows,AV.bels b r=true:=by
  intro b i n l o ho r hr
  simp only [List.mem_cons,List.not_mem_nil,or_false] at ho
  rcases ho with rfl | rfl
  ·exact qva _ _ _ _ r hr
  ·exact q1y _ _ r hr
 refine AC.body (N:=55) [.tmp 4] Tryz.func54 rfl rfl rfl (Nat.le_of_ble_eq_true rfl) fun B hB=>?_
 refine Z4m ?_
 refine Zbe ?_
 refine q13 (qkr _ _ _ Y1d) rfl (by decide) ?_
 refine Z4d ?_
 refine qa rfl (fun hc=>?_) (fun hc=>?_)
 ·have hno:q44 g n=false:=by simpa only [Bool.not_eq_true'] using hc
  rw [show q45 g n=[] by rw [q45,hno];rfl]
  refine Z4s ?_
  refine q1c 4 rfl ?_
  exact q33 (q4d hB (q3t rfl .nil) rfl rfl)
 have hyes:q44 g n=true:=by simpa only [Bool.not_eq_false'] using hc
 rw [q89 hyes]
 obtain ⟨m,rfl⟩:∃ m:Nat,n=m:=⟨n.toNat,by simp only [q44,Bool.and_eq_true,decide_eq_true_eq] at hyes;omega⟩
 have hm:m<g.length:=by simp only [q44,Bool.and_eq_true,decide_eq_true_eq] at hyes;omega
 have hg:q1o g=true:=by simp only [q44,Bool.and_eq_true,decide_eq_true_eq] at hyes;exact hyes.2
 have hlen:=q1w hg
 have hml:(g.map qq).length=g.length:=by simp
 refine Z8u ?_
 refine ao2 Y11 (q38 (n:=g.length) (c:=g.length) (bytes:=1) rfl (by decide) (congrArg (fun k:Nat=>AV.int .i64 (k:Int)) hml) (congrArg (fun k:Nat=>AV.int .i64 (k:Int)) hml) (Nat.le_refl _) (by omega) (by omega) rfl) ?_
 refine Zb5 ?_
 refine Zeh ?_
 have hrow:(List.replicate g.length [AV.bool false])[0+m]?=some [.bool false]:=by rw [Nat.zero_add,List.getElem?_replicate,if_pos hm]
 refine Zb2 ?_
 refine Zei ?_
 refine ao2 Y1b (q25 (sz:=1) (v:=.bool _) (r':=[.bool true]) rfl rfl rfl rfl hrow rfl rfl rfl Y13 rfl) ?_
 refine Zej ?_
 rw [Nat.zero_add,qpo hm]
 clear hrow hc
 refine Z4s ?_
 refine q22 (k:=1) 6 1 rfl (by decide) rfl ?_
 refine Zel ?_
 refine Zay ?_
 refine Z1d ?_
 refine qm (G:=Nat) (fun i=>i≤g.length) (fun i=>[(5,.sl (Lid H.length 0) 0 0 g.length g.length),(6,.sl (Lid H.length 1) (idx (uU g m) i).length 0 (idx (uU g m) i).length (idx (uU g m) i).length),(19,.pl (g.map qq)),(20,.int .i64 ((g.map qq).length:Int)),(21,.int .i64 (i:Int))]) (fun i=>H++[⟨0,1,ql6 g m i⟩,⟨(idx (uU g m) i).length,1,(idx (uU g m) i).map q3u⟩]) (fun i=>g.length-i) 0 (Nat.zero_le _) Y6 (Fit.refl _ _) ?_
 intro i hi
 refine Z5a ?_
 refine qa rfl (fun hc=>?_) (fun hc=>?_)
 ·have hlt:i<g.length:=by simpa using hc
  obtain ⟨t,ht,htl⟩:=qo hlt
  have hr:=qh qq ht
  obtain ⟨hu1,hu2⟩:=q34 hg ht
  have hat:=qjm (n:=(m:Int)) ht hu1
  have hrow0:(ql6 g (m:Int) i)[0+i]?=some [.bool (decide ((i:Int)=(m:Int)))]:=by rw [Nat.zero_add,q6w hlt,uAt,if_neg (Nat.lt_irrefl _)]
  have q4s:=qu6 g (m:Int) i
  have hstep:=q5t (uU g (m:Int)) i
  have hil:=q62 (uU g (m:Int)) i
  have hrow1:(ql6 g (m:Int) (i+1))[0+i]?=some [.bool (uU g (m:Int) i)]:=by rw [Nat.zero_add,q6w hlt,uAt,if_pos (Nat.lt_succ_self _)]
  refine Zcz ?_
  refine Zd0 ?_
  refine Z3 ?_
  refine Zd1 ?_
  refine Zen ?_
  clear hr ht htl hc
  refine Z1 ?_
  refine q4m ([(5,.sl (Lid H.length 0) 0 0 g.length g.length),(6,.sl (Lid H.length 1) (idx (uU g m) i).length 0 (idx (uU g m) i).length (idx (uU g m) i).length),(7,.int .i64 (i:Int)),(19,.pl (g.map qq)),(20,.int .i64 ((g.map qq).length:Int)),(21,.int .i64 (i:Int))]) (H++[⟨0,1,ql6 g m (i+1)⟩,⟨(idx (uU g m) i).length,1,(idx (uU g m) i).map q3u⟩,⟨0,3,[qq t]⟩]) ?_ ?_
  ·by_cases hup:0≤t.up
   ·have hrow2:=q6w (g:=g) (n:=(m:Int)) (i:=i) (j:=t.up.toNat) (by omega)
    rw [uAt,if_pos (by omega),← Nat.zero_add t.up.toNat] at hrow2
    refine Zcr ?_
    refine Zb0 ?_
    refine Z8 ?_
    refine Zei ?_
    refine Zeo ?_
    refine Zh ?_
    refine qb rfl rfl (fun hg6=>?_) (fun hg6=>?_)
    ·refine Z5f ?_
     refine Zep ?_
     refine Zca ?_
     refine Zei ?_
     refine Zeq ?_
     refine qf ?_
     (rw [Nat.zero_add,q4s];exact q2d Y6 (.inl rfl))
    ·refine Z4a ?_
     refine Z28 ?_
     refine qb rfl rfl (fun hg10=>?_) (fun hg10=>?_)
     ·refine Zer ?_
      refine Z39 ?_
      refine q2n rfl rfl (by decide) (qcg rfl (lk rfl rfl) rfl rfl rfl hup (by omega)) ?_
      refine q2n rfl rfl (by decide) (qi (v:=.bool _) rfl (lk rfl rfl) rfl hrow2 rfl) ?_
      refine Zch ?_
      refine Zei ?_
      refine Zes ?_
      refine qf ?_
      (rw [Nat.zero_add,q4s];exact q2d Y6 (.inl rfl))
     ·refine Zq ?_
      refine Z7j ?_
      refine Zr ?_
      refine Zei ?_
      refine ao2 Y1b (q25 (sz:=1) (v:=.bool _) (r':=[.bool (uU g m i)]) rfl rfl rfl rfl hrow0 rfl rfl rfl Y13 (by rw [hat];(exfalso;simp at hg10;omega))) ?_
      refine qf ?_
      (rw [Nat.zero_add,q4s];exact q2d Y6 (.inl rfl))
   ·refine Zb2 ?_
    refine Zb0 ?_
    refine Z8 ?_
    refine Zei ?_
    refine Zeo ?_
    refine Zh ?_
    refine qb rfl rfl (fun hg6=>?_) (fun hg6=>?_)
    ·refine Z5f ?_
     refine Zep ?_
     refine Zca ?_
     refine Zei ?_
     refine Zeq ?_
     refine qf ?_
     (rw [Nat.zero_add,q4s];exact q2d Y6 (.inl rfl))
    ·refine Z4a ?_
     refine Z28 ?_
     refine qb rfl rfl (fun hg10=>?_) (fun hg10=>?_)
     ·exfalso;simp at hg10;omega
     ·refine Zq ?_
      refine Z7j ?_
      refine Zr ?_
      refine Zei ?_
      refine Zes ?_
      refine qf ?_
      (rw [Nat.zero_add,q4s];exact q2d Y6 (.inl rfl))
  refine Zb2 ?_
  refine Zei ?_
  refine ao1 (by decide) (qi (v:=.bool _) rfl (lk rfl rfl) rfl hrow1 rfl) ?_
  refine Z9 ?_
  refine qa rfl (fun hc=>?_) (fun hc=>?_)
  ·refine Zb2 ?_
   refine Zb8 ?_
   rw [show ((idx (uU g (m:Int)) i).map q3u).take (idx (uU g (m:Int)) i).length=(idx (uU g (m:Int)) i).map q3u from List.take_of_length_le (by simp)]
   refine Z5l ?_
   refine ⟨i+1,by omega,by omega,by rw [hstep,if_pos hc,List.length_append];exact Y6,Fit.loc hB (by rw [hstep,if_pos hc];simp only [List.length_append,List.length_cons,List.length_nil,List.map_append,List.map_cons,List.map_nil];rfl) Y1 (hbel _ _ _ _)⟩
  ·refine Z5l ?_
   refine ⟨i+1,by omega,by omega,by rw [hstep,if_neg (by simp [hc]),List.append_nil];exact Y6,Fit.loc hB (L':=_) (G:=[_]) (by rw [hstep,if_neg (by simp [hc]),List.append_nil];rfl) Y1 (hbel _ _ _ _)⟩
 ·have:i=g.length:=by simp at hc;omega
  subst this
  refine Zba ?_
  refine qu (ys:=(idx (uU g m) g.length).map q3u) 4 rfl rfl rfl rfl Yg (by simp) (q1y 0 _) ?_
  exact Zbb
end Go.Av
namespace Go.Av
theorem q3i (g:List Thing) (h:List Int):∀ k,(q4e g h k).length=k
 | 0=>rfl
 | k+1=>by rw [q4e,List.length_append,q3i g h k];rfl
theorem qan (g:List Thing) (h:List Int) {j k:Nat} (hj:j<k):∀ m,k≤m→(q4e g h m).getD j 0=(q4e g h k).getD j 0
 | 0,e=>by omega
 | m+1,e=>by
  rcases Nat.lt_or_eq_of_le e with h1 | h1
  ·rw [q4e,List.getD_eq_getElem?_getD,List.getElem?_append_left (by rw [q3i];omega),← List.getD_eq_getElem?_getD]
   exact qan g h hj m (by omega)
  ·rw [h1]
def wW (g:List Thing) (h:List Int) (j:Nat):Int:=(q4e g h g.length).getD j 0
theorem qwh {g:List Thing} {h:List Int} {j:Nat} {t:Thing} (ht:g[j]?=some t) (hu:t.up<(j:Int)):wW g h j=if 0≤t.up then max (h.getD j 0) (wW g h t.up.toNat) else h.getD j 0:=by
 have hj:j<g.length:=(List.getElem?_eq_some_iff.1 ht).1
 have e:qh3 g j=t.up:=by rw [qh3,ht]
 rw [wW,qan g h (Nat.lt_succ_self j) g.length (by omega),q4e,List.getD_eq_getElem?_getD,List.getElem?_append_right (by rw [q3i];exact Nat.le_refl _),q3i,Nat.sub_self,e]
 simp only [List.getElem?_cons_zero,Option.getD_some]
 by_cases h0:0≤t.up
 ·rw [if_pos h0,if_pos h0,wW,qan g h (k:=j) (by omega) g.length (by omega)]
 ·rw [if_neg h0,if_neg h0]
def wAt (g:List Thing) (h:List Int) (i j:Nat):Int:=if j<i then wW g h j else h.getD j 0
def qje (g:List Thing) (h:List Int) (i:Nat):List Int:=(List.range g.length).map (wAt g h i)
theorem qlp (g:List Thing) (h:List Int) (i:Nat):(qje g h i).length=g.length:=by simp [qje]
theorem q6r {g:List Thing} {h:List Int} {i j:Nat} (hj:j<g.length):(qje g h i)[j]?=some (wAt g h i j):=by simp [qje,hj]
theorem qv3 (g:List Thing) (h:List Int) (i:Nat):(qje g h i).set i (wW g h i)=qje g h (i+1):=by
 apply List.ext_getElem?
 intro j
 rw [List.getElem?_set]
 by_cases hj:j<g.length
 ·rw [q6r hj]
  by_cases e:i=j
  ·subst e;rw [if_pos rfl,if_pos (by rw [qlp];exact hj),q6r hj,wAt,if_pos (by omega)]
  ·rw [if_neg e,q6r hj]
   have:(j<i+1)↔(j<i):=by omega
   simp only [wAt,this]
 ·rw [List.getElem?_eq_none Yz,List.getElem?_eq_none Yz]
  split
  ·rw [if_neg Yz]
  ·rfl
theorem qsl {g:List Thing} {h:List Int} (e:h.length=g.length):qje g h 0=h:=by
 apply List.ext_getElem?
 intro j
 by_cases hj:j<g.length
 ·rw [q6r hj,wAt,if_neg (by omega),List.getD_eq_getElem?_getD,List.getElem?_eq_getElem (by omega)];rfl
 ·rw [List.getElem?_eq_none Yz,List.getElem?_eq_none (by omega)]
theorem qsn {g:List Thing} {h:List Int} {i:Nat} (e:wW g h i=h.getD i 0):qje g h (i+1)=qje g h i:=by
 refine List.map_congr_left fun j _=>?_
 simp only [wAt]
 by_cases h1:j<i
 ·rw [if_pos h1,if_pos (by omega)]
 ·by_cases h2:j=i
  ·subst h2;rw [if_pos (by omega),if_neg (by omega),e]
  ·rw [if_neg h1,if_neg (by omega)]
theorem qve (g:List Thing) (h:List Int):qje g h g.length=q4e g h g.length:=by
 apply List.ext_getElem?
 intro j
 by_cases hj:j<g.length
 ·rw [q6r hj,wAt,if_pos hj,wW,List.getD_eq_getElem?_getD,List.getElem?_eq_getElem (by rw [q3i];omega)];rfl
 ·rw [List.getElem?_eq_none Yz,List.getElem?_eq_none (by rw [q3i];omega)]
theorem qqz {g:List Thing} {h:List Int} {k:Nat} {x:Int} (hx:(q4e g h g.length)[k]?=some x):x=wW g h k:=by
 rw [wW,List.getD_eq_getElem?_getD,hx];rfl
theorem q2z {g:List Thing} {h:List Int} (e:q2o g h=true):q1o g=true∧h.length=g.length∧(h.any fun n=>decide (n<0)||decide (2<n))=false:=by
 simp only [q2o,Bool.and_eq_true,decide_eq_true_eq,Bool.not_eq_true'] at e;exact ⟨e.1.1,e.1.2,e.2⟩
end Go.Av
namespace Go.Av
open Go.Proofs
theorem q93 (l:List Thing) (H:qj) (hn:l.length≤1000000):AC Tryz.prog 52 [.pl (l.map qq)] H (Ret (.pl (l.map qq)) H):=by
 refine AC.body (N:=8) [.tmp 2] Tryz.func52 rfl rfl rfl (Nat.le_of_ble_eq_true rfl) fun B hB=>?_
 refine Z4p ?_
 refine q7q rfl Y11 (qcb rfl rfl _ _ _ _) ?_ (fun _ _ h=>h.elim)
 rintro _ _ ⟨nb,rfl,hnb,rfl⟩
 refine Z4r ?_
 refine qa rfl (fun hc=>?_) (fun hc=>?_)
 ·subst hc
  have hb:l=[]:=by
   cases l with
   | nil=>rfl
   | cons x b=>simp at hnb
  subst hb
  refine Z4t ?_
  exact q33 (q4d hB (q3t rfl .nil) rfl rfl)
 ·refine Z4v ?_
  refine ao2 Y11 (q55 (sz:=3) (bytes:=32) rfl (Src.pl rfl (qfa l)) rfl (by decide) Y1c Y1c (qnm 0 l)) ?_
  exact Z4y
theorem q9j (l:List Int) (H:qj) (hn:l.length≤1000000):AC Tryz.prog 109 [.pl (l.map eI)] H (Ret (.sl (Lid H.length 0) 0 0 l.length l.length) (H++[⟨0,1,l.map eI⟩])):=by
 refine AC.body (N:=8) [.tmp 2] Tryz.func109 rfl rfl rfl (Nat.le_of_ble_eq_true rfl) fun B hB=>?_
 refine Z4p ?_
 refine q7q rfl Y11 (qcb rfl rfl _ _ _ _) ?_ (fun _ _ h=>h.elim)
 rintro _ _ ⟨nb,rfl,hnb,rfl⟩
 refine Z4r ?_
 refine qa rfl (fun hc=>?_) (fun hc=>?_)
 ·subst hc
  have hb:l=[]:=by
   cases l with
   | nil=>rfl
   | cons x b=>simp at hnb
  subst hb
  refine Z4m ?_
  try dsimp only [List.length_nil]
  refine Z1d ?_
  refine q22 (k:=0) 2 1 rfl (by decide) rfl ?_
  exact q33 (qfb (G:=[]) hB (q3t rfl .nil) rfl rfl Y12 (by simp))
 ·refine Z4v ?_
  refine ao2 Y11 (q4b rfl (Src.pl rfl (qml l)) rfl (by decide) Y1c Y1c rfl) ?_
  refine Zb5 ?_
  refine Z9e ?_
  refine Z1 ?_
  exact qfb (G:=[]) hB (q3t rfl .nil) (congrArg (fun n=>AV.sl (Lid H.length 0) 0 0 n n) (show (l.map eI).length=l.length by simp)) (by simp) Y12 Y9
theorem qag (F:Nat) [FnI Tryz.prog F] (p:Int→Bool) (hF:∀ (x:Int) (H:qj),AC Tryz.prog F [.int .i64 x] H (Ret (.bool (p x)) H)) (l:List Int) (H:qj) (hl:l.length≤1000000):AC Tryz.prog 162 [.pl (l.map eI),.fn (.func F) [] []] H (Ret (.int .i64 (ixf p l)) H):=by
 refine AC.body (N:=19) [.tmp 4] Tryz.func162 rfl rfl rfl (Nat.le_of_ble_eq_true rfl) fun B hB=>?_
 refine Z9i ?_
 refine qm (G:=Nat) (fun k=>k≤l.length∧∀ y∈l.take k,p y=false) (fun k=>[(0,.pl (l.map eI)),(1,.fn (.func F) [] []),(7,.int .i64 (l.length:Int)),(8,.int .i64 (k:Int))]) (fun _=>H++[]) (fun k=>l.length-k) 0 ⟨Nat.zero_le _,by simp⟩ Y6 (Fit.refl _ _) ?_
 rintro k ⟨hk,hno⟩
 refine Z5a ?_
 refine qa rfl (fun hc=>?_) (fun hc=>?_)
 ·have hlt:k<l.length:=by simpa using hc
  obtain ⟨x,hx,hxl⟩:=qo hlt
  have hr:=qh eI hx
  refine Z1c ?_
  refine Z1v ?_
  refine Zc7 ?_
  refine Z5d ?_
  refine ao2 Y11 (V2.callv (hF x _) rfl rfl) ?_
  refine Z4r ?_
  refine qa rfl (fun hc=>?_) (fun hc=>?_)
  ·refine Z1w ?_
   rw [q9k hx hc hno]
   exact Zb
  ·refine Z5l ?_
   refine ⟨k+1,by omega,⟨by omega,?_⟩,Y6,.refl _ _⟩
   rw [ql hx]
   intro y hy
   rcases List.mem_append.1 hy with h | h
   ·exact hno y h
   ·simp only [List.mem_singleton] at h
    subst h
    exact hc
 ·have:k=l.length:=by simp at hc;omega
  subst this
  rw [List.take_length] at hno
  rw [q9z hno]
  exact Z19
theorem q8h (F:Nat) [FnI Tryz.prog F] (p:Int→Bool) (hF:∀ (x:Int) (H:qj),AC Tryz.prog F [.int .i64 x] H (Ret (.bool (p x)) H)) (l:List Int) (H:qj) (hl:l.length≤1000000):AC Tryz.prog 122 [.pl (l.map eI),.fn (.func F) [] []] H (Ret (.bool (l.any p)) H):=by
 refine AC.body (N:=9) [.tmp 4] Tryz.func122 rfl rfl rfl (Nat.le_of_ble_eq_true rfl) fun B hB=>?_
 refine Z1r ?_
 refine Z4o ?_
 refine Z1u ?_
 refine ao2 Y11 (V2.call (qag F p hF l _ hl) rfl) ?_
 refine Z1s ?_
 refine Z1q ?_
 try dsimp only [put]
 refine Z1 ?_
 rw [← q6g]
 exact Zb
theorem qdx (n:Int) (H:qj):AC Tryz.prog 123 [.int .i64 n] H (Ret (.bool (decide (n<0)||decide (2<n))) H):=by
 refine AC.body (N:=9) [.tmp 2] Tryz.func123 rfl rfl rfl (Nat.le_of_ble_eq_true rfl) fun B hB=>?_
 refine Zf ?_
 refine qn 2 (.bool (decide (n<0)||decide (2<n))) ?_ ?_
 ·refine Zw ?_
  refine qb rfl rfl (fun hg2=>?_) (fun hg2=>?_)
  ·refine Z3j ?_
   refine Zn ?_
   exact Zo
  ·refine Zj ?_
   refine Z3n ?_
   refine Zs ?_
   exact Zo
 exact Z22
theorem qi7 (g:List Thing) (h:List Int) (H:qj) (hl:g.length≤1000000) (hh:h.length≤1000000):AC Tryz.prog 72 [.pl (g.map qq),.pl (h.map eI)] H (Ret (.bool (q2o g h)) H):=by
 have hl2:g.length≤9223372036854775807:=by omega
 refine AC.body (N:=19) [.tmp 4] Tryz.func72 rfl rfl rfl (Nat.le_of_ble_eq_true rfl) fun B hB=>?_
 refine Zf ?_
 refine qn 4 (.bool (q2o g h)) ?_ ?_
 ·refine Z4n ?_
  refine Zet ?_
  refine Zh ?_
  refine qb rfl rfl (fun hg2=>?_) (fun hg2=>?_)
  ·refine Zcw ?_
   refine Zeu ?_
   refine Z3b ?_
   refine qb rfl rfl (fun hg9=>?_) (fun hg9=>?_)
   ·refine Zc3 ?_
    refine q5b rfl rfl (by decide) (V2.call (q8h 123 _ qdx h _ hh) rfl) ?_
    refine Z1y ?_
    refine Zn ?_
    exact Zev
   ·refine Z21 ?_
    exact Zev
  ·refine Zq ?_
   refine Z3g ?_
   exact qf (Out.mk (by (refine congrArg AV.bool ?_;(simp only [q2o];clear hB;(simp_all;done)))) Yb)
 exact Z22
theorem qpc (g:List Thing) (H:qj) (hl:g.length≤1000000):AC Tryz.prog 53 [.pl (g.map qq)] H (Ret (.pl ((if q1o g then List.replicate g.length (0:Int) else []).map eI)) H):=by
 have hl2:g.length≤9223372036854775807:=by omega
 refine AC.body (N:=9) [.tmp 2] Tryz.func53 rfl rfl rfl (Nat.le_of_ble_eq_true rfl) fun B hB=>?_
 refine Z4p ?_
 refine Zet ?_
 refine Z4d ?_
 refine qa rfl (fun hc=>?_) (fun hc=>?_)
 ·have hno:q1o g=false:=by simpa only [Bool.not_eq_true'] using hc
  rw [hno]
  refine Z4t ?_
  exact q33 (q4d hB (q3t rfl .nil) rfl rfl)
 have hyes:q1o g=true:=by simpa only [Bool.not_eq_false'] using hc
 rw [hyes,if_pos rfl]
 have hml:(g.map qq).length=g.length:=by simp
 refine Z8u ?_
 refine ao2 Y11 (q38 (n:=g.length) (c:=g.length) (bytes:=8) rfl (by decide) (congrArg (fun k:Nat=>AV.int .i64 (k:Int)) hml) (congrArg (fun k:Nat=>AV.int .i64 (k:Int)) hml) (Nat.le_refl _) (by omega) (by omega) rfl) ?_
 refine Zb5 ?_
 refine Zeh ?_
 refine Z1d ?_
 refine qu (ys:=(List.replicate g.length (0:Int)).map eI) 2 rfl rfl rfl rfl (by rw [List.drop_zero,List.take_of_length_le (by simp),List.map_replicate]) (by simp) (qcl 0 _) ?_
 exact Zbb
set_option maxHeartbeats 0 in
theorem qib (g:List Thing) (h:List Int) (H:qj) (hg:q1o g=true) (hh:h.length=g.length):AC Tryz.prog 131 [.pl (g.map qq),.pl (h.map eI)] H (Ret (.pl ((q4e g h g.length).map eI)) H):=by
 have hlen:=q1w hg
 refine AC.body (N:=35) [.tmp 4] Tryz.func131 rfl rfl rfl (Nat.le_of_ble_eq_true rfl) fun B hB=>?_
 refine Z4p ?_
 refine ao2 Y11 (V2.callo (q9j h _ (by omega)) rfl rfl) ?_
 refine Zb5 ?_
 refine Z9e ?_
 rw [hh]
 refine Z9h ?_
 refine qm (G:=Nat) (fun i=>i≤g.length) (fun i=>[(5,.sl (Lid H.length 0) 0 0 g.length g.length),(10,.pl (g.map qq)),(11,.int .i64 ((g.map qq).length:Int)),(12,.int .i64 (i:Int))]) (fun i=>H++[⟨0,1,(qje g h i).map eI⟩]) (fun i=>g.length-i) 0 (Nat.zero_le _) Y6 (.inl (by rw [qsl hh])) ?_
 intro i hi
 refine Z5a ?_
 refine qa rfl (fun hc=>?_) (fun hc=>?_)
 ·have hlt:i<g.length:=by simpa using hc
  obtain ⟨t,ht,htl⟩:=qo hlt
  have hr:=qh qq ht
  obtain ⟨hu1,hu2⟩:=q34 hg ht
  have hat:=qwh (h:=h) ht hu1
  refine Zcz ?_
  refine Zd0 ?_
  refine Z3 ?_
  refine Zd1 ?_
  refine Zen ?_
  refine Z4i ?_
  refine Z1s ?_
  refine Z55 ?_
  clear hr
  refine Z1 ?_
  refine qa rfl (fun hc=>?_) (fun hc=>?_)
  ·have hup:0≤t.up:=by simpa using hc
   rw [if_pos hup] at hat
   have hr0:((qje g h i).map eI)[0+i]?=some [.int .i64 (h.getD i 0)]:=by rw [Nat.zero_add,List.getElem?_map,q6r hlt,wAt,if_neg (by omega)];rfl
   have hr1:((qje g h i).map eI)[0+t.up.toNat]?=some [.int .i64 (wW g h t.up.toNat)]:=by rw [Nat.zero_add,List.getElem?_map,q6r (by omega),wAt,if_pos (by omega)];rfl
   have q4s:((qje g h i).map eI).set (0+i) [.int .i64 (wW g h i)]=(qje g h (i+1)).map eI:=by rw [Nat.zero_add,← qv3,List.map_set]
   refine q2y mixed (some 13) 2 ?_
   refine Za9 ?_
   refine Zex ?_
   refine Zey ?_
   refine Zez ?_
   refine aqp 4 rfl Y17 (by decide) (fun G=>q2a rfl (lk rfl rfl) rfl rfl rfl (by omega)) ?_
   refine aqp 5 rfl Y17 (by decide) (fun G=>qi (v:=.int _ _) rfl (lk rfl rfl) rfl hr0 rfl) ?_
   refine aq0 6 rfl Y17 (by decide) (fun _=>qd (v:=.sl _ _ _ _ _) rfl) ?_
   refine Zf0 ?_
   refine Zf1 ?_
   refine aqp 9 rfl Y17 (by decide) (fun G=>qcg rfl (lk rfl rfl) rfl rfl rfl hup (by omega)) ?_
   refine aqp 10 rfl Y17 (by decide) (fun G=>qi (v:=.int _ _) rfl (lk rfl rfl) rfl hr1 rfl) ?_
   refine aq0 11 rfl Y17 (by decide) (fun _=>qux (r:=wW g h i) rfl rfl hat.symm) ?_
   refine aqp 12 rfl Y17 (by decide) (fun G=>q2a rfl (lk rfl rfl) rfl rfl rfl (by omega)) ?_
   refine aqs 13 rfl Y17 Yv Y1b (q25 (sz:=1) (v:=.int _ _) (r':=[.int .i64 (wW g h i)]) rfl rfl rfl rfl hr0 rfl rfl rfl Y13 rfl) ?_
   refine Zf2 ?_
   rw [q4s]
   refine Z5l ?_
   exact ⟨i+1,by omega,by omega,Y6,Fit.loc hB rfl Y1 Y9⟩
  ·have hup:¬ 0≤t.up:=by simpa using hc
   rw [if_neg hup] at hat
   refine Z5l ?_
   refine ⟨i+1,by omega,by omega,Y6,Fit.loc hB (G:=[_]) (by rw [qsn hat];rfl) Y1 Y9⟩
 ·have:i=g.length:=by simp at hc;omega
  subst this
  rw [qve]
  refine Zba ?_
  refine qu (ys:=(q4e g h g.length).map eI) 4 rfl rfl rfl rfl (by rw [List.drop_zero,List.take_of_length_le (by simp [q3i])]) (by simp [q3i]) (qcl 0 _) ?_
  exact Zbb
def hbP (g:List Thing) (h:List Int) (most:Int) (k:Nat):Bool:=decide ((q4e g h g.length).getD k 0≤most)
set_option maxHeartbeats 0 in
theorem qhu (g:List Thing) (h:List Int) (most:Int) (H:qj) (hl:g.length≤1000000) (hh:h.length≤1000000):AC Tryz.prog 78 [.pl (g.map qq),.pl (h.map eI),.int .i64 most] H (Ret (.pl ((q21 g h most).map eI)) H):=by
 refine AC.body (N:=32) [.tmp 6] Tryz.func78 rfl rfl rfl (Nat.le_of_ble_eq_true rfl) fun B hB=>?_
 refine Zbc ?_
 refine Zf3 ?_
 refine Z4d ?_
 refine qa rfl (fun hc=>?_) (fun hc=>?_)
 ·have hno:q2o g h=false:=by simpa only [Bool.not_eq_true'] using hc
  rw [show q21 g h most=[] by rw [q21,hno];rfl]
  refine Zbd ?_
  exact q33 (q4d hB (q3t rfl .nil) rfl rfl)
 have hyes:q2o g h=true:=by simpa only [Bool.not_eq_false'] using hc
 obtain ⟨hg,hh2,_⟩:=q2z hyes
 have hlen:=q1w hg
 rw [show q21 g h most=idx (hbP g h most) g.length by rw [q21,hyes];rfl]
 have hwl:((q4e g h g.length).map eI).length=g.length:=by rw [List.length_map,q3i]
 clear hc
 refine Z4s ?_
 refine Zc4 ?_
 refine Zf4 ?_
 refine Z4n ?_
 refine q13 (qib _ _ _ Y1d Y1d) rfl (by decide) ?_
 refine Zf5 ?_
 refine Zc5 ?_
 refine Z1d ?_
 refine qm (G:=Nat) (fun i=>i≤g.length) (fun i=>[(2,.int .i64 most),(7,.sl (Lid H.length 0) (idx (hbP g h most) i).length 0 (idx (hbP g h most) i).length (idx (hbP g h most) i).length),(16,.pl ((q4e g h g.length).map eI)),(17,.int .i64 (((q4e g h g.length).map eI).length:Int)),(18,.int .i64 (i:Int))]) (fun i=>H++[⟨(idx (hbP g h most) i).length,1,(idx (hbP g h most) i).map eI⟩]) (fun i=>g.length-i) 0 (Nat.zero_le _) Y6 (Fit.refl _ _) ?_
 intro i hi
 refine Z5a ?_
 refine qa rfl (fun hc=>?_) (fun hc=>?_)
 ·have hlt:i<g.length:=by rw [hwl] at hc;simpa using hc
  obtain ⟨x,hx,hxl⟩:=qo (l:=q4e g h g.length) (k:=i) (by rw [q3i];exact hlt)
  have hr:=qh eI hx
  have hxw:=qqz hx
  have hstep:=q5t (hbP g h most) i
  have hil:=q62 (hbP g h most) i
  have hP:hbP g h most i=decide (x≤most):=by rw [hbP,hxw];rfl
  refine Z12 ?_
  refine Z5d ?_
  refine Z16 ?_
  refine Z2t ?_
  refine Zg ?_
  refine Z9 ?_
  refine qa rfl (fun hc=>?_) (fun hc=>?_)
  ·have hp:hbP g h most i=true:=by rw [hP];exact hc
   refine Zcr ?_
   refine Zb3 ?_
   refine Zct ?_
   rw [show ((idx (hbP g h most) i).map eI).take (idx (hbP g h most) i).length=(idx (hbP g h most) i).map eI from List.take_of_length_le (by simp)]
   refine Z5l ?_
   refine ⟨i+1,by omega,by omega,by rw [hstep,if_pos hp,List.length_append];exact Y6,Fit.loc hB (by rw [hstep,if_pos hp];simp only [List.length_append,List.length_cons,List.length_nil,List.map_append,List.map_cons,List.map_nil];rfl) Y1 Y9⟩
  ·have hp:¬ hbP g h most i=true:=by rw [hP];simpa using hc
   refine Z5l ?_
   refine ⟨i+1,by omega,by omega,by rw [hstep,if_neg hp,List.append_nil];exact Y6,.inl (by rw [hstep,if_neg hp,List.append_nil])⟩
 ·have:i=g.length:=by rw [hwl] at hc;simp at hc;omega
  subst this
  refine Zba ?_
  refine qu (ys:=(idx (hbP g h most) g.length).map eI) 6 rfl rfl rfl rfl Yg (by simp) (qcl 0 _) ?_
  exact Zbb
theorem qg2 (g:List Thing) (h:List Int) (H:qj) (hl:g.length≤1000000) (hh:h.length≤1000000):AC Tryz.prog 41 [.pl (g.map qq),.pl (h.map eI)] H (Ret (.pl ((q21 g h 0).map eI)) H):=by
 refine AC.body (N:=8) [.tmp 4] Tryz.func41 rfl rfl rfl (Nat.le_of_ble_eq_true rfl) fun B hB=>?_
 refine Zbc ?_
 refine Zf6 ?_
 refine Z4w ?_
 refine Z9 ?_
 exact Zb
end Go.Av
namespace Go.Av
abbrev eN (x:Int):List AV:=[.int .i64 x]
abbrev qg (h:Held):List AV:=[.int .i64 h.id,.pl (h.things.map eN),.int .i64 h.frm,.int .i64 h.to]
theorem q6m (l:List Held):∀ r∈l.map qg,r.length=4:=q85 (e:=qg) (n:=4) (fun _=>rfl) l
theorem q1e (n:Nat) (l:List Held):∀ r∈l.map qg,AV.bels n r=true:=q83 (e:=qg) (fun _=>rfl) l
theorem qd6 {l:List Held} {i:Nat} {h:Held} (e:l[i]?=some h):q68 l i=(hmay h&&!(decide (0<i)&&decide (h.id≤q73 l (i-1)))&&!((l.take i).any fun x=>q3p x h)):=by rw [q68,e]
theorem qab {l:List Held} {i:Nat} {h:Held} (e:l[i]?=some h):q73 l i=h.id:=by rw [q73,e]
theorem q5j {l:List Held} {i:Nat} {h:Held} (e:l[i]?=some h):q4q l i=h:=by rw [q4q,List.getD_eq_getElem?_getD,e];rfl
def HW (l:List Held):Prop:=l.length≤1000000∧∀ h∈l,h.things.length≤1000000
theorem HW.take {l:List Held} (h:HW l) (k:Nat):HW (l.take k):=⟨Nat.le_trans Ys h.1,fun x hx=>h.2 x (List.mem_of_mem_take hx)⟩
structure LH where
 lo:Nat
 hi:Nat
theorem qa0 {l:List Held} {k:Nat} {h:Held} (e:l[k]?=some h) (frm to:Int):q5f (l.take (k+1)) frm to=if q79 h.frm h.to frm to then q7t (q5f (l.take k) frm to) h.things else q5f (l.take k) frm to:=by
 rw [q5f,q5f,List.take_add_one,e,List.foldl_append];rfl
theorem qk8 (op:Bool→Bool→Bool) (a b:List Int):(q4x op a b).length≤1000000:=Nat.le_trans (q5n op a b) (by decide)
theorem q9n:∀ (l:List Held) (frm to:Int),(q5f l frm to).length≤256:=by
 intro l frm to
 suffices h:∀ (l:List Held) (out:List Int),out.length≤256→(l.foldl (fun out h=>if q79 h.frm h.to frm to then q7t out h.things else out) out).length≤256 from h l [] (by decide)
 intro l
 induction l with
 | nil=>intro out h;exact h
 | cons x l ih =>
  intro out h
  rw [List.foldl_cons]
  refine ih _ ?_
  split
  ·exact q5n _ _ _
  ·exact h
theorem q4a {l:List Held} (h:q1s l=true):l.Pairwise (fun a b=>a.id<b.id):=(held_iff.1 h).2.2.1
section
variable {P : Program} {N : Nat} {B : Base} {ops : Array Oper} {a : Option Nat} {C : qj → Prop} {F : Env → qj → Prop}
variable {fuel : Nat} {listed : Array Bool} {env : Env} {H H0 L : qj} {op : Op} {ty : TypeId} {pos : String} {after : Array Edge} {v : AV}
theorem qyj {d:Nat} {L0:qj} (i:Nat) (hi:ops[i]?=some ⟨some d,op,ty,pos,after,none⟩) (hB:q5u ops listed a i=true) (hd:DN d N) (h1:∀ G,V2 P N op ty (renv ⟨some d,op,ty,pos,after,none⟩ env) (H0++(L0++G)) v (H0++(L0++G)))
  (h:AAny P N B ops a (Pre H0 L0) F fuel (listed.setIfInBounds i true) ((d,v) :: env) H):AAny P N B ops a (Pre H0 L0) F (fuel+1) listed env H :=
 aq2 i hi hB hd Yp h
theorem qys {d j g:Nat} {want:Bool} {L0:qj} (i:Nat) (hi:ops[i]?=some ⟨some d,op,ty,pos,after,some (j,want)⟩) (hB:q5u ops listed a i=true) (hd:DN d N) (hj:(ops[j]?).bind (·.dst)=some g) (hb:get env g = .bool want)
  (h1:∀ G,V2 P N op ty (renv ⟨some d,op,ty,pos,after,some (j,want)⟩ env) (H0++(L0++G)) v (H0++(L0++G)))
  (h:AAny P N B ops a (Pre H0 L0) F fuel (listed.setIfInBounds i true) ((d,v) :: env) H):AAny P N B ops a (Pre H0 L0) F (fuel+1) listed env H :=
 aqy2 i hi hB hd hj hb Yp h
end
end Go.Av
namespace Go.Av
open Go.Proofs
theorem qne (a b c d:Int) (H:qj):AC Tryz.prog 80 [.int .i64 a,.int .i64 b,.int .i64 c,.int .i64 d] H (Ret (.bool (q79 a b c d)) H):=by
 refine AC.body (N:=16) [.tmp 8] Tryz.func80 rfl rfl rfl (Nat.le_of_ble_eq_true rfl) fun B hB=>?_
 refine Zf ?_
 refine qn 8 (.bool (q79 a b c d)) ?_ ?_
 ·refine Z30 ?_
  refine ao1 (by decide) (qux (r:=max a c) rfl rfl rfl) ?_
  refine Z30 ?_
  refine ao1 (by decide) (qyf (r:=min b d) rfl rfl rfl) ?_
  refine Zu ?_
  refine Zd ?_
  exact Z11
 exact Z22
theorem qm3 (h:Held) (H:qj) (hw:h.things.length≤1000000):AC Tryz.prog 125 [.agg (qg h)] H (Ret (.bool (hmay h)) H):=by
 refine AC.body (N:=29) [.tmp 2] Tryz.func125 rfl rfl rfl (Nat.le_of_ble_eq_true rfl) fun B hB=>?_
 refine Zf8 ?_
 refine Z35 ?_
 refine qn 2 (.bool (hmay h)) ?_ ?_
 ·refine Z6d ?_
  refine Zf9 ?_
  refine qb rfl rfl (fun hg4=>?_) (fun hg4=>?_)
  ·refine Z68 ?_
   refine Zfa ?_
   refine Z3b ?_
   refine qb rfl rfl (fun hg9=>?_) (fun hg9=>?_)
   ·refine Z39 ?_
    refine Z5y ?_
    refine Z3b ?_
    refine qb rfl rfl (fun hg14=>?_) (fun hg14=>?_)
    ·refine Z39 ?_
     refine Z5y ?_
     refine Z3b ?_
     refine qb rfl rfl (fun hg19=>?_) (fun hg19=>?_)
     ·refine Z39 ?_
      refine Z41 ?_
      refine Zn ?_
      exact Zfb
     ·refine Z5o ?_
      exact Zfc
    ·refine Z99 ?_
     exact Zfc
   ·refine Z3f ?_
    refine Z99 ?_
    exact Zfb
  ·refine Z3f ?_
   refine Z3f ?_
   refine Z99 ?_
   exact Zfb
 exact Z22
theorem qnk (a b:Held) (H:qj) (ha:a.things.length≤1000000) (hb:b.things.length≤1000000):AC Tryz.prog 128 [.agg (qg a),.agg (qg b)] H (Ret (.bool (q3p a b)) H):=by
 refine AC.body (N:=22) [.tmp 4] Tryz.func128 rfl rfl rfl (Nat.le_of_ble_eq_true rfl) fun B hB=>?_
 refine Zf8 ?_
 refine Zf7 ?_
 refine Z1q ?_
 refine Z8r ?_
 refine qn 4 (.bool (q3p a b)) ?_ ?_
 ·refine Z7h ?_
  refine Z7h ?_
  refine Zfd ?_
  refine Zh ?_
  refine qb rfl rfl (fun hg9=>?_) (fun hg9=>?_)
  ·refine Z97 ?_
   refine q5b rfl rfl (by decide) (V2.call (qr9 _ _ (by omega) (by omega) _) rfl) ?_
   refine Z1y ?_
   refine Zn ?_
   exact Zfe
  ·refine Z2c ?_
   refine Zt ?_
   exact Zfe
 exact Z22
theorem qja (x y:Held) (ia:Nat) (H:qj) (hx:x.things.length≤1000000) (hy:y.things.length≤1000000) (ha:H[ia]?=some ⟨0,4,[qg y]⟩):AC Tryz.prog 127 [.agg (qg x),.pt ia 0 0 0] H (Ret (.bool (q3p x y)) H):=by
 have hF:=ha
 refine AC.body (N:=7) [.tmp 3] Tryz.func127 rfl rfl rfl (Nat.le_of_ble_eq_true rfl) fun B hB=>?_
 refine Zf8 ?_
 refine Z34 ?_
 refine Z4c ?_
 refine Zff ?_
 refine Zfg ?_
 exact Z1t
theorem qa5 (l:List Held) (h:Held) (ia:Nat) (H:qj) (hl:HW l) (hy:h.things.length≤1000000) (ha:H[ia]?=some ⟨0,4,[qg h]⟩) :
  AC Tryz.prog 165 [.pl (l.map qg),.fn (.func 127) [] [.pt ia 0 0 0]] H (Ret (.int .i64 (ixf (fun x=>q3p x h) l)) H):=by
 have hl1:=hl.1
 refine AC.body (N:=19) [.tmp 4] Tryz.func165 rfl rfl rfl (Nat.le_of_ble_eq_true rfl) fun B hB=>?_
 refine Z9i ?_
 refine qm (G:=Nat) (fun k=>k≤l.length∧∀ y∈l.take k,q3p y h=false) (fun k=>[(0,.pl (l.map qg)),(1,.fn (.func 127) [] [.pt ia 0 0 0]),(7,.int .i64 (l.length:Int)),(8,.int .i64 (k:Int))]) (fun _=>H++[]) (fun k=>l.length-k) 0 ⟨Nat.zero_le _,by simp⟩ Y6 (Fit.refl _ _) ?_
 rintro k ⟨hk,hno⟩
 refine Z5a ?_
 refine qa rfl (fun hc=>?_) (fun hc=>?_)
 ·have hlt:k<l.length:=by simp at hc;omega
  obtain ⟨x,hx,hxl⟩:=qo hlt
  have hr:=qh qg hx
  have hxw:=hl.2 x hxl
  refine Z1c ?_
  refine Z1v ?_
  refine Zfh ?_
  refine qgb (qja x h ia _ hxw hy (lkF ha)) rfl rfl (by decide) ?_
  refine Z9 ?_
  refine qa rfl (fun hc=>?_) (fun hc=>?_)
  ·refine Z1w ?_
   rw [q9k (p:=fun x:Held=>q3p x h) hx hc hno]
   exact Zb
  ·refine Z5l ?_
   refine ⟨k+1,by omega,⟨by omega,?_⟩,Y6,.refl _ _⟩
   rw [ql hx]
   intro y hy
   rcases List.mem_append.1 hy with h | h
   ·exact hno y h
   ·simp only [List.mem_singleton] at h
    subst h
    exact hc
 ·have:k=l.length:=by simp at hc;omega
  subst this
  rw [List.take_length] at hno
  rw [q9z hno]
  exact Z19
theorem q8g (l:List Held) (h:Held) (ia:Nat) (H:qj) (hl:HW l) (hy:h.things.length≤1000000) (ha:H[ia]?=some ⟨0,4,[qg h]⟩) :
  AC Tryz.prog 126 [.pl (l.map qg),.fn (.func 127) [] [.pt ia 0 0 0]] H (Ret (.bool (l.any fun x=>q3p x h)) H):=by
 refine AC.body (N:=9) [.tmp 4] Tryz.func126 rfl rfl rfl (Nat.le_of_ble_eq_true rfl) fun B hB=>?_
 refine Z1r ?_
 refine Z4o ?_
 refine Z1u ?_
 refine ao2 Y11 (V2.call (qa5 l h ia _ hl hy (lkF ha)) rfl) ?_
 refine Z1s ?_
 refine Z1q ?_
 try dsimp only [put]
 refine Z1 ?_
 rw [← q6g]
 exact Zb
set_option maxHeartbeats 0 in
theorem qf4 (l:List Held) (H:qj) (hl:HW l):AC Tryz.prog 76 [.pl (l.map qg)] H (Ret (.bool (q1s l)) H):=by
 have hl1:=hl.1
 refine AC.body (N:=41) [.tmp 2] Tryz.func76 rfl rfl rfl (Nat.le_of_ble_eq_true rfl) fun B hB=>?_
 refine Z8v ?_
 refine Z2q ?_
 refine qa rfl (fun hc=>?_) (fun hc=>?_)
 ·have h256:¬ l.length≤256:=by simp at hc;omega
  refine Zf ?_
  rw [show q1s l=false by rw [q1s,decide_eq_false h256,Bool.false_and]]
  exact Zb
 have h256:l.length≤256:=by simp at hc;omega
 rw [show q1s l=qh4 (q68 l) l.length by rw [q1s,decide_eq_true h256,Bool.true_and]]
 refine Z9h ?_
 refine qm (G:=Nat) (fun i=>i≤l.length∧∀ k,k<i→q68 l k=true) (fun i=>[(0,.pl (l.map qg)),(8,.pl (l.map qg)),(9,.int .i64 (l.length:Int)),(10,.int .i64 (i:Int))]) (fun _=>H++[]) (fun i=>l.length-i) 0 ⟨Nat.zero_le _,fun k hk=>by omega⟩ Y6 (Fit.refl _ _) ?_
 rintro i ⟨hi,hno⟩
 refine Z5a ?_
 refine qa rfl (fun hc=>?_) (fun hc=>?_)
 ·have hlt:i<l.length:=by simp at hc;omega
  obtain ⟨h,hh,hhl⟩:=qo hlt
  have hr:=qh qg hh
  have hw:=hl.2 h hhl
  have hB2:=qd6 hh
  have hno0:=hno
  have hli:((l.map qg).take i)=(l.take i).map qg:=by rw [List.map_take]
  clear hno hc
  refine Zcz ?_
  refine Z9d ?_
  refine Z3 ?_
  refine Zfi ?_
  refine Zd3 ?_
  clear hr
  by_cases h0:0<i
  ·obtain ⟨h1,hh1,_⟩:=qo (l:=l) (k:=i-1) (by omega)
   have hr1:=qh qg hh1
   rw [qab hh1,decide_eq_true h0,Bool.true_and] at hB2
   clear hh hhl hh1
   refine Z1 ?_
   refine q1l 39 (.bool (!q68 l i)) ?_ ?_
   ·refine Zd5 ?_
    refine Zfj ?_
    refine Zfk ?_
    refine Zfl ?_
    refine Z9z ?_
    refine qp (g:=18) rfl (fun hg3=>?_) (fun hg3=>?_)
    ·refine Zfm ?_
     refine Zfn ?_
     refine Zfo ?_
     refine Zfp ?_
     refine Zfq ?_
     refine Zfr ?_
     refine Zfs ?_
     refine Zft ?_
     refine Zfu ?_
     refine Zfv ?_
     refine Zfw ?_
     refine Zfx ?_
     refine Zfy ?_
     refine Zfz ?_
     refine Zg0 ?_
     refine Zg1 ?_
     refine Zg2 ?_
     refine Zg3 ?_
     refine Zg4 ?_
     refine Zg5 ?_
     refine Zg6 ?_
     exact Zg7
    ·refine Zg8 ?_
     refine Zg9 ?_
     refine Zga ?_
     refine qp (g:=21) rfl (fun hg6=>?_) (fun hg6=>?_)
     ·refine q1j (g:=21) 7 rfl Y17 (by decide) rfl rfl (fun G=>qc rfl (lk rfl rfl) rfl (by decide)) ?_
      refine q1j (g:=21) 8 rfl Y17 (by decide) rfl rfl (fun G=>qi (v:=.int _ _) rfl (lk rfl rfl) rfl rfl rfl) ?_
      refine q1h (g:=21) 9 rfl Y17 (by decide) rfl rfl (fun _=>qd (v:=.pl _) rfl) ?_
      refine Zgb ?_
      refine q1h (g:=21) 11 rfl Y17 (by decide) rfl rfl (fun _=>q5p (r:=((i-1:Nat):Int)) rfl rfl Y4) ?_
      refine q1j (g:=21) 12 rfl Y17 (by decide) rfl rfl (fun G=>qe rfl rfl hr1 rfl) ?_
      refine q1j (g:=21) 13 rfl Y17 (by decide) rfl rfl (fun G=>qx rfl (by decide)) ?_
      refine q1j (g:=21) 14 rfl Y17 (by decide) rfl rfl (fun G=>qz (v:=.int _ _) rfl hr1 rfl) ?_
      refine q1h (g:=21) 15 rfl Y17 (by decide) rfl rfl (fun _=>qqc rfl rfl) ?_
      refine q1h (g:=18) 16 rfl Y17 (by decide) rfl rfl (fun _=>q16 (v:=.bool _) rfl rfl) ?_
      refine Zgc ?_
      refine Zg0 ?_
      refine qp (g:=33) rfl (fun hg18=>?_) (fun hg18=>?_)
      ·refine Zg1 ?_
       refine Zg2 ?_
       refine Zg3 ?_
       refine Zg4 ?_
       refine Zg5 ?_
       refine Zg6 ?_
       exact Zg7
      ·refine Zgd ?_
       refine Zge ?_
       refine Zgf ?_
       refine Zgg ?_
       refine Zgh ?_
       refine Zgi ?_
       exact q1i Y17 Yv (Out.mk (by (refine congrArg AV.bool ?_;(rw [hB2];clear hB hr1 hB2 hno0 hli;(simp_all;omega)))) Yb)
     ·refine Zgj ?_
      refine Zgk ?_
      refine Zgl ?_
      refine Zgm ?_
      refine Zgn ?_
      refine Zgo ?_
      refine Zgp ?_
      refine Zgq ?_
      refine Zgr ?_
      refine Zgs ?_
      refine Zgc ?_
      refine Zg0 ?_
      refine Zgd ?_
      refine Zge ?_
      refine Zgf ?_
      refine Zgg ?_
      refine Zgh ?_
      refine Zgi ?_
      exact Zg7
   refine Z1 ?_
   refine qa rfl (fun hc=>?_) (fun hc=>?_)
   ·have hbad:q68 l i=false:=by simpa only [Bool.not_eq_true'] using hc
    refine Zf ?_
    rw [q1z hlt hbad]
    exact Zb
   ·have hgood:q68 l i=true:=by simpa only [Bool.not_eq_false'] using hc
    refine Z5l ?_
    refine ⟨i+1,by omega,⟨by omega,fun k hk=>?_⟩,Y6,Fit.loc hB (L:=[]) rfl Y1 (fun o ho=>by simp at ho)⟩
    rcases Nat.lt_or_eq_of_le (Nat.le_of_lt_succ hk) with h | h
    ·exact hno0 k h
    ·subst h;exact hgood
  ·rw [decide_eq_false h0,Bool.false_and,Bool.not_false,Bool.and_true] at hB2
   clear hh hhl
   refine Z1 ?_
   refine q1l 39 (.bool (!q68 l i)) ?_ ?_
   ·refine Zd5 ?_
    refine Zfj ?_
    refine Zfk ?_
    refine Zfl ?_
    refine Z9z ?_
    refine qp (g:=18) rfl (fun hg3=>?_) (fun hg3=>?_)
    ·refine Zfm ?_
     refine Zfn ?_
     refine Zfo ?_
     refine Zfp ?_
     refine Zfq ?_
     refine Zfr ?_
     refine Zfs ?_
     refine Zft ?_
     refine Zfu ?_
     refine Zfv ?_
     refine Zfw ?_
     refine Zfx ?_
     refine Zfy ?_
     refine Zfz ?_
     refine Zg0 ?_
     refine Zg1 ?_
     refine Zg2 ?_
     refine Zg3 ?_
     refine Zg4 ?_
     refine Zg5 ?_
     refine Zg6 ?_
     exact Zgt
    ·refine Zg8 ?_
     refine Zg9 ?_
     refine Zga ?_
     refine qp (g:=21) rfl (fun hg6=>?_) (fun hg6=>?_)
     ·exfalso;simp at hg6;omega
     ·refine Zgj ?_
      refine Zgk ?_
      refine Zgl ?_
      refine Zgm ?_
      refine Zgn ?_
      refine Zgo ?_
      refine Zgp ?_
      refine Zgq ?_
      refine Zgr ?_
      refine Zgs ?_
      refine Zgc ?_
      refine Zg0 ?_
      refine Zgd ?_
      refine Zge ?_
      refine Zgf ?_
      refine Zgg ?_
      refine Zgh ?_
      refine Zgi ?_
      exact Zgt
   refine Z1 ?_
   refine qa rfl (fun hc=>?_) (fun hc=>?_)
   ·have hbad:q68 l i=false:=by simpa only [Bool.not_eq_true'] using hc
    refine Zf ?_
    rw [q1z hlt hbad]
    exact Zb
   ·have hgood:q68 l i=true:=by simpa only [Bool.not_eq_false'] using hc
    refine Z5l ?_
    refine ⟨i+1,by omega,⟨by omega,fun k hk=>?_⟩,Y6,Fit.loc hB (L:=[]) rfl Y1 (fun o ho=>by simp at ho)⟩
    rcases Nat.lt_or_eq_of_le (Nat.le_of_lt_succ hk) with h | h
    ·exact hno0 k h
    ·subst h;exact hgood
 ·have:i=l.length:=by simp at hc;omega
  subst this
  refine Zf ?_
  rw [q2s hno]
  exact Zb
end Go.Av
namespace Go.Av
theorem q5w {j:Job} (h:q1q j=true):j.needs.length≤16:=by
 simp only [q1q,q78,Bool.and_eq_true,decide_eq_true_eq] at h;exact h.1.1.2.1
theorem qnf {l:List Job} {i k:Nat} (h:k<i):q1r (l.take i) k=q1r l k:=by
 rw [q1r,q1r,List.getD_eq_getElem?_getD,List.getD_eq_getElem?_getD,List.getElem?_take,if_pos h]
theorem qs8 {l:List Job} {i k:Nat} (h:k<i):qkn (l.take i) k=qkn l k:=by
 unfold qkn q8k
 rw [List.getElem?_take,if_pos h,List.take_take,Nat.min_eq_left (Nat.le_of_lt h)]
 cases l[k]? with
 | none=>rfl
 | some j =>
  simp only
  rw [qnf (by omega)]
theorem qhg {l:List Job} {i:Nat} (h64:l.length≤64) (h:∀ k,k<i→qkn l k=true):q24 (l.take i)=true:=by
 rw [q24,Bool.and_eq_true,decide_eq_true_eq]
 refine ⟨by rw [List.length_take];omega,q2s fun k hk=>?_⟩
 rw [List.length_take] at hk
 rw [qs8 (by omega)]
 exact h k (by omega)
theorem q76 {l:List Job} {i:Nat} (h64:l.length≤64) (h:∀ k,k<i→qkn l k=true):(l.take i).Pairwise (fun a b=>a.id<b.id):=(jobs_iff.1 (qhg h64 h)).2.2.1
theorem qgl {l:List Job} {i:Nat} {j:Job} (e:l[i]?=some j):qkn l i=(q1q j&&!(decide (0<i)&&(decide (j.id≤q8k l (i-1))||decide (j.came<(q1r l (i-1)).came)))&&j.needs.all fun n=>q29 (l.take i) n):=by rw [qkn,e]
theorem qdn {l:List Job} {i:Nat} {j:Job} (e:l[i]?=some j):q8k l i=j.id:=by rw [q8k,q12 e]
theorem q28 {l:List Job} (h:q24 l=true):l.Pairwise (fun a b=>a.id<b.id):=(jobs_iff.1 h).2.2.1
def qpf (l:List Job):Nat:=(l.filter fun j=>decide (j.state=2)).length
theorem qin {l:List Job} {k:Nat} {j:Job} (e:l[k]?=some j):qpf (l.take (k+1))=qpf (l.take k)+if decide (j.state=2) then 1 else 0:=by
 rw [qpf,qpf,List.take_add_one,e,List.filter_append,List.length_append]
 simp only [Option.toList_some,List.filter_cons,List.filter_nil]
 cases h:decide (j.state=2)<;>simp
theorem qq9 (l:List Job):qpf l≤l.length:=List.length_filter_le _ _
theorem q69 {i:Inst} {k:Nat} {j:Job} (e:i.jobs[k]?=some j):q58 i k=(decide (j.came≤i.now)&&decide (j.frm≤i.now)&&(decide (j.state≠2) ||
 ((q2g i.table j.id).2&&decide ((q2g i.table j.id).1.frm=j.frm)&&decide ((q2g i.table j.id).1.to=q1p j.spec j.frm) &&
  decide (i.now<(q2g i.table j.id).1.to)&&q27 i.graph (q2g i.table j.id).1.things))):=by rw [q58,q12 e]
theorem ql8 {l:List Held} (h:HW l) (id:Int):(q2g l id).1.things.length≤1000000:=by
 rw [q2g]
 split
 ·rename_i hh
  simp only [Bool.and_eq_true,q23,decide_eq_true_eq] at hh
  obtain ⟨x,hx,hxl⟩:=qo hh.2.1
  simp only [q5j hx]
  exact h.2 x hxl
 ·decide
structure IW (i : Inst) : Prop where
 graph:i.graph.length≤1000000
 health:i.health.length≤1000000
 lease:i.lease.length≤1000000
 jobs:i.jobs.length≤1000000
 table:HW i.table
theorem q9g (g:List Thing) (h:List Int) (m:Int):(q21 g h m).length≤256:=by
 rw [q21]
 split
 ·rename_i hh
  exact Nat.le_trans (q62 _ _) (q1w (q2z hh).1).2
 ·decide
theorem qci (l:List Held) (a b:Int):(q3c l a b).length≤256:=by
 rw [q3c]
 split
 ·exact q9n l a b
 ·decide
theorem qfj (w:Inst):(q31 w).length≤256:=q5n _ _ _
theorem quy (i:Inst):(q9h i).length≤256:=by
 rw [q9h]
 split
 ·decide
 ·exact q5n _ _ _
theorem qc4 {i:Inst} (h:q2c i=true):q24 i.jobs=true:=by
 simp only [q2c,Bool.and_eq_true] at h;exact h.1.1.2
theorem qb0 {i:Inst} (h:q2c i=true):q1s i.table=true:=by
 simp only [q2c,Bool.and_eq_true] at h;exact h.1.2
theorem qdq:∀ (l:List Held) (a b:Int),sok (q5f l a b)=true:=by
 intro l a b
 suffices h:∀ (l:List Held) (out:List Int),sok out=true→sok (l.foldl (fun out h=>if q79 h.frm h.to a b then q7t out h.things else out) out)=true from h l [] rfl
 intro l
 induction l with
 | nil=>intro out h;exact h
 | cons x l ih =>
  intro out h
  rw [List.foldl_cons]
  refine ih _ ?_
  split
  ·exact q51 _ _ _
  ·exact h
theorem qhp (l:List Held) (a b:Int):sok (q3c l a b)=true:=by
 rw [q3c]
 split
 ·exact qdq l a b
 ·rfl
def cn (p:Nat→Bool):Nat:=(List.range 256).countP p
theorem qvv {α:Type} [DecidableEq α]:∀ (R T:List α),R.Nodup→(∀ x∈R,x∈T)→T.length≤R.length→∀ y∈T,y∈R
 | [],T,_,_,hl,y,hy=>by
  cases T with
  | nil=>cases hy
  | cons a t=>simp at hl
 | x :: R,T,hnd,hs,hl,y,hy=>by
  have hx:=hs x List.mem_cons_self
  rw [List.nodup_cons] at hnd
  by_cases e:y=x
  ·rw [e];exact List.mem_cons_self
  ·refine List.mem_cons_of_mem _ (qvv R (T.erase x) hnd.2 (fun z hz=>?_) ?_ y ((List.mem_erase_of_ne e).2 hy))
   ·have hzx:z≠x:=fun h=>hnd.1 (h▸hz)
    exact (List.mem_erase_of_ne hzx).2 (hs z (List.mem_cons_of_mem _ hz))
   ·have:=List.length_erase_of_mem hx
    simp only [List.length_cons] at hl
    omega
theorem qqm {i:Inst} (h:q2c i=true):∀ x∈i.table,∃ j∈i.jobs,j.state=2∧j.id=x.id∧x.frm=j.frm∧x.frm≤i.now∧i.now<x.to∧x.to=q1p j.spec j.frm∧q27 i.graph x.things=true:=by
 have ht:=qb0 h
 have hj:=qc4 h
 have htold:q5c i=true:=by simp only [q2c,Bool.and_eq_true] at h;exact h.2
 rw [q5c,Bool.and_eq_true,decide_eq_true_eq] at htold
 obtain ⟨hall,hlen⟩:=htold
 have hrun:∀ j∈i.jobs,j.state=2→∃ x∈i.table,x.id=j.id∧x.frm=j.frm∧x.frm≤i.now∧i.now<x.to∧x.to=q1p j.spec j.frm∧q27 i.graph x.things=true:=by
  intro j hjm hst
  obtain ⟨k,hk⟩:=List.mem_iff_getElem?.1 hjm
  have hb:=q4f hall (List.getElem?_eq_some_iff.1 hk).1
  rw [q69 hk] at hb
  simp only [Bool.and_eq_true,Bool.or_eq_true,decide_eq_true_eq,hst,ne_eq,not_true_eq_false,false_or] at hb
  obtain ⟨⟨h1,h2⟩,⟨⟨⟨⟨h3,h4⟩,h5⟩,h6⟩,h7⟩⟩:=hb
  have hget:∃ x∈i.table,x.id=j.id:=by
   unfold q2g at h3
   split at h3
   ·rename_i hh
    rw [Bool.and_eq_true] at hh
    exact (q32 (held_iff.1 ht).2.2.1).1 hh.2
   ·cases h3
  obtain ⟨x,hx,hid⟩:=hget
  have he:=qa2 ht hx
  rw [hid] at he
  rw [he] at h4 h5 h6 h7
  exact ⟨x,hx,hid,h4,by simp only at h4;omega,h6,h5,h7⟩
 intro x hx
 have hp:=(held_iff.1 ht).2.2.1
 have hpj:=q28 hj
 have hsub:=qvv ((i.jobs.filter fun j=>decide (j.state=2)).map (·.id)) (i.table.map (·.id)) ?_ ?_ ?_ x.id (List.mem_map.2 ⟨x,hx,rfl⟩)
 ·obtain ⟨j,hjm,hid⟩:=List.mem_map.1 hsub
  rw [List.mem_filter,decide_eq_true_eq] at hjm
  obtain ⟨y,hy,hyid,r⟩:=hrun j hjm.1 hjm.2
  have:y=x:=qjf (f:=Held.id) hp hy hx (by rw [hyid,hid])
  subst this
  exact ⟨j,hjm.1,hjm.2,hid,r⟩
 ·exact (q8w (f:=Job.id) (hpj.sublist (List.filter_sublist))).imp fun h=>by omega
 ·intro n hn
  obtain ⟨j,hjm,rfl⟩:=List.mem_map.1 hn
  rw [List.mem_filter,decide_eq_true_eq] at hjm
  obtain ⟨y,hy,hyid,r⟩:=hrun j hjm.1 hjm.2
  exact List.mem_map.2 ⟨y,hy,hyid⟩
 ·rw [List.length_map,List.length_map,hlen];exact Nat.le_refl _
theorem tm_iff {t:Int}:tm t=true↔0≤t∧t≤4611686018427387904:=by simp [tm]
theorem q67 (g:List Thing) (h:List Int) (m:Int):sok (q21 g h m)=true:=by
 rw [q21]
 split
 ·rename_i hh
  exact qg3 _ (q1w (q2z hh).1).2
 ·rfl
theorem qbn {p:Nat→Bool} {n:Nat}:qh4 p n=true↔∀ i,i<n→p i=true:=⟨fun h i hi=>q4f h hi,q2s⟩
def g5B (g:List Thing) (i:Nat):Bool:=if i=0 then decide (g[0]?=some qba) else qkx g (i-1)
theorem qqr {g:List Thing} (h1:g.length≠0) (h2:g.length≤256):q1o g=qh4 (g5B g) g.length:=by
 rw [q1o,decide_eq_true (show 1≤g.length by omega),decide_eq_true h2,Bool.true_and,Bool.true_and,Bool.eq_iff_iff,Bool.and_eq_true,decide_eq_true_eq,qbn,qbn]
 constructor
 ·rintro ⟨a,b⟩ i hi
  rw [g5B]
  split
  ·rw [decide_eq_true_eq];exact a
  ·exact b (i-1) (by omega)
 ·intro h
  refine ⟨?_,fun i hi=>?_⟩
  ·have:=h 0 (by omega)
   rw [g5B,if_pos rfl,decide_eq_true_eq] at this
   exact this
  ·have:=h (i+1) (by omega)
   rw [g5B,if_neg (by omega),Nat.add_sub_cancel] at this
   exact this
theorem qfo {g:List Thing} {t:Thing} (h:g[0]?=some t):g5B g 0=(decide (t.kind=0)&&decide (t.up = -1)&&decide (t.tag=⟨#[]⟩)):=by
 rw [g5B,if_pos rfl,h,qba,Bool.eq_iff_iff]
 cases t
 simp [and_assoc]
theorem qh0 {g:List Thing} {i:Nat} {t:Thing} (h:g[i]?=some t) (h0:0<i):g5B g i=(decide (0≤t.up)&&decide (t.up<(i:Int))&&q5o t.kind (q2k g t.up.toNat)&&q8d t.tag&&(decide (t.tag=⟨#[]⟩)||decide (t.kind=2))):=by
 obtain ⟨j,rfl⟩:∃ j,i=j+1:=⟨i-1,by omega⟩
 rw [g5B,if_neg (by omega),Nat.add_sub_cancel,qkx,h]
 have:decide (t.up≤(j:Int))=decide (t.up<((j+1:Nat):Int)):=by rw [Bool.eq_iff_iff];simp;omega
 simp only [this]
theorem qi3 {g:List Thing} {h:List Int} (e:q2o g h=true) (k:Nat):0≤h.getD k 0∧h.getD k 0≤2:=by
 have:=(q2z e).2.2
 rw [List.any_eq_false] at this
 by_cases hk:k<h.length
 ·have h2:=this _ (List.getElem_mem hk)
  rw [List.getD_eq_getElem?_getD,List.getElem?_eq_getElem hk,Option.getD_some]
  simp only [Bool.or_eq_true,decide_eq_true_eq,not_or] at h2
  omega
 ·rw [List.getD_eq_getElem?_getD,List.getElem?_eq_none (by omega)]
  exact ⟨by decide,by decide⟩
theorem qz7 {g:List Thing} {h:List Int} (e:q2o g h=true):∀ k,k<g.length→0≤wW g h k:=by
 intro k
 induction k using Nat.strongRecOn with
 | ind k ih =>
  intro hk
  have hu:=q34 (q2z e).1 (List.getElem?_eq_getElem hk)
  rw [qwh (List.getElem?_eq_getElem hk) hu.1]
  have:=qi3 e k
  split
  ·have:=ih g[k].up.toNat (by omega) (by omega);omega
  ·omega
def wUp (g:List Thing) (h:List Int) (n:Int):Int:=if 0≤n then wW g h n.toNat else 0
theorem qup {g:List Thing} {h:List Int} (e:q2o g h=true) {k:Nat} {t:Thing} (ht:g[k]?=some t) {b:Int} (hb:0≤b):max (max b (h.getD k 0)) (wUp g h t.up)=max b (wUp g h (k:Int)):=by
 have hu:=q34 (q2z e).1 ht
 have hn:=qi3 e k
 have e1:wUp g h (k:Int)=wW g h k:=by rw [wUp,if_pos (by omega),Int.toNat_natCast]
 rw [e1,qwh ht hu.1,wUp]
 split<;>omega
def qju (a b:List Int):Bool:=a.any fun x=>decide (x∈b)
theorem touch_iff {a b:List Int}:qju a b=true↔∃ x,x∈a∧x∈b:=by simp [qju]
theorem qld {a b:List Int} (ha:sok a=true) (hb:sok b=true):qju a b = !qb2 a b:=by
 rw [Bool.eq_iff_iff,touch_iff,Bool.not_eq_true',← Bool.not_eq_true,qod]
 constructor
 ·rintro ⟨x,h1,h2⟩ ⟨_,_,h⟩
  have hx:=q4h ha h1
  have:=h x.toNat
  rw [inl_mem.2 (by rw [Int.toNat_of_nonneg hx.1];exact h1),inl_mem.2 (by rw [Int.toNat_of_nonneg hx.1];exact h2)] at this
  cases this
 ·intro h
  refine Classical.byContradiction fun hn=>h ⟨ha,hb,fun n=>?_⟩
  cases h1:inl a n with
  | false=>rfl
  | true =>
   cases h2:inl b n with
   | false=>rfl
   | true=>exact absurd ⟨_,inl_mem.1 h1,inl_mem.1 h2⟩ hn
theorem q5r {h:Held} (e:hmay h=true):sok h.things=true:=by
 simp only [hmay,Bool.and_eq_true] at e;exact e.1.1.1.2
theorem qlq {h:Held} (e:hmay h=true):0<h.things.length:=by
 simp only [hmay,Bool.and_eq_true,decide_eq_true_eq] at e;exact e.1.1.1.1
theorem qsh {l:List Held} {i:Nat} {h:Held} (e:l[i]?=some h) (hb:q68 l i=true):hmay h=true:=by
 rw [qd6 e] at hb
 simp only [Bool.and_eq_true] at hb
 exact hb.1.1
def q70 (l:List Held) (h:Held) (k:Nat):Bool:=!((l.take k).any fun x=>q3p x h)
theorem qhb {l:List Held} {h x:Held} {k:Nat} (e:l[k]?=some x):q70 l h (k+1)=(q70 l h k&&!q3p x h):=by
 rw [q70,q70,List.take_add_one,e,List.any_append];simp
theorem qka {l:List Held} {h x:Held} {k i:Nat} (e:l[k]?=some x) (hk:k<i) (hc:q3p x h=true):q70 l h i=false:=by
 rw [q70,Bool.not_eq_false',List.any_eq_true]
 exact ⟨x,List.mem_iff_getElem?.2 ⟨k,by rw [List.getElem?_take,if_pos hk];exact e⟩,hc⟩
def fAt {α:Type} (p:α→Bool) (l:List α):Int:=match l.findIdx? p with
 | some k=>(k:Int)
 | none=>-1
theorem qrv {α:Type} {p:α→Bool} {l:List α} {k:Nat} {x:α} (hk:l[k]?=some x) (hp:p x=true) (hno:∀ y∈l.take k,p y=false):fAt p l=(k:Int):=by
 have:l.findIdx? p=some k:=by
  obtain ⟨h1,h2⟩:=List.getElem?_eq_some_iff.1 hk
  rw [List.findIdx?_eq_some_iff_getElem]
  refine ⟨h1,by rw [h2];exact hp,fun j hj=>?_⟩
  have:=hno l[j] (List.mem_iff_getElem?.2 ⟨j,by rw [List.getElem?_take,if_pos hj];exact List.getElem?_eq_getElem (by omega)⟩)
  rw [this];decide
 rw [fAt,this]
theorem qmr {α:Type} {p:α→Bool} {l:List α} (hno:∀ y∈l,p y=false):fAt p l = -1:=by
 have:l.findIdx? p=none:=List.findIdx?_eq_none_iff.2 hno
 rw [fAt,this]
theorem qd5 {α:Type} (p:α→Bool) (l:List α):(fAt p l = -1∧∀ y∈l,p y=false)∨∃ k x,fAt p l=((k:Nat):Int)∧l[k]?=some x∧p x=true:=by
 unfold fAt
 cases h:l.findIdx? p with
 | none=>exact .inl ⟨rfl,List.findIdx?_eq_none_iff.1 h⟩
 | some k =>
  obtain ⟨h1,h2,_⟩:=List.findIdx?_eq_some_iff_getElem.1 h
  exact .inr ⟨k,l[k],rfl,List.getElem?_eq_getElem h1,h2⟩
theorem qx7 {α:Type} (p:α→Bool) (l:List α):decide (fAt p l<0) = !l.any p:=by
 rcases qd5 p l with ⟨h,hn⟩ | ⟨k,x,h,hk,hx⟩
 ·have:l.any p=false:=by rw [List.any_eq_false];exact fun y hy=>by rw [hn y hy];decide
  rw [h,this];rfl
 ·have:l.any p=true:=List.any_eq_true.2 ⟨x,List.mem_of_getElem? hk,hx⟩
  rw [h,this,decide_eq_false (by omega)];rfl
def jAt (l:List Job) (id:Int):Int:=fAt (fun j:Job=>decide (j.id=id)) l
def hAt (l:List Held) (id:Int):Int:=fAt (fun h:Held=>decide (h.id=id)) l
theorem q6d {l:List Job} (hp:l.Pairwise (fun a b=>a.id<b.id)) (id:Int):jAt l id=if q29 l id then (q11 l id:Int) else -1:=by
 unfold jAt
 rcases qd5 (fun j:Job=>decide (j.id=id)) l with ⟨h,hn⟩ | ⟨k,x,h,hk,hx⟩
 ·rw [h,if_neg]
  intro hh
  obtain ⟨j,hj,e⟩:=(q2r hp).1 hh
  have:=hn j hj
  rw [decide_eq_false_iff_not] at this
  exact this e
 ·rw [decide_eq_true_eq] at hx
  subst hx
  rw [h,if_pos ((q2r hp).2 ⟨x,List.mem_of_getElem? hk,rfl⟩),qs0,q3y (f:=Job.id) hp hk]
theorem qa1 {l:List Held} (hp:l.Pairwise (fun a b=>a.id<b.id)) (id:Int):hAt l id=if q23 l id then (qw l id:Int) else -1:=by
 unfold hAt
 rcases qd5 (fun j:Held=>decide (j.id=id)) l with ⟨h,hn⟩ | ⟨k,x,h,hk,hx⟩
 ·rw [h,if_neg]
  intro hh
  obtain ⟨j,hj,e⟩:=(q32 hp).1 hh
  have:=hn j hj
  rw [decide_eq_false_iff_not] at this
  exact this e
 ·rw [decide_eq_true_eq] at hx
  subst hx
  rw [h,if_pos ((q32 hp).2 ⟨x,List.mem_of_getElem? hk,rfl⟩),qae,q3y (f:=Held.id) hp hk]
def qrl (l:List Job) (i:Nat):Bool:=q1q (q1r l i)&&!(decide (0<i)&&(decide ((q1r l i).id≤q8k l (i-1))||decide ((q1r l i).came<(q1r l (i-1)).came)))&&(q1r l i).needs.all fun n=>l.any fun j=>decide (j.id=n)
theorem qrg {j:Job} (h:q1q j=true):∀ n∈j.needs,n<j.id:=by
 intro n hn
 have hnd:qfl j.id j.needs=true:=by simp only [q1q,q78,Bool.and_eq_true] at h;exact h.1.1.2.2
 obtain ⟨k,hk⟩:=List.mem_iff_getElem?.1 hn
 have hb:ndB j.id j.needs k=true:=List.all_eq_true.1 hnd k (by simpa using (List.getElem?_eq_some_iff.1 hk).1)
 rw [qd1 hk] at hb
 simp only [Bool.and_eq_true,decide_eq_true_eq] at hb
 exact hb.1.2
theorem qni {l:List Job} (h:∀ i,i<l.length→qrl l i=true):l.Pairwise (fun a b=>a.id<b.id):=by
 have step:∀ k a b,l[k]?=some a→l[k+1]?=some b→a.id<b.id:=by
  intro k a b ha hb
  have:=h (k+1) (List.getElem?_eq_some_iff.1 hb).1
  rw [qrl,q12 hb,Nat.add_sub_cancel,q8k,q12 ha] at this
  simp only [Bool.and_eq_true,Bool.not_eq_true',Bool.and_eq_false_iff,Bool.or_eq_false_iff,decide_eq_false_iff_not] at this
  rcases this.1.2 with h | h
  ·omega
  ·omega
 have mono:∀ d i a b,l[i]?=some a→l[i+d+1]?=some b→a.id<b.id:=by
  intro d
  induction d with
  | zero=>intro i a b ha hb;exact step i a b ha hb
  | succ d ih =>
   intro i a b ha hb
   have hlt:=(List.getElem?_eq_some_iff.1 hb).1
   have h3:=ih i a l[i+d+1] ha (List.getElem?_eq_getElem (by omega))
   have h4:=step (i+d+1) _ b (List.getElem?_eq_getElem (by omega)) hb
   omega
 rw [List.pairwise_iff_getElem]
 intro i j hi hj hij
 exact mono (j-i-1) i _ _ (List.getElem?_eq_getElem hi) Yc
theorem qxk {l:List Job} (h64:l.length≤64):q24 l=qh4 (qrl l) l.length:=by
 rw [q24,decide_eq_true h64,Bool.true_and,Bool.eq_iff_iff,qbn,qbn]
 have get:∀ i,i<l.length→∃ j,l[i]?=some j:=fun i hi=>⟨l[i],List.getElem?_eq_getElem hi⟩
 constructor
 ·intro h i hi
  obtain ⟨j,hj⟩:=get i hi
  have hb:=h i hi
  have hs:=(q76 (i:=i) h64 fun k hk=>h k (by omega))
  rw [qgl hj] at hb
  rw [qrl,q12 hj]
  rw [Bool.and_eq_true] at hb ⊢
  refine ⟨hb.1,?_⟩
  rw [List.all_eq_true]
  intro n hn
  obtain ⟨x,hx,e⟩:=(q2r hs).1 (List.all_eq_true.1 hb.2 n hn)
  exact List.any_eq_true.2 ⟨x,List.mem_of_mem_take hx,by rw [e];simp⟩
 ·intro h i hi
  obtain ⟨j,hj⟩:=get i hi
  have hb:=h i hi
  have hp:=qni h
  rw [qrl,q12 hj,Bool.and_eq_true] at hb
  rw [qgl hj,Bool.and_eq_true]
  refine ⟨hb.1,?_⟩
  have hjr:q1q j=true:=by have:=hb.1;rw [Bool.and_eq_true] at this;exact this.1
  rw [List.all_eq_true]
  intro n hn
  obtain ⟨x,hx,e⟩:=List.any_eq_true.1 (List.all_eq_true.1 hb.2 n hn)
  rw [decide_eq_true_eq] at e
  have hlt:=qrg hjr n hn
  obtain ⟨k,hk⟩:=List.mem_iff_getElem?.1 hx
  refine (q2r (hp.sublist (List.take_sublist i l))).2 ⟨x,?_,e⟩
  refine List.mem_iff_getElem?.2 ⟨k,?_⟩
  have hkl:=(List.getElem?_eq_some_iff.1 hk)
  have hil:=(List.getElem?_eq_some_iff.1 hj)
  rw [List.getElem?_take,if_pos,hk]
  rcases Nat.lt_or_ge k i with h1 | h1
  ·exact h1
  ·rcases Nat.lt_or_eq_of_le h1 with h2 | h2
   ·have:=List.pairwise_iff_getElem.1 hp i k hi hkl.1 h2
    rw [hil.2,hkl.2] at this
    omega
   ·subst h2
    rw [hk] at hj
    cases hj
    omega
def qz8 (i:Inst) (k:Nat):Bool:=decide ((q1r i.jobs k).came≤i.now)&&decide ((q1r i.jobs k).frm≤i.now)&&(decide ((q1r i.jobs k).state≠2) ||
 (q23 i.table (q1r i.jobs k).id&&decide ((q4q i.table (qw i.table (q1r i.jobs k).id)).frm=(q1r i.jobs k).frm)&&decide ((q4q i.table (qw i.table (q1r i.jobs k).id)).to=q1p (q1r i.jobs k).spec (q1r i.jobs k).frm) &&
  decide (i.now<(q4q i.table (qw i.table (q1r i.jobs k).id)).to)&&decide ((q4q i.table (qw i.table (q1r i.jobs k).id)).things.getD ((q4q i.table (qw i.table (q1r i.jobs k).id)).things.length-1) 0<(i.graph.length:Int))))
theorem quk {i:Inst} (hr:q1s i.table=true) (k:Nat):qz8 i k=q58 i k:=by
 unfold qz8 q58 q2g
 rw [hr,Bool.true_and]
 cases hh:q23 i.table (q1r i.jobs k).id with
 | false=>simp
 | true =>
  simp only [if_pos,Bool.true_and]
  have hm:q4q i.table (qw i.table (q1r i.jobs k).id)∈i.table:=by
   rw [q23,Bool.and_eq_true,decide_eq_true_eq] at hh
   rw [q5j (List.getElem?_eq_getElem hh.1)]
   exact List.getElem_mem hh.1
  have hmay':=(held_iff.1 hr).2.1 _ hm
  generalize q4q i.table (qw i.table (q1r i.jobs k).id)=h at *
  have e1:=q5r hmay'
  have e2:=qlq hmay'
  rw [q27,e1,decide_eq_false (show ¬ h.things.length=0 by omega),Bool.false_or,Bool.true_and]
theorem qs6:∀ (l:List Held) (a b:Int) (n:Nat),(∀ h∈l,sok h.things=true)→inl (q5f l a b) n=l.any fun h=>q79 h.frm h.to a b&&inl h.things n:=by
 intro l a b n
 suffices key:∀ (l:List Held) (out:List Int),sok out=true→(∀ h∈l,sok h.things=true)→inl (l.foldl (fun out h=>if q79 h.frm h.to a b then q7t out h.things else out) out) n=(inl out n||l.any fun h=>q79 h.frm h.to a b&&inl h.things n) by
  intro h
  rw [q5f,key l [] rfl h,qso,Bool.false_or]
 intro l
 induction l with
 | nil=>intro out _ _;simp
 | cons x l ih =>
  intro out ho h
  rw [List.foldl_cons,List.any_cons,← Bool.or_assoc]
  rw [ih _ (by split;exact q51 _ _ _;exact ho) (fun y hy=>h y (List.mem_cons_of_mem _ hy))]
  congr 1
  cases hm:q79 x.frm x.to a b with
  | false=>simp
  | true=>rw [if_pos rfl,qkc ho (h x List.mem_cons_self),Bool.true_and]
end Go.Av
