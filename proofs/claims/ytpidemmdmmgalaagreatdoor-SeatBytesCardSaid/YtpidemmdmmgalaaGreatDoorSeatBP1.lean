/- Parts of the proof: rules for an abstract memory, plain laws, and walks through the program. -/
import Derived.Test.YtpidemmdmmgalaaGreatDoorSeatBP0
import Derived.Laws.Append
import Derived.Laws.AppendOwn
import Derived.Laws.Rows
import Derived.Laws.CopyRow
import Derived.Laws.NewBlocks
import Derived.Deep.LoopGhost
import Derived.Below
import Derived.Tactics
import Derived.Laws.IdiomStrings
import Derived.Lib.TrailingZeros
import Derived.Orders
import Derived.Laws.Strings
import Derived.Lib.SlBytesConst
import Derived.Lib.OthersKept
import Derived.Laws.RangeString
import Derived.Scope
import Derived.Lib.Bytealg
import Derived.Laws.Externs
import Derived.Laws.Bits64
set_option maxRecDepth 10000
set_option linter.unusedVariables false
set_option linter.unusedSimpArgs false
namespace Go.Av
inductive AV where
 | junk
 | int (k:IntKind) (n:Int)
 | bool (b:Bool)
 | str (s:ByteArray)
 | flt (k:FloatKind) (bits:Nat)
 | nsl
 | pl (xs:List (List AV))
 | sl (id g off len cap:Nat)
 | pt (id g i j:Nat)
 | pp (xs:List (List AV)) (i j:Nat)
 | nptr
 | agg (cs:List AV)
 | tup (vs:List AV)
 | fn (f:Fn) (first caps:List AV)
 | nfn
 | ifc (t:TypeId) (v:AV)
 | nifc
 | raw (u:Value)
 | know (g:Nat) (tab:List Value)
 deriving Inhabited
def AV.leaf:AV→Bool
 | .junk | .agg _ | .tup _ | .raw _ | .know _ _=>false
 | _=>true
structure Slot where
 gen:Nat
 sz:Nat
 place:Option Nat
def own (S:List Slot) (b:Nat):Prop:=∃ (i:Nat) (s:Slot),S[i]?=some s∧s.place=some b
def SlOK (w:World) (s:Slot) (off len cap:Nat) (u:Value):Prop :=
 ∃ c,cap≤c∧len≤c∧((c=0∧∃ a,u = .slice a 0 0) ∨
  ∃ (b:Nat) (arr:Array Value) (ty:TypeId),s.place=some b∧u = .slice (some ⟨b,off * s.sz,none⟩) len c∧w.heap[b]?=some (Obj.cells arr ty (0,0))∧(off+c) * s.sz≤arr.size)
inductive VR (O : Nat → Prop) (w : World) : List Slot → AV → Value → Prop where
 | junk {S:List Slot} {u:Value}:VR O w S .junk u
 | int {S:List Slot} {k:IntKind} {n:Int}:VR O w S (.int k n) (.int k n)
 | bool {S:List Slot} {b:Bool}:VR O w S (.bool b) (.bool b)
 | str {S:List Slot} {s:ByteArray}:VR O w S (.str s) (.string s)
 | flt {S:List Slot} {k:FloatKind} {b:Nat}:VR O w S (.flt k b) (.float k b)
 | nsl {S:List Slot} {a:Option Addr}:VR O w S .nsl (.slice a 0 0)
 | pl {S:List Slot} {xs:List (List AV)} {a:Option Addr} {c:Nat} (base:Addr) (sz:Nat) (u:Nat→Nat→Value)
   (hc:xs.length≤c) (hb:xs≠[]→a=some base∧¬ O base.block∧base.block<w.heap.size)
   (hs:∀ (i:Nat) (r:List AV),xs[i]?=some r→r.length=sz)
   (hm:∀ i,i<xs.length→∀ j,j<sz→w.cell? (base.add (i * sz+j))=some (u i j))
   (hl:∀ (i j:Nat) (r:List AV) (v:AV),xs[i]?=some r→r[j]?=some v→v.leaf=true)
   (hv:∀ (i j:Nat) (r:List AV) (v:AV),xs[i]?=some r→r[j]?=some v→VR O w [] v (u i j)):VR O w S (.pl xs) (.slice a xs.length c)
 | sl {S:List Slot} {id g off len cap:Nat} {u:Value} (s:Slot) (hs:S[id]?=some s) (hg:g≤s.gen) (h1:u.oneCell'=true) (h:s.gen=g→SlOK w s off len cap u):VR O w S (.sl id g off len cap) u
 | pt {S:List Slot} {id g i j:Nat} {u:Value} (s:Slot) (hs:S[id]?=some s) (hg:g≤s.gen) (h1:u.oneCell'=true)
   (h:s.gen=g→∃ b,s.place=some b∧u = .pointer (some ⟨b,i * s.sz+j,none⟩)):VR O w S (.pt id g i j) u
 | pp {S:List Slot} {xs:List (List AV)} {i j:Nat} (base:Addr) (sz:Nat) (u:Nat→Nat→Value)
   (hb:¬ O base.block∧base.block<w.heap.size)
   (hs:∀ (i:Nat) (r:List AV),xs[i]?=some r→r.length=sz)
   (hm:∀ i,i<xs.length→∀ j,j<sz→w.cell? (base.add (i * sz+j))=some (u i j))
   (hl:∀ (i j:Nat) (r:List AV) (v:AV),xs[i]?=some r→r[j]?=some v→v.leaf=true)
   (hv:∀ (i j:Nat) (r:List AV) (v:AV),xs[i]?=some r→r[j]?=some v→VR O w [] v (u i j)):VR O w S (.pp xs i j) (.pointer (some (base.add (i * sz+j))))
 | nptr {S:List Slot}:VR O w S .nptr (.pointer none)
 | agg {S:List Slot} {cs:List AV} {vs:Array Value} (hn:cs.length=vs.size) (hl:∀ (j:Nat) (v:AV),cs[j]?=some v→v.leaf=true)
   (h:∀ (j:Nat) (v:AV) (u:Value),cs[j]?=some v→vs[j]?=some u→VR O w S v u):VR O w S (.agg cs) (.agg vs)
 | tup {S:List Slot} {cs:List AV} {vs:Array Value} (hn:cs.length=vs.size)
   (h:∀ (j:Nat) (v:AV) (u:Value),cs[j]?=some v→vs[j]?=some u→VR O w S v u):VR O w S (.tup cs) (.tuple vs)
 | fn {S:List Slot} {f:Fn} {p q:List AV} {p' q':Array Value} (hp:p.length=p'.size) (hq:q.length=q'.size)
   (h1:∀ (j:Nat) (v:AV) (u:Value),p[j]?=some v→p'[j]?=some u→VR O w S v u) (h2:∀ (j:Nat) (v:AV) (u:Value),q[j]?=some v→q'[j]?=some u→VR O w S v u):VR O w S (.fn f p q) (.func f p' q')
 | nfn {S:List Slot}:VR O w S .nfn .nilFunc
 | ifc {S:List Slot} {t:TypeId} {v:AV} {u:Value} (h:VR O w S v u):VR O w S (.ifc t v) (.iface t u)
 | nifc {S:List Slot}:VR O w S .nifc .nilIface
 | raw {S:List Slot} {u:Value}:VR O w S (.raw u) u
 | know {S:List Slot} {g:Nat} {tab:List Value} {u:Value} (ho:¬ O g) (hg:g<w.heap.size) (h:∀ j v,tab[j]?=some v→w.cell? ⟨g,j,none⟩=some v) (hx:∃ ty fz,w.heap[g]?=some (Obj.cells tab.toArray ty fz)):VR O w S (.know g tab) u
theorem VR.one {O:Nat→Prop} {w:World} {S:List Slot} {v:AV} {u:Value} (h:VR O w S v u) (hl:v.leaf=true):u.oneCell'=true:=by
 cases h with
 | sl s hs hg h1 h=>exact h1
 | pt s hs hg h1 h=>exact h1
 | _=>first | rfl | (simp [AV.leaf] at hl)
structure Stp (O O' : Nat → Prop) (w w' : World) : Prop where
 size:w.heap.size≤w'.heap.size
 old:∀ b,b<w.heap.size→¬ O b→¬ O' b∧w'.heap[b]?=w.heap[b]?
 cells:∀ (b:Nat) (arr:Array Value) (ty:TypeId),w.heap[b]?=some (Obj.cells arr ty (0,0))→∃ arr':Array Value,w'.heap[b]?=some (Obj.cells arr' ty (0,0))∧arr'.size=arr.size
def SExt (S S':List Slot):Prop:=∀ (id:Nat) (s:Slot),S[id]?=some s→∃ s':Slot,S'[id]?=some s'∧s.gen≤s'.gen∧(s'.gen=s.gen→s'.sz=s.sz∧s'.place=s.place)
theorem SExt.refl (S:List Slot):SExt S S:=fun _ s h=>⟨s,h,Nat.le_refl _,fun _=>⟨rfl,rfl⟩⟩
theorem SExt.nil (S:List Slot):SExt [] S:=fun _ _ h=>by simp at h
theorem SExt.trans {S S' S'':List Slot} (h:SExt S S') (k:SExt S' S''):SExt S S'':=fun id s hs=>by
 obtain ⟨s',h1,h2,h3⟩:=h id s hs
 obtain ⟨s'',k1,k2,k3⟩:=k id s' h1
 refine ⟨s'',k1,Nat.le_trans h2 k2,fun e=>?_⟩
 have e1:s'.gen=s.gen:=by omega
 have e2:s''.gen=s'.gen:=by omega
 exact ⟨(k3 e2).1.trans (h3 e1).1,(k3 e2).2.trans (h3 e1).2⟩
theorem SExt.snoc (S:List Slot) (s:Slot):SExt S (S++[s]):=fun id x hx=>by
 refine ⟨x,?_,Nat.le_refl _,fun _=>⟨rfl,rfl⟩⟩
 rw [List.getElem?_append_left (List.getElem?_eq_some_iff.1 hx).1]
 exact hx
theorem Stp.refl (O:Nat→Prop) (w:World):Stp O O w w:=⟨Nat.le_refl _,fun _ _ h=>⟨h,rfl⟩,fun _ arr _ h=>⟨arr,h,rfl⟩⟩
theorem Stp.trans {O O' O'':Nat→Prop} {w w' w'':World} (h:Stp O O' w w') (k:Stp O' O'' w' w''):Stp O O'' w w'':=by
 refine ⟨Nat.le_trans h.size k.size,fun b hb hO=>?_,fun b arr ty hb=>?_⟩
 ·obtain ⟨h1,h2⟩:=h.old b hb hO
  obtain ⟨k1,k2⟩:=k.old b (Nat.lt_of_lt_of_le hb h.size) h1
  exact ⟨k1,k2.trans h2⟩
 ·obtain ⟨a1,h1,h2⟩:=h.cells b arr ty hb
  obtain ⟨a2,k1,k2⟩:=k.cells b a1 ty h1
  exact ⟨a2,k1,k2.trans h2⟩
theorem Stp.cell {O O':Nat→Prop} {w w':World} (h:Stp O O' w w') {a:Addr} {v:Value} (ha:¬ O a.block) (hc:w.cell? a=some v):w'.cell? a=some v :=
 (World.cell?_of_block (h.old a.block (World.block_lt_of_cell? w a hc) ha).2).trans hc
theorem q7j (a:Addr) (n:Nat):(a.add n).block=a.block:=by unfold Addr.add;split<;>rfl
theorem SlOK.mono {w w':World} {O O':Nat→Prop} {s s':Slot} {off len cap:Nat} {u:Value} (h:SlOK w s off len cap u) (hw:Stp O O' w w') (h1:s'.sz=s.sz) (h2:s'.place=s.place):SlOK w' s' off len cap u:=by
 obtain ⟨c,hc,hl,h⟩:=h
 refine ⟨c,hc,hl,?_⟩
 rcases h with h | ⟨b,arr,ty,hp,hu,hb,hsz⟩
 ·exact .inl h
 ·obtain ⟨arr',hb',hs'⟩:=hw.cells b arr ty hb
  exact .inr ⟨b,arr',ty,h2.trans hp,by rw [h1];exact hu,hb',by rw [h1,hs'];exact hsz⟩
theorem VR.mono {O:Nat→Prop} {w:World} {S:List Slot} {v:AV} {u:Value} (h:VR O w S v u):∀ {O':Nat→Prop} {w':World} {S':List Slot},Stp O O' w w'→SExt S S'→VR O' w' S' v u:=by
 induction h with
 | junk=>intros;exact .junk
 | int=>intros;exact .int
 | bool=>intros;exact .bool
 | str=>intros;exact .str
 | flt=>intros;exact .flt
 | nsl=>intros;exact .nsl
 | nptr=>intros;exact .nptr
 | nfn=>intros;exact .nfn
 | nifc=>intros;exact .nifc
 | raw=>intros;exact .raw
 | know ho hg h hx =>
  intro O' w' S' hw _
  exact .know (hw.old _ hg ho).1 (Nat.lt_of_lt_of_le hg hw.size) (fun j v hv=>hw.cell ho (h j v hv)) (by rw [(hw.old _ hg ho).2];exact hx)
 | ifc _ ih=>intro O' w' S' hw hS;exact .ifc (ih hw hS)
 | pl base sz u hc hb hs hm hl _ ih =>
  intro O' w' S' hw _
  refine .pl base sz u hc (fun hx=>?_) hs (fun i hi j hj=>?_) hl (fun i j r v hr hv=>ih i j r v hr hv hw (SExt.refl _))
  ·obtain ⟨h1,h2,h3⟩:=hb hx
   exact ⟨h1,(hw.old _ h3 h2).1,Nat.lt_of_lt_of_le h3 hw.size⟩
  ·exact hw.cell (by rw [q7j];exact (hb (by intro e;simp [e] at hi)).2.1) (hm i hi j hj)
 | pp base sz u hb hs hm hl _ ih =>
  intro O' w' S' hw _
  exact .pp base sz u ⟨(hw.old _ hb.2 hb.1).1,Nat.lt_of_lt_of_le hb.2 hw.size⟩ hs (fun i hi j hj=>hw.cell (by rw [q7j];exact hb.1) (hm i hi j hj)) hl (fun i j r v hr hv=>ih i j r v hr hv hw (SExt.refl _))
 | sl s hs hg h1 h =>
  intro O' w' S' hw hS
  obtain ⟨s',hs',hg',he⟩:=hS _ _ hs
  refine .sl s' hs' (Nat.le_trans hg hg') h1 fun e=>?_
  have e1:s'.gen=s.gen:=by omega
  exact (h (by omega)).mono hw (he e1).1 (he e1).2
 | pt s hs hg h1 h =>
  intro O' w' S' hw hS
  obtain ⟨s',hs',hg',he⟩:=hS _ _ hs
  refine .pt s' hs' (Nat.le_trans hg hg') h1 fun e=>?_
  have e1:s'.gen=s.gen:=by omega
  obtain ⟨b,hb,hu⟩:=h (by omega)
  exact ⟨b,(he e1).2.trans hb,by rw [(he e1).1];exact hu⟩
 | agg hn hl _ ih=>intro O' w' S' hw hS;exact .agg hn hl fun j v u hv hu=>ih j v u hv hu hw hS
 | tup hn _ ih=>intro O' w' S' hw hS;exact .tup hn fun j v u hv hu=>ih j v u hv hu hw hS
 | fn hp hq _ _ ih1 ih2=>intro O' w' S' hw hS;exact .fn hp hq (fun j v u hv hu=>ih1 j v u hv hu hw hS) (fun j v u hv hu=>ih2 j v u hv hu hw hS)
structure AObj where
 gen:Nat
 sz:Nat
 rows:List (List AV)
 deriving Inhabited
abbrev qf:=List AObj
structure ObjOK (S : List Slot) (w : World) (o : AObj) (s : Slot) : Prop where
 gen:o.gen=s.gen
 sz:o.sz=s.sz
 pos:0<o.sz
 nope:s.place=none→o.rows=[]
 lies:∀ b,s.place=some b→∃ (arr:Array Value) (ty:TypeId),w.heap[b]?=some (Obj.cells arr ty (0,0))∧o.rows.length * o.sz≤arr.size ∧
  ∀ (i:Nat) (r:List AV),o.rows[i]?=some r→r.length=o.sz∧∀ (j:Nat) (v:AV),r[j]?=some v→v.leaf=true∧∃ u,arr[i * o.sz+j]?=some u∧VR (own S) w S v u
structure HRel (H : qf) (S : List Slot) (w : World) : Prop where
 len:H.length=S.length
 obj:∀ (id:Nat) (o:AObj) (s:Slot),H[id]?=some o→S[id]?=some s→ObjOK S w o s
 inj:∀ (i j:Nat) (si sj:Slot) (b:Nat),S[i]?=some si→S[j]?=some sj→si.place=some b→sj.place=some b→i=j
structure Ext (S : List Slot) (w : World) (S' : List Slot) (w' : World) : Prop where
 os:w'.os=w.os
 tape:w'.tape=w.tape
 output:w'.output=w.output
 stp:Stp (own S) (own S') w w'
 slots:SExt S S'
theorem Ext.refl (S:List Slot) (w:World):Ext S w S w:=⟨rfl,rfl,rfl,Stp.refl _ _,SExt.refl _⟩
theorem Ext.trans {S S' S'':List Slot} {w w' w'':World} (h:Ext S w S' w') (k:Ext S' w' S'' w''):Ext S w S'' w'' :=
 ⟨k.os.trans h.os,k.tape.trans h.tape,k.output.trans h.output,h.stp.trans k.stp,h.slots.trans k.slots⟩
theorem VR.ext {S S':List Slot} {w w':World} {v:AV} {u:Value} (h:VR (own S) w S v u) (k:Ext S w S' w'):VR (own S') w' S' v u:=h.mono k.stp k.slots
theorem qlc {H:qf} {S:List Slot} {w:World} (h:HRel H S w) {b:Nat} (hb:own S b):b<w.heap.size:=by
 obtain ⟨i,s,hs,hp⟩:=hb
 have hi:i<H.length:=by rw [h.len];exact (List.getElem?_eq_some_iff.1 hs).1
 obtain ⟨arr,ty,ha,_⟩:=(h.obj i _ s (List.getElem?_eq_getElem hi) hs).lies b hp
 exact (Array.getElem?_eq_some_iff.1 ha).1
abbrev Env:=List (Nat×AV)
def get : Env → Nat → AV
  | [], _ => .junk
  | (d, v) :: e, t => match Nat.beq d t with
    | true => v
    | false => get e t
def put (e:Env):Option Nat→AV→Env
 | some d,v=>(d,v) :: e
 | none,_=>e
structure CR (N : Nat) (e : Env) (H : qf) (S : List Slot) (a : Act) (w : World) : Prop where
 heap:HRel H S w
 env:∀ t,VR (own S) w S (get e t) (a.tmps.getD t undef)
 size:a.tmps.size=N
 defers:a.defers=[]
theorem qt (e:Env) (d:Nat) (v:AV):get ((d,v) :: e) d=v:=by simp [get]
theorem qg (e:Env) {d t:Nat} (v:AV) (h:d≠t):get ((d,v) :: e) t=get e t:=by
 have:Nat.beq d t=false:=by
  cases hb:Nat.beq d t with
  | false=>rfl
  | true=>exact absurd (Nat.eq_of_beq_eq_true hb) h
 simp [get,this]
theorem CR.put {N:Nat} {e:Env} {H H':qf} {S S':List Slot} {a:Act} {w w':World} (h:CR N e H S a w) (x:Ext S w S' w') (hh:HRel H' S' w') {d:Option Nat} {v:AV} {u:Value}
  (hd:∀ t,d=some t→t<N) (hv:VR (own S') w' S' v u):CR N (Av.put e d v) H' S' (a.put d u) w':=by
 have hs:=h.size
 cases d with
 | none=>exact ⟨hh,fun t=>(h.env t).ext x,hs,h.defers⟩
 | some d =>
  have hd:=hd d rfl
  refine ⟨hh,fun t=>?_,by simpa [Act.put] using hs,h.defers⟩
  by_cases e:d=t
  ·subst e
   have h1:(a.put (some d) u).tmps.getD d undef=u:=by simp [Act.put,hs,hd]
   rw [h1]
   show VR _ _ _ (get ((d,v) :: _) d) u
   rw [qt];exact hv
  ·have h1:(a.put (some d) u).tmps.getD t undef=a.tmps.getD t undef:=by simp [Act.put,Array.getElem?_setIfInBounds_ne e]
   rw [h1]
   show VR _ _ _ (get ((d,v) :: _) t) _
   rw [qg _ _ e];exact (h.env t).ext x
theorem CR.step {N:Nat} {e:Env} {H H':qf} {S S':List Slot} {a:Act} {w w':World} (h:CR N e H S a w) (x:Ext S w S' w') (hh:HRel H' S' w'):CR N e H' S' a w' :=
 ⟨hh,fun t=>(h.env t).ext x,h.size,h.defers⟩
inductive AX where
 | nrm
 | brk (id:Nat)
 | ret
 | pan (v:AV)
inductive XR (O : Nat → Prop) (w : World) (S : List Slot) : AX → Exit → Prop where
 | nrm:XR O w S .nrm .normal
 | brk {i:Nat}:XR O w S (.brk i) (.exit i)
 | ret:XR O w S .ret .ret
 | pan {v:AV} {u:Value} (h:VR O w S v u):XR O w S (.pan v) (.panic [{ v:=u,recovered:=false }])
theorem XR.ext {S S':List Slot} {w w':World} {x:AX} {e:Exit} (h:XR (own S) w S x e) (k:Ext S w S' w'):XR (own S') w' S' x e:=by
 cases h with
 | nrm=>exact .nrm
 | brk=>exact .brk
 | ret=>exact .ret
 | pan h=>exact .pan (h.ext k)
abbrev q6g:=AX→Env→qf→Prop
structure Base where
 S:List Slot
 w:World
def Lift (N:Nat) (Q:q6g) (B:Base):Exit→Act→World→Prop:=fun e a' w' =>
 ∃ x env' H' S',Q x env' H'∧XR (own S') w' S' x e∧CR N env' H' S' a' w'∧Ext B.S B.w S' w'
theorem Lift.mono {N:Nat} {Q Q':q6g} {B:Base} {e:Exit} {a':Act} {w':World} (h:Lift N Q B e a' w') (hq:∀ x env H,Q x env H→Q' x env H):Lift N Q' B e a' w' :=
 let ⟨x,env',H',S',q,r⟩:=h
 ⟨x,env',H',S',hq _ _ _ q,r⟩
def AWp (P:Program) (N:Nat) (B:Base) (c:Code) (Q:q6g) (env:Env) (H:qf):Prop :=
 ∀ S a w,CR N env H S a w→Ext B.S B.w S w→c.wp P (Lift N Q B) a w
def q61 (P:Program) (N:Nat) (B:Base) (ops:Array Oper) (l:List Oper) (Q:q6g) (env:Env) (H:qf):Prop :=
 ∀ S a w,CR N env H S a w→Ext B.S B.w S w→wpList P ops (Lift N Q B) l a w
def AOp (P:Program) (N:Nat) (o:Oper) (env:Env) (H:qf) (K X:AV→qf→Prop):Prop :=
 ∀ S a w,CR N env H S a w→∀ (next:Act→World→Prop) (Q:Exit→Act→World→Prop),
  (∀ v u H' S' w',K v H'→HRel H' S' w'→Ext S w S' w'→VR (own S') w' S' v u→next (a.put o.dst u) w') →
  (∀ v u H' S' w',X v H'→HRel H' S' w'→Ext S w S' w'→VR (own S') w' S' v u→Q (.panic [{ v:=u,recovered:=false }]) a w') →
  o.wp P a w next Q
inductive AOut where
 | ret (v:AV)
 | pan (v:AV)
inductive OutR (O : Nat → Prop) (w : World) (S : List Slot) : AOut → Ending → Prop where
 | ret {v:AV} {u:Value} (h:VR O w S v u):OutR O w S (.ret v) (.returned u)
 | pan {v:AV} {u:Value} (h:VR O w S v u):OutR O w S (.pan v) (.panicked [{ v:=u,recovered:=false }])
def VRs (O:Nat→Prop) (w:World) (S:List Slot) (vs:List AV) (us:Array Value):Prop :=
 vs.length=us.size∧∀ (i:Nat) (v:AV) (u:Value),vs[i]?=some v→us[i]?=some u→VR O w S v u
def AC (P:Program) (f:FuncId) (args:List AV) (H:qf) (R:AOut→qf→Prop):Prop :=
 ∀ S w cargs,HRel H S w→VRs (own S) w S args cargs →
  Calls P f cargs w fun e w'=>∃ o H' S',R o H'∧OutR (own S') w' S' o e∧HRel H' S' w'∧Ext S w S' w'
theorem AC.mono {P:Program} {f:FuncId} {args:List AV} {H:qf} {R R':AOut→qf→Prop} (h:AC P f args H R) (hr:∀ o H',R o H'→R' o H'):AC P f args H R' :=
 fun S w cargs hH hv=>(h S w cargs hH hv).mono fun _ _ ⟨o,H',S',q,r⟩=>⟨o,H',S',hr _ _ q,r⟩
theorem VRs.ext {S S':List Slot} {w w':World} {vs:List AV} {us:Array Value} (h:VRs (own S) w S vs us) (k:Ext S w S' w'):VRs (own S') w' S' vs us :=
 ⟨h.1,fun i v u hv hu=>(h.2 i v u hv hu).ext k⟩
section
variable {P : Program} {N : Nat} {B : Base} {Q : q6g} {env : Env} {H : qf}
theorem AWp.mono {c:Code} {Q':q6g} (h:AWp P N B c Q env H) (hq:∀ x e H,Q x e H→Q' x e H):AWp P N B c Q' env H :=
 fun S a w hc hb=>wp_mono (h S a w hc hb) fun _ _ _ q=>q.mono hq
def AX.andThen (K:Env→qf→Prop) (Q:q6g):q6g
 | .nrm,e,H=>K e H
 | x,e,H=>Q x e H
theorem qaj {x y:Code} (h:AWp P N B x (AX.andThen (fun e H=>AWp P N B y Q e H) Q) env H):AWp P N B (.seq x y) Q env H:=by
 intro S a w hc hb
 refine wp_seq (wp_mono (h S a w hc hb) ?_)
 intro e a' w' ⟨x,env',H',S',q,r,c,k⟩
 cases r with
 | nrm=>exact q S' a' w' c k
 | brk=>exact ⟨_,env',H',S',q,.brk,c,k⟩
 | ret=>exact ⟨_,env',H',S',q,.ret,c,k⟩
 | pan hv=>exact ⟨_,env',H',S',q,.pan hv,c,k⟩
theorem q86 (h:Q .nrm env H):AWp P N B .skip Q env H:=fun S _ _ hc hb=>wp_skip ⟨.nrm,env,H,S,h,.nrm,hc,hb⟩
theorem q9x {id:Nat} (h:Q (.brk id) env H):AWp P N B (.exit id) Q env H:=fun S _ _ hc hb=>wp_exit ⟨.brk id,env,H,S,h,.brk,hc,hb⟩
theorem q2z (h:Q .ret env H):AWp P N B .ret Q env H:=fun S _ _ hc hb=>wp_ret ⟨.ret,env,H,S,h,.ret,hc,hb⟩
def AX.inBlock (id:Nat) (Q:q6g):q6g
 | .brk i,e,H=>if i=id then Q .nrm e H else Q (.brk i) e H
 | x,e,H=>Q x e H
theorem qb4 {id:Nat} {c:Code} (h:AWp P N B c (AX.inBlock id Q) env H):AWp P N B (.block id c) Q env H:=by
 intro S a w hc hb
 refine wp_block (wp_mono (h S a w hc hb) ?_)
 intro e a' w' ⟨x,env',H',S',q,r,c,k⟩
 cases r with
 | nrm=>exact ⟨_,env',H',S',q,.nrm,c,k⟩
 | @brk i =>
  simp only [AX.inBlock] at q
  simp only [Exit.inBlock]
  split at q
  ·rename_i e;rw [if_pos e];exact ⟨_,env',H',S',q,.nrm,c,k⟩
  ·rename_i e;rw [if_neg e];exact ⟨_,env',H',S',q,.brk,c,k⟩
 | ret=>exact ⟨_,env',H',S',q,.ret,c,k⟩
 | pan hv=>exact ⟨_,env',H',S',q,.pan hv,c,k⟩
def qfl:Value→AV
 | .bool b=>.bool b
 | .int k n=>.int k n
 | .float k b=>.flt k b
 | .string s=>.str s
 | .pointer none=>.nptr
 | .slice _ 0 0=>.nsl
 | .nilFunc=>.nfn
 | .nilIface=>.nifc
 | _=>.junk
def q125:Value→AV
 | .agg cs=>if (cs.toList.map qfl).all AV.leaf then .agg (cs.toList.map qfl) else .junk
 | v=>qfl v
theorem qfk (O:Nat→Prop) (w:World) (S:List Slot) (v:Value):VR O w S (qfl v) v:=by
 unfold qfl
 split<;>constructor
theorem qxi (O:Nat→Prop) (w:World) (S:List Slot) (v:Value):VR O w S (q125 v) v:=by
 unfold q125
 split
 ·rename_i cs
  split
  ·rename_i h
   refine .agg (by simp) (fun j v hv=>?_) (fun j v u hv hu=>?_)
   ·exact List.all_eq_true.1 h v (List.mem_of_getElem? hv)
   ·have h1:cs.toList[j]?=some u:=by simpa using hu
    rw [List.getElem?_map,h1] at hv
    obtain rfl:=Option.some.inj hv
    exact qfk O w S u
  ·exact .junk
 ·exact qfk O w S v
def aev (env:Env):Operand→AV
 | .tmp t=>get env t
 | .const v=>q125 v
 | .global g=>.raw (.pointer (some ⟨g,0,none⟩))
 | .func f=>.fn (.func f) [] []
theorem CR.ev {S:List Slot} {a:Act} {w:World} (h:CR N env H S a w) (x:Operand):VR (own S) w S (aev env x) (a.eval x):=by
 cases x with
 | tmp t=>exact h.env t
 | const v=>exact qxi _ _ _ v
 | global g=>exact .raw
 | func f=>exact .fn rfl rfl (fun _ _ _ h=>by simp at h) (fun _ _ _ h=>by simp at h)
theorem qa {c:Operand} {x y:Code} {b:Bool} (hc:aev env c = .bool b) (h1:b=true→AWp P N B x Q env H) (h2:b=false→AWp P N B y Q env H):AWp P N B (.cond c x y) Q env H:=by
 intro S a w h hb
 have hv:=h.ev c
 rw [hc] at hv
 generalize hu:a.eval c=u at hv
 cases hv
 exact wp_cond_split hu (fun e=>h1 e S a w h hb) (fun e=>h2 e S a w h hb)
def Sub (E env:Env):Prop:=∀ t,get E t = .junk∨get env t=get E t
theorem Sub.nil:Sub [] env:=fun _=>.inl rfl
theorem Sub.cons {d:Nat} {v:AV} {E:Env} (h:get env d=v) (k:Sub E env):Sub ((d,v) :: E) env:=fun t=>by
 by_cases e:d=t
 ·subst e;rw [qt];exact .inr h
 ·rw [qg _ _ e];exact k t
theorem Sub.refl (env:Env):Sub env env:=fun _=>.inr rfl
theorem CR.sub {S : List Slot} {a : Act} {w : World} {E : Env} (h : CR N env H S a w) (k : Sub E env) : CR N E H S a w :=
  ⟨h.heap, fun t => by rcases k t with e | e
                       · rw [e]; exact .junk
                       · rw [← e]; exact h.env t, h.size, h.defers⟩
mutual
def AV.bel (n:Nat):AV→Bool
 | .sl id _ _ _ _ | .pt id _ _ _=>decide (id<n)
 | .agg cs | .tup cs=>AV.bels n cs
 | .fn _ p q=>AV.bels n p&&AV.bels n q
 | .ifc _ v=>AV.bel n v
 | _=>true
def AV.bels (n:Nat):List AV→Bool
 | []=>true
 | v :: vs=>AV.bel n v&&AV.bels n vs
end
theorem AV.bels_iff (n:Nat):∀ vs:List AV,AV.bels n vs=true↔∀ v∈vs,AV.bel n v=true
 | []=>by simp [AV.bels]
 | v :: vs=>by simp [AV.bels,AV.bels_iff n vs]
theorem AV.bels_get {n:Nat} {vs:List AV} (h:AV.bels n vs=true) {j:Nat} {v:AV} (hj:vs[j]?=some v):AV.bel n v=true:=(AV.bels_iff n vs).1 h v (List.mem_of_getElem? hj)
theorem VR.bel {O:Nat→Prop} {w:World} {S:List Slot} {v:AV} {u:Value} (h:VR O w S v u):v.bel S.length=true:=by
 induction h with
 | sl s hs _ _ _=>simpa [AV.bel] using (List.getElem?_eq_some_iff.1 hs).1
 | pt s hs _ _ _=>simpa [AV.bel] using (List.getElem?_eq_some_iff.1 hs).1
 | agg hn _ _ ih =>
  simp only [AV.bel,AV.bels_iff]
  intro v hv
  obtain ⟨j,hj⟩:=List.mem_iff_getElem?.1 hv
  exact ih j v _ hj (Array.getElem?_eq_getElem (by rw [← hn];exact (List.getElem?_eq_some_iff.1 hj).1))
 | tup hn _ ih =>
  simp only [AV.bel,AV.bels_iff]
  intro v hv
  obtain ⟨j,hj⟩:=List.mem_iff_getElem?.1 hv
  exact ih j v _ hj (Array.getElem?_eq_getElem (by rw [← hn];exact (List.getElem?_eq_some_iff.1 hj).1))
 | fn hp hq _ _ ih1 ih2 =>
  simp only [AV.bel,AV.bels_iff,Bool.and_eq_true]
  refine ⟨fun v hv=>?_,fun v hv=>?_⟩
  ·obtain ⟨j,hj⟩:=List.mem_iff_getElem?.1 hv
   exact ih1 j v _ hj (Array.getElem?_eq_getElem (by rw [← hp];exact (List.getElem?_eq_some_iff.1 hj).1))
  ·obtain ⟨j,hj⟩:=List.mem_iff_getElem?.1 hv
   exact ih2 j v _ hj (Array.getElem?_eq_getElem (by rw [← hq];exact (List.getElem?_eq_some_iff.1 hj).1))
 | ifc _ ih=>exact ih
 | _=>rfl
theorem qdk {S:List Slot} {n b:Nat} (h:own (S.take n) b):own S b:=by
 obtain ⟨i,s,hs,hp⟩:=h
 rw [List.getElem?_take] at hs
 split at hs
 ·exact ⟨i,s,hs,hp⟩
 ·cases hs
theorem VR.take {O:Nat→Prop} {w:World} {S:List Slot} {v:AV} {u:Value} (h:VR O w S v u) {O':Nat→Prop} (hO:∀ b,¬ O b→¬ O' b) {n:Nat}:v.bel n=true→VR O' w (S.take n) v u:=by
 have hw:Stp O O' w w:=⟨Nat.le_refl _,fun b _ h=>⟨hO b h,rfl⟩,fun _ arr _ h=>⟨arr,h,rfl⟩⟩
 induction h with
 | sl s hs hg h1 h =>
  intro hb
  simp [AV.bel] at hb
  exact .sl s (by rw [List.getElem?_take,if_pos hb];exact hs) hg h1 h
 | pt s hs hg h1 h =>
  intro hb
  simp [AV.bel] at hb
  exact .pt s (by rw [List.getElem?_take,if_pos hb];exact hs) hg h1 h
 | agg hn hl _ ih=>intro hb;exact .agg hn hl fun j v u hv hu=>ih j v u hv hu (AV.bels_get hb hv)
 | tup hn _ ih=>intro hb;exact .tup hn fun j v u hv hu=>ih j v u hv hu (AV.bels_get hb hv)
 | fn hp hq _ _ ih1 ih2 =>
  intro hb
  simp only [AV.bel,Bool.and_eq_true] at hb
  exact .fn hp hq (fun j v u hv hu=>ih1 j v u hv hu (AV.bels_get hb.1 hv)) (fun j v u hv hu=>ih2 j v u hv hu (AV.bels_get hb.2 hv))
 | ifc _ ih=>intro hb;exact .ifc (ih hb)
 | pl base sz u hc hb hs hm hl hv _=>intro _;exact .pl base sz u hc (fun hx=>⟨(hb hx).1,hO _ (hb hx).2.1,(hb hx).2.2⟩) hs hm hl (fun i j r v hr hv'=>(hv i j r v hr hv').mono hw (SExt.refl _))
 | pp base sz u hb hs hm hl hv _=>intro _;exact .pp base sz u ⟨hO _ hb.1,hb.2⟩ hs hm hl (fun i j r v hr hv'=>(hv i j r v hr hv').mono hw (SExt.refl _))
 | junk=>intro _;exact .junk
 | int=>intro _;exact .int
 | bool=>intro _;exact .bool
 | str=>intro _;exact .str
 | flt=>intro _;exact .flt
 | nsl=>intro _;exact .nsl
 | nptr=>intro _;exact .nptr
 | nfn=>intro _;exact .nfn
 | nifc=>intro _;exact .nifc
 | raw=>intro _;exact .raw
 | know ho hg h hx=>intro _;exact .know (hO _ ho) hg h hx
def HBel (n:Nat) (M:qf):Prop:=∀ o∈M,∀ r∈o.rows,AV.bels n r=true
def EBel (n:Nat) (E:Env):Prop:=∀ t,(get E t).bel n=true
theorem EBel.nil {n:Nat}:EBel n []:=fun _=>rfl
theorem EBel.cons {n d:Nat} {v:AV} {E:Env} (h:v.bel n=true) (k:EBel n E):EBel n ((d,v) :: E):=fun t=>by
 by_cases e:d=t
 ·subst e;rw [qt];exact h
 ·rw [qg _ _ e];exact k t
theorem HRel.bel {S:List Slot} {w:World} (h:HRel H S w):HBel H.length H:=by
 intro o ho r hr
 obtain ⟨id,hid⟩:=List.mem_iff_getElem?.1 ho
 obtain ⟨i,hi⟩:=List.mem_iff_getElem?.1 hr
 have hlt:id<S.length:=by rw [← h.len];exact (List.getElem?_eq_some_iff.1 hid).1
 have ok:=h.obj id o _ hid (List.getElem?_eq_getElem hlt)
 rw [AV.bels_iff]
 intro v hv
 obtain ⟨j,hj⟩:=List.mem_iff_getElem?.1 hv
 cases hp:S[id].place with
 | none=>rw [ok.nope hp] at hi;simp at hi
 | some b =>
  obtain ⟨arr,ty,_,_,h3⟩:=ok.lies b hp
  obtain ⟨_,u,_,hvr⟩:=(h3 i r hi).2 j v hj
  rw [h.len]
  exact hvr.bel
theorem HRel.take {S:List Slot} {w:World} {n:Nat} (h:HRel H S w) (hb:HBel n (H.take n)):HRel (H.take n) (S.take n) w:=by
 refine ⟨by simp [h.len],fun id o s ho hs=>?_,fun i j si sj b hi hj=>?_⟩
 ·rw [List.getElem?_take] at ho hs
  split at ho
  ·rename_i hlt
   rw [if_pos hlt] at hs
   have ok:=h.obj id o s ho hs
   refine ⟨ok.gen,ok.sz,ok.pos,ok.nope,fun b hp=>?_⟩
   obtain ⟨arr,ty,h1,h2,h3⟩:=ok.lies b hp
   refine ⟨arr,ty,h1,h2,fun i r hr=>⟨(h3 i r hr).1,fun j v hv=>?_⟩⟩
   obtain ⟨hl,u,hu,hvr⟩:=(h3 i r hr).2 j v hv
   have hbel:v.bel n=true:=AV.bels_get (hb o (List.mem_of_getElem? (by rw [List.getElem?_take,if_pos hlt];exact ho)) r (List.mem_of_getElem? hr)) hv
   exact ⟨hl,u,hu,hvr.take (fun b h k=>h (qdk k)) hbel⟩
  ·cases ho
 ·rw [List.getElem?_take] at hi hj
  split at hi
  ·split at hj
   ·exact h.inj i j si sj b hi hj
   ·cases hj
  ·cases hi
theorem Ext.take {S S':List Slot} {w w':World} {n:Nat} (h:Ext S w S' w') (hn:S.length≤n):Ext S w (S'.take n) w' :=
 ⟨h.os,h.tape,h.output,⟨h.stp.size,fun b hb ho=>⟨fun k=>(h.stp.old b hb ho).1 (qdk k),(h.stp.old b hb ho).2⟩,h.stp.cells⟩,fun id s hs=>by
  obtain ⟨s',h1,h2⟩:=h.slots id s hs
  have hlt:id<n:=Nat.lt_of_lt_of_le (List.getElem?_eq_some_iff.1 hs).1 hn
  exact ⟨s',by rw [List.getElem?_take,if_pos hlt];exact h1,h2⟩⟩
def Fit (B:Base) (E:Env) (H' M:qf):Prop:=H'=M∨∃ G,H'=M++G∧B.S.length≤M.length∧EBel M.length E∧HBel M.length M
theorem Fit.refl (E:Env) (M:qf):Fit B E M M:=.inl rfl
theorem CR.fit {S:List Slot} {a:Act} {w:World} {M:qf} (h:CR N env H S a w) (k:Ext B.S B.w S w) (hf:Fit B env H M):∃ S',CR N env M S' a w∧Ext B.S B.w S' w:=by
 rcases hf with rfl | ⟨G,rfl,hn,he,hm⟩
 ·exact ⟨S,h,k⟩
 ·have ht:(M++G).take M.length=M:=by simp
  refine ⟨S.take M.length,⟨?_,fun t=>(h.env t).take (fun b h k=>h (qdk k)) (he t),h.size,h.defers⟩,k.take hn⟩
  have:=h.heap.take (n:=M.length) (by rw [ht];exact hm)
  rwa [ht] at this
theorem qm {c:Code} {G:Type} (I:G→Prop) (E:G→Env) (M:G→qf) (μ:G→Nat) (g0:G) (h0:I g0) (he:Sub (E g0) env) (hH:Fit B (E g0) H (M g0))
  (round:∀ g,I g→AWp P N B c (AX.andThen (fun e H'=>∃ g',μ g'<μ g∧I g'∧Sub (E g') e∧Fit B (E g') H' (M g')) Q) (E g) (M g)):AWp P N B (.loop c) Q env H:=by
 intro S a w hc hb
 obtain ⟨S0,hc0,hb0⟩:=(hc.sub he).fit hb hH
 refine wp_loop_ghost (fun n a' w'=>∃ g S',μ g=n∧I g∧CR N (E g) (M g) S' a' w'∧Ext B.S B.w S' w') (μ g0) ⟨g0,S0,rfl,h0,hc0,hb0⟩ ?_
 rintro n a1 w1 ⟨g,S1,rfl,hI,hc1,k1⟩
 refine wp_mono (round g hI S1 a1 w1 hc1 k1) ?_
 intro e a' w' ⟨x,env',H',S',q,r,c,k⟩
 cases r with
 | nrm =>
  obtain ⟨g',hm,hI',hs,hf⟩:=q
  obtain ⟨S2,hc2,k2⟩:=(c.sub hs).fit k hf
  exact ⟨μ g',hm,g',S2,rfl,hI',hc2,k2⟩
 | brk=>exact ⟨_,env',H',S',q,.brk,c,k⟩
 | ret=>exact ⟨_,env',H',S',q,.ret,c,k⟩
 | pan hv=>exact ⟨_,env',H',S',q,.pan hv,c,k⟩
theorem q18 {id:Nat} {l:List Oper} (h:q61 P N B l.toArray l Q env H):AWp P N B (.region id l.toArray false) Q env H :=
 fun S a w hc hb=>wp_region_lit (h S a w hc hb)
variable {ops : Array Oper} {rest : List Oper}
theorem qe (h:Q .nrm env H):q61 P N B ops [] Q env H:=fun S _ _ hc hb=>wpList_nil ⟨.nrm,env,H,S,h,.nrm,hc,hb⟩
theorem q69 {o:Oper} (hg:o.guard=none) (hd:∀ t,o.dst=some t→t<N) {K X:AV→qf→Prop} (h:AOp P N o env H K X)
  (hK:∀ v H',K v H'→q61 P N B ops rest Q (put env o.dst v) H') (hX:∀ v H',X v H'→Q (.pan v) env H'):q61 P N B ops (o :: rest) Q env H:=by
 intro S a w hc hb
 refine wpList_plain hg fun next hnext=>?_
 refine h S a w hc next _ ?_ ?_
 ·intro v u H' S' w' hk hh hx hv
  exact hnext _ _ (hK v H' hk S' _ w' (hc.put hx hh hd hv) (hb.trans hx))
 ·intro v u H' S' w' hk hh hx hv
  exact ⟨.pan v,env,H',S',hX v H' hk,.pan hv,hc.step hx hh,hb.trans hx⟩
theorem qbm {S:List Slot} {a:Act} {w:World} (hc:CR N env H S a w) {j d:Nat} {b:Bool} (hj:(ops[j]?).bind (·.dst)=some d) (hb:get env d = .bool b):yielded ops a.tmps j=some b:=by
 have hv:=hc.env d
 rw [hb] at hv
 unfold yielded
 rw [hj]
 have:a.tmps.getD d undef = .bool b:=by cases hq:a.tmps.getD d undef<;>rw [hq] at hv<;>cases hv;rfl
 cases hq:a.tmps[d]? with
 | none=>simp [hq,undef] at this
 | some u =>
  have:u = .bool b:=by simpa [hq] using this
  subst this
  simp [hq]
theorem qfb {S:List Slot} {a:Act} {w:World} (hc:CR N env H S a w) {j d:Nat} (hj:(ops[j]?).bind (·.dst)=some d) (hb:get env d = .tup []):yielded ops a.tmps j=none:=by
 have hv:=hc.env d
 rw [hb] at hv
 unfold yielded
 rw [hj]
 have:a.tmps.getD d undef = .tuple #[]:=by
  cases hq:a.tmps.getD d undef<;>rw [hq] at hv<;>cases hv
  rename_i hn _
  rw [Array.size_eq_zero_iff.1 hn.symm]
 cases hq:a.tmps[d]? with
 | none=>simp [hq]
 | some u =>
  have:u = .tuple #[]:=by simpa [hq] using this
  subst this
  simp [hq]
theorem qdh {O:Nat→Prop} {w:World} {S:List Slot}:VR O w S (.tup []) undef:=.tup rfl fun _ _ _ h=>by simp at h
theorem qqs {o:Oper} {j:Nat} {want b:Bool} {d:Nat} (hg:o.guard=some (j,want)) (hj:(ops[j]?).bind (·.dst)=some d) (hb:get env d = .bool b) (hne:b≠want) (hd:∀ t,o.dst=some t→t<N)
  (h:q61 P N B ops rest Q (put env o.dst (.tup [])) H):q61 P N B ops (o :: rest) Q env H:=by
 intro S a w hc hB
 refine wpList_step fun next hnext=>?_
 rw [if_neg (by simp [Region.wanted,hg,qbm hc hj hb,hne])]
 exact hnext _ _ (h S _ w (hc.put (Ext.refl S w) hc.heap hd qdh) hB)
theorem qpl {o:Oper} {j:Nat} {want:Bool} {d:Nat} (hg:o.guard=some (j,want)) (hj:(ops[j]?).bind (·.dst)=some d) (hb:get env d = .tup []) (hd:∀ t,o.dst=some t→t<N)
  (h:q61 P N B ops rest Q (put env o.dst (.tup [])) H):q61 P N B ops (o :: rest) Q env H:=by
 intro S a w hc hB
 refine wpList_step fun next hnext=>?_
 rw [if_neg (by simp [Region.wanted,hg,qfb hc hj hb])]
 exact hnext _ _ (h S _ w (hc.put (Ext.refl S w) hc.heap hd qdh) hB)
theorem qt7 {o:Oper} {j:Nat} {want:Bool} {d:Nat} (hg:o.guard=some (j,want)) (hj:(ops[j]?).bind (·.dst)=some d) (hb:get env d = .bool want) (hd:∀ t,o.dst=some t→t<N) {K X:AV→qf→Prop} (h:AOp P N o env H K X)
  (hK:∀ v H',K v H'→q61 P N B ops rest Q (put env o.dst v) H') (hX:∀ v H',X v H'→Q (.pan v) env H'):q61 P N B ops (o :: rest) Q env H:=by
 intro S a w hc hB
 refine wpList_step fun next hnext=>?_
 rw [if_pos (by simp [Region.wanted,hg,qbm hc hj hb])]
 refine h S a w hc next _ ?_ ?_
 ·intro v u H' S' w' hk hh hx hv
  exact hnext _ _ (hK v H' hk S' _ w' (hc.put hx hh hd hv) (hB.trans hx))
 ·intro v u H' S' w' hk hh hx hv
  exact ⟨.pan v,env,H',S',hX v H' hk,.pan hv,hc.step hx hh,hB.trans hx⟩
def params:Nat→List AV→Env
 | _,[]=>[]
 | i,v :: vs=>(i,v) :: params (i+1) vs
theorem qc9 (vs:List AV):∀ (i t:Nat),get (params i vs) t=if i≤t then vs.getD (t-i) .junk else .junk:=by
 induction vs with
 | nil=>intro i t;simp [params,get]
 | cons v vs ih =>
  intro i t
  by_cases e:i=t
  ·subst e;simp [params,get]
  ·rw [params,qg _ _ e,ih]
   by_cases h:i≤t
   ·rw [if_pos h,if_pos (by omega),show t-i=(t-(i+1))+1 by omega];simp
   ·rw [if_neg h,if_neg (by omega)]
structure Begun (B : Base) (H : qf) (args : List AV) : Prop where
 len:B.S.length=H.length
 heap:HBel H.length H
 args:AV.bels H.length args=true
end
class TyI (P : Program) (t : TypeId) (agg : outParam Bool) (sz : outParam Nat) : Prop where
 ud:(P.underlying t).map (fun d=>match d with | .struct _ | .array _ _=>true | _=>false)=some agg
 info:(P.info? t).map (·.size)=some sz
class FldI (P : Program) (s : TypeId) (f : Nat) (off : outParam Nat) (ft : outParam TypeId) : Prop where
 ud:(match P.underlying s with | some (.struct fs)=>(fs[f]?).map fun x=>(x.offset,x.type) | _=>none)=some (off,ft)
class SlI (P : Program) (t : TypeId) (e : outParam TypeId) : Prop where
 ud:P.underlying t=some (.slice e)
class ArI (P : Program) (t : TypeId) (n : outParam Nat) (e : outParam TypeId) : Prop where
 ud:P.underlying t=some (.array n e)
class UdI (P : Program) (t : TypeId) (d : outParam TypeDesc) : Prop where
 ud:P.underlying t=some d
class ZeI (P : Program) (t : TypeId) (z : outParam Value) : Prop where
 ze:(P.info? t).bind (·.zero)=some z
class ByI (P : Program) (t : TypeId) (n : outParam Nat) : Prop where
 by_:(P.info? t).map (·.bytes)=some n
theorem q1a {P:Program} {t:TypeId} {d:TypeDesc} (h:P.underlying t=some d) (w:World):(underlying t).run P w = .ok d w:=by simp [underlying,h]
theorem qef {P:Program} {t:TypeId} {agg:Bool} {sz:Nat} [h:TyI P t agg sz] (w:World):(isAgg t).run P w = .ok agg w:=by
 have hu:=h.ud
 cases hd:P.underlying t with
 | none=>simp [hd] at hu
 | some d =>
  rw [hd] at hu
  simp only [Option.map_some,Option.some.injEq] at hu
  unfold isAgg
  simp only [Sem.run_bind,q1a hd,Result.andThen_ok]
  cases d<;>simp_all
theorem q4e {P:Program} {t:TypeId} {agg:Bool} {sz:Nat} [h:TyI P t agg sz] (w:World):(sizeOf t).run P w = .ok sz w:=by
 have hi:=h.info
 cases hd:P.info? t with
 | none=>simp [hd] at hi
 | some i=>simp [hd] at hi;simp [sizeOf,typeInfo,hd,hi]
def V1 (P:Program) (N:Nat) (op:Op) (ty:TypeId) (env:Env) (H:qf) (v:AV):Prop :=
 ∀ S a w,CR N env H S a w→∃ u,(∀ dst pos after guard,(execOp a.eval ⟨dst,op,ty,pos,after,guard⟩).run P w = .ok (.value u) w)∧VR (own S) w S v u
def V2 (P:Program) (N:Nat) (op:Op) (ty:TypeId) (env:Env) (H:qf) (v:AV) (H':qf):Prop :=
 ∀ dst pos after guard,AOp P N ⟨dst,op,ty,pos,after,guard⟩ env H (fun v' h'=>v'=v∧h'=H') (fun _ _=>False)
section
variable {P : Program} {N : Nat} {B : Base} {Q : q6g} {env : Env} {H : qf} {ops : Array Oper} {rest : List Oper} {op : Op} {ty : TypeId} {pos : String} {after : Array Edge}
theorem V1.toV2 {v:AV} (h:V1 P N op ty env H v):V2 P N op ty env H v H:=by
 intro dst pos after guard S a w hc next Q' hn _
 obtain ⟨u,hr,hv⟩:=h S a w hc
 unfold Oper.wp
 rw [hr]
 exact hn v u H S w ⟨rfl,rfl⟩ hc.heap (Ext.refl S w) hv
theorem ao2 {dst:Option Nat} {v:AV} {H':qf} (hd:∀ t,dst=some t→t<N) (h1:V2 P N op ty env H v H') (h:q61 P N B ops rest Q (put env dst v) H'):q61 P N B ops (⟨dst,op,ty,pos,after,none⟩ :: rest) Q env H :=
 q69 rfl hd (h1 dst pos after none) (by rintro _ _ ⟨rfl,rfl⟩;exact h) (fun _ _ h=>h.elim)
theorem ao1 {d:Nat} {v:AV} (hd:d<N) (h1:V1 P N op ty env H v) (h:q61 P N B ops rest Q ((d,v) :: env) H):q61 P N B ops (⟨some d,op,ty,pos,after,none⟩ :: rest) Q env H :=
 ao2 Y1f h1.toV2 h
theorem q12l {d g:Nat} {want:Bool} {j:Nat} {v:AV} {H':qf} (hj:(ops[j]?).bind (·.dst)=some g) (hb:get env g = .bool want) (hd:d<N)
  (h1:V2 P N op ty env H v H') (h:q61 P N B ops rest Q ((d,v) :: env) H'):q61 P N B ops (⟨some d,op,ty,pos,after,some (j,want)⟩ :: rest) Q env H :=
 qt7 rfl hj hb Y1f (h1 (some d) pos after _) (by rintro _ _ ⟨rfl,rfl⟩;exact h) (fun _ _ h=>h.elim)
theorem q12q {d g:Nat} {b want:Bool} {j:Nat} (hj:(ops[j]?).bind (·.dst)=some g) (hb:get env g = .bool b) (hne:b≠want) (hd:d<N)
  (h:q61 P N B ops rest Q ((d,.tup []) :: env) H):q61 P N B ops (⟨some d,op,ty,pos,after,some (j,want)⟩ :: rest) Q env H :=
 qqs rfl hj hb hne Y1f h
theorem qi {x:Operand} {v:AV} (h:aev env x=v):V1 P N (.move x) ty env H v:=fun _ a _ hc=>⟨a.eval x,fun _ _ _ _=>rfl,h▸hc.ev x⟩
theorem q11 {x:Operand} {v:AV} (h:aev env x=v):V1 P N (.assign x) ty env H v:=fun _ a _ hc=>⟨a.eval x,fun _ _ _ _=>rfl,h▸hc.ev x⟩
theorem qby {S:List Slot} {a:Act} {w:World} (hc:CR N env H S a w) {x:Operand} {b:Bool} (h:aev env x = .bool b):a.eval x = .bool b:=by
 have:=hc.ev x
 rw [h] at this
 generalize a.eval x=u at this
 cases this
 rfl
theorem q1e {S:List Slot} {a:Act} {w:World} (hc:CR N env H S a w) {x:Operand} {k:IntKind} {n:Int} (h:aev env x = .int k n):a.eval x = .int k n:=by
 have:=hc.ev x
 rw [h] at this
 generalize a.eval x=u at this
 cases this
 rfl
theorem qak {S:List Slot} {a:Act} {w:World} (hc:CR N env H S a w) {x:Operand} {s:ByteArray} (h:aev env x = .str s):a.eval x = .string s:=by
 have:=hc.ev x
 rw [h] at this
 generalize a.eval x=u at this
 cases this
 rfl
theorem qzw {c x y:Operand} {b:Bool} {v:AV} (hc:aev env c = .bool b) (h1:b=true→aev env x=v) (h2:b=false→aev env y=v):V1 P N (.pick c x y) ty env H v:=fun S a w h=>by
 refine ⟨if b then a.eval x else a.eval y,fun _ _ _ _=>?_,?_⟩
 ·cases b<;>simp [execOp,qby h hc,asBool]
 ·cases b
  ·rw [← h2 rfl];exact h.ev y
  ·rw [← h1 rfl];exact h.ev x
theorem q1n {c x y:Operand} {v:AV} (hc:aev env c = .bool true) (h1:aev env x=v):V1 P N (.pick c x y) ty env H v:=qzw hc (fun _=>h1) (fun h=>by cases h)
theorem q1m {c x y:Operand} {v:AV} (hc:aev env c = .bool false) (h1:aev env y=v):V1 P N (.pick c x y) ty env H v:=qzw hc (fun h=>by cases h) (fun _=>h1)
theorem q1x {x y:Operand} {t t':TypeId} {k:IntKind} {p q r:Int} (hx:aev env x = .int k p) (hy:aev env y = .int k q) (hr:k.wrap (p+q)=r):V1 P N (.binOp .add t x y t') ty env H (.int k r):=fun S a w h =>
 ⟨.int k (k.wrap (p+q)),fun _ _ _ _=>by simp [execOp,q1e h hx,q1e h hy,eqGuard,binOp,Op.intArith],hr▸.int⟩
theorem q30 {x y:Operand} {t t':TypeId} {k:IntKind} {p q r:Int} (hx:aev env x = .int k p) (hy:aev env y = .int k q) (hr:k.wrap (p-q)=r):V1 P N (.binOp .sub t x y t') ty env H (.int k r):=fun S a w h =>
 ⟨.int k (k.wrap (p-q)),fun _ _ _ _=>by simp [execOp,q1e h hx,q1e h hy,eqGuard,binOp,Op.intArith],hr▸.int⟩
theorem qfu {x y:Operand} {t t':TypeId} {k:IntKind} {p q r:Int} (hx:aev env x = .int k p) (hy:aev env y = .int k q) (hr:k.wrap (p * q)=r):V1 P N (.binOp .mul t x y t') ty env H (.int k r):=fun S a w h =>
 ⟨.int k (k.wrap (p * q)),fun _ _ _ _=>by simp [execOp,q1e h hx,q1e h hy,eqGuard,binOp,Op.intArith],hr▸.int⟩
theorem qz7 {x y:Operand} {t t':TypeId} {k:IntKind} {p q r:Int} (hx:aev env x = .int k p) (hy:aev env y = .int k q) (h0:q≠0) (hr:k.wrap (p.tdiv q)=r):V1 P N (.binOp .quo t x y t') ty env H (.int k r):=fun S a w h =>
 ⟨.int k (k.wrap (p.tdiv q)),fun _ _ _ _=>by simp [execOp,q1e h hx,q1e h hy,eqGuard,binOp,Op.intDiv,h0],hr▸.int⟩
theorem qr7 {x y:Operand} {t t':TypeId} {k:IntKind} {p q r:Int} (hx:aev env x = .int k p) (hy:aev env y = .int k q) (h0:q≠0) (hr:p.tmod q=r):V1 P N (.binOp .rem t x y t') ty env H (.int k r):=fun S a w h =>
 ⟨.int k (p.tmod q),fun _ _ _ _=>by simp [execOp,q1e h hx,q1e h hy,eqGuard,binOp,Op.intDiv,h0],hr▸.int⟩
theorem qw8 {x y:Operand} {t t':TypeId} {k:IntKind} {p q r:Int} (hx:aev env x = .int k p) (hy:aev env y = .int k q) (hr:k.wrap (BitVec.ofInt k.bits p &&& BitVec.ofInt k.bits q).toNat=r):V1 P N (.binOp .and t x y t') ty env H (.int k r):=fun S a w h =>
 ⟨.int k (k.wrap (BitVec.ofInt k.bits p &&& BitVec.ofInt k.bits q).toNat),fun _ _ _ _=>by simp only [execOp,q1e h hx,q1e h hy,eqGuard,binOp,Op.intBits];simp,hr▸.int⟩
theorem o_or {x y:Operand} {t t':TypeId} {k:IntKind} {p q r:Int} (hx:aev env x = .int k p) (hy:aev env y = .int k q) (hr:k.wrap (BitVec.ofInt k.bits p ||| BitVec.ofInt k.bits q).toNat=r):V1 P N (.binOp .or t x y t') ty env H (.int k r):=fun S a w h =>
 ⟨.int k (k.wrap (BitVec.ofInt k.bits p ||| BitVec.ofInt k.bits q).toNat),fun _ _ _ _=>by simp only [execOp,q1e h hx,q1e h hy,eqGuard,binOp,Op.intBits];simp,hr▸.int⟩
theorem qpk {x y:Operand} {t t':TypeId} {k:IntKind} {p q r:Int} (hx:aev env x = .int k p) (hy:aev env y = .int k q) (hr:k.wrap (BitVec.ofInt k.bits p &&& ~~~ (BitVec.ofInt k.bits q)).toNat=r):V1 P N (.binOp .andNot t x y t') ty env H (.int k r):=fun S a w h =>
 ⟨.int k (k.wrap (BitVec.ofInt k.bits p &&& ~~~ (BitVec.ofInt k.bits q)).toNat),fun _ _ _ _=>by simp only [execOp,q1e h hx,q1e h hy,eqGuard,binOp,Op.intBits];simp,hr▸.int⟩
theorem qsl {x y:Operand} {t t':TypeId} {k k':IntKind} {p q r:Int} (hx:aev env x = .int k p) (hy:aev env y = .int k' q) (h0:0≤q) (hr:k.wrap (p * 2 ^ min q.toNat k.bits)=r):V1 P N (.binOp .shl t x y t') ty env H (.int k r):=fun S a w h =>
 ⟨.int k (k.wrap (p * 2 ^ min q.toNat k.bits)),fun _ _ _ _=>by simp [execOp,q1e h hx,q1e h hy,eqGuard,binOp,Op.shift,Int.not_lt.2 h0],hr▸.int⟩
theorem qmv {x y:Operand} {t t':TypeId} {k k':IntKind} {p q r:Int} (hx:aev env x = .int k p) (hy:aev env y = .int k' q) (h0:0≤q) (hr:p.fdiv (2 ^ min q.toNat k.bits)=r):V1 P N (.binOp .shr t x y t') ty env H (.int k r):=fun S a w h =>
 ⟨.int k (p.fdiv (2 ^ min q.toNat k.bits)),fun _ _ _ _=>by simp [execOp,q1e h hx,q1e h hy,eqGuard,binOp,Op.shift,Int.not_lt.2 h0],hr▸.int⟩
theorem o_eq {x y:Operand} {t t':TypeId} {k:IntKind} {p q:Int} (hx:aev env x = .int k p) (hy:aev env y = .int k q):V1 P N (.binOp .eql t x y t') ty env H (.bool (p == q)):=fun S a w h =>
 ⟨.bool (p == q),fun _ _ _ _=>by simp [execOp,q1e h hx,q1e h hy,eqGuard,binOp,Op.intCmp],.bool⟩
theorem qyz {x y:Operand} {t t':TypeId} {k:IntKind} {p q:Int} (hx:aev env x = .int k p) (hy:aev env y = .int k q):V1 P N (.binOp .neq t x y t') ty env H (.bool (p != q)):=fun S a w h =>
 ⟨.bool (p != q),fun _ _ _ _=>by simp [execOp,q1e h hx,q1e h hy,eqGuard,binOp,Op.intCmp],.bool⟩
theorem qwh {x y:Operand} {t t':TypeId} {k:IntKind} {p q:Int} (hx:aev env x = .int k p) (hy:aev env y = .int k q):V1 P N (.binOp .lss t x y t') ty env H (.bool (decide (p<q))):=fun S a w h =>
 ⟨.bool (p<q),fun _ _ _ _=>by simp [execOp,q1e h hx,q1e h hy,eqGuard,binOp,Op.intCmp],.bool⟩
theorem o_le {x y:Operand} {t t':TypeId} {k:IntKind} {p q:Int} (hx:aev env x = .int k p) (hy:aev env y = .int k q):V1 P N (.binOp .leq t x y t') ty env H (.bool (decide (p≤q))):=fun S a w h =>
 ⟨.bool (p≤q),fun _ _ _ _=>by simp [execOp,q1e h hx,q1e h hy,eqGuard,binOp,Op.intCmp],.bool⟩
theorem qwm {x y:Operand} {t t':TypeId} {k:IntKind} {p q:Int} (hx:aev env x = .int k p) (hy:aev env y = .int k q):V1 P N (.binOp .gtr t x y t') ty env H (.bool (decide (q<p))):=fun S a w h =>
 ⟨.bool (p > q),fun _ _ _ _=>by simp [execOp,q1e h hx,q1e h hy,eqGuard,binOp,Op.intCmp],.bool⟩
theorem o_ge {x y:Operand} {t t':TypeId} {k:IntKind} {p q:Int} (hx:aev env x = .int k p) (hy:aev env y = .int k q):V1 P N (.binOp .geq t x y t') ty env H (.bool (decide (q≤p))):=fun S a w h =>
 ⟨.bool (p≥q),fun _ _ _ _=>by simp [execOp,q1e h hx,q1e h hy,eqGuard,binOp,Op.intCmp],.bool⟩
theorem qc1 {x:Operand} {t:TypeId} {b:Bool} (hx:aev env x = .bool b):V1 P N (.unOp .not t x) ty env H (.bool (!b)):=fun S a w h =>
 ⟨.bool (!b),fun _ _ _ _=>by simp [execOp,qby h hx,Op.unary],.bool⟩
theorem q10s {x:Operand} {t:TypeId} {k:IntKind} {p r:Int} (hx:aev env x = .int k p) (hr:k.wrap (0-p)=r):V1 P N (.unOp .neg t x) ty env H (.int k r):=fun S a w h =>
 ⟨.int k (k.wrap (0-p)),fun _ _ _ _=>by simp [execOp,q1e h hx,Op.unary,Op.intArith],hr▸.int⟩
theorem qg3 {t:TypeId} [hu:UdI P t .bool] (p q:Bool) (w:World):(Op.equal t (.bool p) (.bool q)).run P w = .ok (p == q) w:=by
 show (Op.equalIn (9999+1) t _ _).run P w=_
 rw [Op.equalIn]
 simp only [Sem.run_bind,q1a hu.ud,Result.andThen_ok,Sem.run_pure]
theorem qiq (t:TypeId) (p q:Bool):binOp .eql t (.bool p) (.bool q)=(do pure (.bool (← Op.equal t (.bool p) (.bool q)))):=rfl
theorem q141 {x y:Operand} {t t':TypeId} {p q:Bool} [hu:UdI P t .bool] (hx:aev env x = .bool p) (hy:aev env y = .bool q):V1 P N (.binOp .eql t x y t') ty env H (.bool (p == q)):=fun S a w h =>
 ⟨.bool (p == q),fun _ _ _ _=>by simp [execOp,qby h hx,qby h hy,eqGuard,qiq,qg3],.bool⟩
theorem qn {x:Operand} {s d:TypeId} {k k':IntKind} {p r:Int} {d':TypeDesc} [hs:UdI P s d'] [hu:UdI P d (.int k)] (hx:aev env x = .int k' p) (hr:k.wrap p=r):V1 P N (.convert s d x) ty env H (.int k r):=fun S a w h =>
 ⟨.int k (k.wrap p),fun _ _ _ _=>by simp [execOp,q1e h hx,convert,q1a hu.ud,q1a hs.ud,Conv.intToInt],hr▸.int⟩
end
def RowOK (O:Nat→Prop) (S:List Slot) (w:World) (sz:Nat) (arr:Array Value) (rows:List (List AV)):Prop :=
 rows.length * sz≤arr.size∧∀ (i:Nat) (r:List AV),rows[i]?=some r→r.length=sz∧∀ (j:Nat) (v:AV),r[j]?=some v→v.leaf=true∧∃ u,arr[i * sz+j]?=some u∧VR O w S v u
theorem ObjOK.row {S:List Slot} {w:World} {o:AObj} {s:Slot} (h:ObjOK S w o s) {b:Nat} (hp:s.place=some b):∃ (arr:Array Value) (ty:TypeId),w.heap[b]?=some (Obj.cells arr ty (0,0))∧RowOK (own S) S w o.sz arr o.rows:=by
 obtain ⟨arr,ty,h1,h2,h3⟩:=h.lies b hp
 exact ⟨arr,ty,h1,h2,h3⟩
theorem RowOK.mono {O O':Nat→Prop} {S S':List Slot} {w w':World} {sz:Nat} {arr:Array Value} {rows:List (List AV)} (h:RowOK O S w sz arr rows) (hw:Stp O O' w w') (hS:SExt S S'):RowOK O' S' w' sz arr rows :=
 ⟨h.1,fun i r hr=>⟨(h.2 i r hr).1,fun j v hv=>by
  obtain ⟨hl,u,hu,hvr⟩:=(h.2 i r hr).2 j v hv
  exact ⟨hl,u,hu,hvr.mono hw hS⟩⟩⟩
theorem HRel.slot {H:qf} {S:List Slot} {w:World} (h:HRel H S w) {id:Nat} {o:AObj} (hid:H[id]?=some o):∃ s,S[id]?=some s∧ObjOK S w o s:=by
 have hi:id<S.length:=by rw [← h.len];exact (List.getElem?_eq_some_iff.1 hid).1
 exact ⟨S[id],List.getElem?_eq_getElem hi,h.obj id o _ hid (List.getElem?_eq_getElem hi)⟩
theorem Ext.of_row {S S':List Slot} {w w':World} {b:Nat} (hb:own S b) (hos:w'.os=w.os) (htape:w'.tape=w.tape) (hout:w'.output=w.output) (hsize:w.heap.size≤w'.heap.size)
  (hother:∀ k,k<w.heap.size→k≠b→w'.heap[k]?=w.heap[k]?) (hrow:∀ arr ty,w.heap[b]?=some (Obj.cells arr ty (0,0))→∃ arr',w'.heap[b]?=some (Obj.cells arr' ty (0,0))∧arr'.size=arr.size)
  (hown:∀ k,k<w.heap.size→¬ own S k→¬ own S' k) (hS:SExt S S'):Ext S w S' w':=by
 refine ⟨hos,htape,hout,⟨hsize,fun k hk ho=>⟨hown k hk ho,hother k hk (fun e=>ho (e▸hb))⟩,fun k arr ty hk=>?_⟩,hS⟩
 by_cases e:k=b
 ·subst e;exact hrow arr ty hk
 ·exact ⟨arr,by rw [hother k (Array.getElem?_eq_some_iff.1 hk).1 e];exact hk,rfl⟩
theorem qr8 {S:List Slot} {w:World} {b:Nat} {arr arr':Array Value} {ty:TypeId} (ho:own S b) (hb:w.heap[b]?=some (Obj.cells arr ty (0,0))) (hsz:arr'.size=arr.size):Ext S w S (w.setRow b arr') :=
 .of_row ho rfl rfl rfl (by simp) (fun k _ hk=>setRow_other w b k arr' hk) (fun a t h=>by
  rw [hb] at h
  injection h with h
  injection h with h1 h2
  subst h1;subst h2
  exact ⟨arr',setRow_heap w b arr arr' ty (0,0) hb,hsz⟩) (fun _ _ h=>h) (SExt.refl S)
theorem HRel.write {H:qf} {S:List Slot} {w:World} (h:HRel H S w) {id b:Nat} {o:AObj} {s:Slot} {arr arr':Array Value} {ty:TypeId} {rows':List (List AV)}
  (hid:H[id]?=some o) (hs:S[id]?=some s) (hp:s.place=some b) (hb:w.heap[b]?=some (Obj.cells arr ty (0,0))) (hsz:arr'.size=arr.size) (hr:RowOK (own S) S w o.sz arr' rows') :
  HRel (H.set id { o with rows:=rows' }) S (w.setRow b arr')∧Ext S w S (w.setRow b arr'):=by
 have hx:Ext S w S (w.setRow b arr'):=qr8 ⟨id,s,hs,hp⟩ hb hsz
 have ho:=h.obj id o s hid hs
 refine ⟨⟨by simpa using h.len,fun id' o' s' ho' hs'=>?_,h.inj⟩,hx⟩
 by_cases e:id=id'
 ·subst e
  rw [hs] at hs'
  obtain rfl:=Option.some.inj hs'
  rw [List.getElem?_set_self (List.getElem?_eq_some_iff.1 hid).1] at ho'
  obtain rfl:=Option.some.inj ho'
  refine ⟨ho.gen,ho.sz,ho.pos,fun hn=>(by rw [hp] at hn;cases hn),fun b' hb'=>?_⟩
  rw [hp] at hb'
  obtain rfl:=Option.some.inj hb'
  exact ⟨arr',ty,setRow_heap w b arr arr' ty (0,0) hb,(hr.mono hx.stp hx.slots).1,(hr.mono hx.stp hx.slots).2⟩
 ·rw [List.getElem?_set_ne e] at ho'
  have ok:=h.obj id' o' s' ho' hs'
  refine ⟨ok.gen,ok.sz,ok.pos,ok.nope,fun b' hb'=>?_⟩
  have hne:b'≠b:=fun e2=>e (h.inj id id' s s' b hs hs' hp (e2▸hb'))
  obtain ⟨arr2,ty2,h2,r2⟩:=ok.row hb'
  exact ⟨arr2,ty2,by rw [setRow_other w b b' arr' hne];exact h2,(r2.mono hx.stp hx.slots).1,(r2.mono hx.stp hx.slots).2⟩
theorem HRel.move {H:qf} {S:List Slot} {w w':World} (h:HRel H S w) {id b:Nat} {o:AObj} {s:Slot} {arr:Array Value} {ty:TypeId} {rows':List (List AV)}
  (hid:H[id]?=some o) (hs:S[id]?=some s) (hx:Ext S w (S.set id ⟨s.gen+1,s.sz,some b⟩) w') (hnew:∀ (j:Nat) (sj:Slot),S[j]?=some sj→sj.place=some b→j=id)
  (hkeep:∀ (j:Nat) (sj:Slot) (b':Nat),S[j]?=some sj→j≠id→sj.place=some b'→w'.heap[b']?=w.heap[b']?)
  (hb:w'.heap[b]?=some (Obj.cells arr ty (0,0))) (hr:RowOK (own (S.set id ⟨s.gen+1,s.sz,some b⟩)) (S.set id ⟨s.gen+1,s.sz,some b⟩) w' o.sz arr rows') :
  HRel (H.set id ⟨o.gen+1,o.sz,rows'⟩) (S.set id ⟨s.gen+1,s.sz,some b⟩) w':=by
 have ho:=h.obj id o s hid hs
 have hlt:id<S.length:=(List.getElem?_eq_some_iff.1 hs).1
 have hltH:id<H.length:=(List.getElem?_eq_some_iff.1 hid).1
 refine ⟨by simpa using h.len,fun id' o' s' ho' hs'=>?_,fun i j si sj b' hi hj hbi hbj=>?_⟩
 ·by_cases e:id=id'
  ·subst e
   rw [List.getElem?_set_self hlt] at hs'
   rw [List.getElem?_set_self hltH] at ho'
   obtain rfl:=Option.some.inj hs'
   obtain rfl:=Option.some.inj ho'
   refine ⟨by simp [ho.gen],ho.sz,ho.pos,fun hn=>(by cases hn),fun b' hb'=>?_⟩
   obtain rfl:=Option.some.inj hb'
   exact ⟨arr,ty,hb,hr.1,hr.2⟩
  ·rw [List.getElem?_set_ne e] at ho' hs'
   have ok:=h.obj id' o' s' ho' hs'
   refine ⟨ok.gen,ok.sz,ok.pos,ok.nope,fun b' hb'=>?_⟩
   obtain ⟨arr2,ty2,h2,r2⟩:=ok.row hb'
   exact ⟨arr2,ty2,by rw [hkeep id' s' b' hs' (Ne.symm e) hb'];exact h2,(r2.mono hx.stp hx.slots).1,(r2.mono hx.stp hx.slots).2⟩
 ·by_cases ei:id=i
  ·by_cases ej:id=j
   ·exact ei.symm.trans ej
   ·subst ei
    rw [List.getElem?_set_self hlt] at hi
    rw [List.getElem?_set_ne ej] at hj
    obtain rfl:=Option.some.inj hi
    obtain rfl:=Option.some.inj hbi
    exact (hnew j sj hj hbj).symm
  ·by_cases ej:id=j
   ·subst ej
    rw [List.getElem?_set_self hlt] at hj
    rw [List.getElem?_set_ne ei] at hi
    obtain rfl:=Option.some.inj hj
    obtain rfl:=Option.some.inj hbj
    exact hnew i si hi hbi
   ·rw [List.getElem?_set_ne ei] at hi
    rw [List.getElem?_set_ne ej] at hj
    exact h.inj i j si sj b' hi hj hbi hbj
theorem SExt.bump {S:List Slot} {id:Nat} {s:Slot} {x:Slot} (hs:S[id]?=some s) (hx:s.gen<x.gen):SExt S (S.set id x):=fun j sj hj=>by
 by_cases e:id=j
 ·subst e
  rw [hs] at hj
  obtain rfl:=Option.some.inj hj
  exact ⟨x,List.getElem?_set_self (List.getElem?_eq_some_iff.1 hs).1,Nat.le_of_lt hx,fun e=>by omega⟩
 ·exact ⟨sj,by rw [List.getElem?_set_ne e];exact hj,Nat.le_refl _,fun _=>⟨rfl,rfl⟩⟩
theorem HRel.push {H:qf} {S:List Slot} {w w':World} (h:HRel H S w) {s:Slot} {rows:List (List AV)} (hx:Ext S w (S++[s]) w') (hpos:0<s.sz)
  (hold:∀ b,b<w.heap.size→w'.heap[b]?=w.heap[b]?) (hnone:s.place=none→rows=[])
  (hsome:∀ b,s.place=some b→w.heap.size≤b∧∃ (arr:Array Value) (ty:TypeId),w'.heap[b]?=some (Obj.cells arr ty (0,0))∧RowOK (own (S++[s])) (S++[s]) w' s.sz arr rows) :
  HRel (H++[⟨s.gen,s.sz,rows⟩]) (S++[s]) w':=by
 refine ⟨by simp [h.len],fun id o' s' ho' hs'=>?_,fun i j si sj b' hi hj hbi hbj=>?_⟩
 ·by_cases e:id<S.length
  ·rw [List.getElem?_append_left e] at hs'
   rw [List.getElem?_append_left (by rw [h.len];exact e)] at ho'
   have ok:=h.obj id o' s' ho' hs'
   refine ⟨ok.gen,ok.sz,ok.pos,ok.nope,fun b' hb'=>?_⟩
   obtain ⟨arr2,ty2,h2,r2⟩:=ok.row hb'
   exact ⟨arr2,ty2,by rw [hold b' (Array.getElem?_eq_some_iff.1 h2).1];exact h2,(r2.mono hx.stp hx.slots).1,(r2.mono hx.stp hx.slots).2⟩
  ·have el:id=S.length:=by
    have:=(List.getElem?_eq_some_iff.1 hs').1
    simp at this
    omega
   subst el
   rw [List.getElem?_append_right (Nat.le_refl _)] at hs'
   rw [← h.len,List.getElem?_append_right (Nat.le_refl _)] at ho'
   simp at hs' ho'
   subst hs';subst ho'
   refine ⟨rfl,rfl,hpos,hnone,fun b' hb'=>?_⟩
   obtain ⟨_,arr,ty,h1,h2⟩:=hsome b' hb'
   exact ⟨arr,ty,h1,h2.1,h2.2⟩
 ·have key:∀ (i:Nat) (si:Slot),(S++[s])[i]?=some si→si.place=some b'→(b'<w.heap.size∧S[i]?=some si)∨(w.heap.size≤b'∧i=S.length):=by
   intro i si hi hbi
   by_cases e:i<S.length
   ·rw [List.getElem?_append_left e] at hi
    exact .inl ⟨qlc h ⟨i,si,hi,hbi⟩,hi⟩
   ·have el:i=S.length:=by
     have:=(List.getElem?_eq_some_iff.1 hi).1
     simp at this
     omega
    subst el
    rw [List.getElem?_append_right (Nat.le_refl _)] at hi
    simp at hi
    subst hi
    exact .inr ⟨(hsome b' hbi).1,rfl⟩
  rcases key i si hi hbi with ⟨h1,h2⟩ | ⟨h1,h2⟩<;>rcases key j sj hj hbj with ⟨h3,h4⟩ | ⟨h3,h4⟩
  ·exact h.inj i j si sj b' h2 h4 hbi hbj
  ·omega
  ·omega
  ·omega
theorem qoi {S:List Slot} {s:Slot} {b:Nat} (h:own (S++[s]) b):own S b∨s.place=some b:=by
 obtain ⟨i,x,hx,hp⟩:=h
 by_cases e:i<S.length
 ·rw [List.getElem?_append_left e] at hx;exact .inl ⟨i,x,hx,hp⟩
 ·have el:i=S.length:=by
   have:=(List.getElem?_eq_some_iff.1 hx).1
   simp at this
   omega
  subst el
  rw [List.getElem?_append_right (Nat.le_refl _)] at hx
  simp at hx
  subst hx
  exact .inr hp
structure Made (w w' : World) (arr : Array Value) (ty : TypeId) : Prop where
 os:w'.os=w.os
 tape:w'.tape=w.tape
 output:w'.output=w.output
 size:w'.heap.size=w.heap.size+1
 old:∀ b,b<w.heap.size→w'.heap[b]?=w.heap[b]?
 new:w'.heap[w.heap.size]?=some (Obj.cells arr ty (0,0))
theorem Made.alloc (w:World) (arr:Array Value) (ty:TypeId):Made w (w.alloc (.cells arr ty)) arr ty :=
 ⟨rfl,rfl,rfl,by simp,fun b hb=>(by first | exact heap_alloc_old w _ b hb | exact heap_alloc_old w _ hb),heap_alloc_new w _⟩
theorem Made.drew_alloc (w:World) (arr:Array Value) (ty:TypeId):Made w (w.drew.alloc (.cells arr ty)) arr ty :=
 ⟨rfl,rfl,rfl,by simp,fun b hb=>(by first | exact heap_alloc_old w.drew _ b hb | exact heap_alloc_old w.drew _ hb),heap_alloc_new w.drew _⟩
theorem Made.ext {S:List Slot} {w w':World} {arr:Array Value} {ty:TypeId} (h:Made w w' arr ty) (g sz:Nat):Ext S w (S++[⟨g,sz,some w.heap.size⟩]) w':=by
 refine ⟨h.os,h.tape,h.output,⟨by rw [h.size];omega,fun b hb ho=>⟨fun k=>?_,h.old b hb⟩,fun b arr ty hb=>⟨arr,by rw [h.old b (Array.getElem?_eq_some_iff.1 hb).1];exact hb,rfl⟩⟩,SExt.snoc S _⟩
 rcases qoi k with k | k
 ·exact ho k
 ·simp at k;omega
theorem Made.same {S:List Slot} {w w':World} {arr:Array Value} {ty:TypeId} (h:Made w w' arr ty):Ext S w S w':=by
 refine ⟨h.os,h.tape,h.output,⟨by rw [h.size];omega,fun b hb ho=>⟨ho,h.old b hb⟩,fun b arr ty hb=>⟨arr,by rw [h.old b (Array.getElem?_eq_some_iff.1 hb).1];exact hb,rfl⟩⟩,SExt.refl S⟩
theorem HRel.made {H:qf} {S:List Slot} {w w':World} {arr:Array Value} {ty:TypeId} (h:HRel H S w) (k:Made w w' arr ty) {sz:Nat} {rows:List (List AV)} (hpos:0<sz)
  (hr:RowOK (own S) S w sz arr rows):HRel (H++[⟨0,sz,rows⟩]) (S++[⟨0,sz,some w.heap.size⟩]) w'∧Ext S w (S++[⟨0,sz,some w.heap.size⟩]) w':=by
 have hx:=k.ext (S:=S) 0 sz
 exact ⟨h.push hx hpos k.old (fun e=>by cases e) (fun b hb=>by simp at hb;subst hb;exact ⟨Nat.le_refl _,arr,ty,k.new,hr.mono hx.stp hx.slots⟩),hx⟩
theorem SExt.last (S:List Slot) (s:Slot):(S++[s])[S.length]?=some s:=by simp
def AV.cells:AV→List AV
 | .agg cs=>cs
 | v=>[v]
def AV.cellish:AV→Bool
 | .agg _=>true
 | v=>v.leaf
theorem VR.cells {O:Nat→Prop} {w:World} {S:List Slot} {v:AV} {u:Value} (h:VR O w S v u) (hc:v.cellish=true) :
  v.cells.length=u.cells.size∧(∀ x∈u.cells.toList,x.oneCell'=true)∧∀ (j:Nat) (x:AV),v.cells[j]?=some x→x.leaf=true∧∃ y,u.cells[j]?=some y∧VR O w S x y:=by
 have simple:∀ {v:AV} {u:Value},VR O w S v u→v.leaf=true→v.cells=[v]→u.cells = #[u] →
   v.cells.length=u.cells.size∧(∀ x∈u.cells.toList,x.oneCell'=true)∧∀ (j:Nat) (x:AV),v.cells[j]?=some x→x.leaf=true∧∃ y,u.cells[j]?=some y∧VR O w S x y:=by
  intro v u h hl e1 e2
  rw [e1,e2]
  refine ⟨rfl,fun x hx=>by simp at hx;subst hx;exact h.one hl,fun j x hx=>?_⟩
  cases j with
  | zero=>simp at hx;subst hx;exact ⟨hl,u,by simp,h⟩
  | succ j=>simp at hx
 have onecells:∀ {u:Value},u.oneCell'=true→u.cells = #[u]:=by intro u hu;cases u<;>first | rfl | (simp [Value.oneCell'] at hu)
 cases h with
 | agg hn hl h =>
  rename_i cs vs
  refine ⟨hn,fun x hx=>?_,fun j x hx=>?_⟩
  ·obtain ⟨j,hj⟩:=List.mem_iff_getElem?.1 hx
   have hj':vs[j]?=some x:=by simpa [Value.cells] using hj
   have hlt:j<cs.length:=by rw [hn];exact (Array.getElem?_eq_some_iff.1 hj').1
   exact (h j _ x (List.getElem?_eq_getElem hlt) hj').one (hl j _ (List.getElem?_eq_getElem hlt))
  ·have hx':cs[j]?=some x:=hx
   have hlt:j<vs.size:=by rw [← hn];exact (List.getElem?_eq_some_iff.1 hx').1
   exact ⟨hl j x hx',vs[j],by simp [Value.cells,hlt],h j x _ hx' (Array.getElem?_eq_getElem hlt)⟩
 | junk=>simp [AV.cellish,AV.leaf] at hc
 | raw=>simp [AV.cellish,AV.leaf] at hc
 | know=>simp [AV.cellish,AV.leaf] at hc
 | tup=>simp [AV.cellish,AV.leaf] at hc
 | int=>exact simple .int rfl rfl rfl
 | bool=>exact simple .bool rfl rfl rfl
 | str=>exact simple .str rfl rfl rfl
 | flt=>exact simple .flt rfl rfl rfl
 | nsl=>exact simple .nsl rfl rfl rfl
 | pl base sz u hcc hb hs hm hl hv=>exact simple (.pl base sz u hcc hb hs hm hl hv) rfl rfl rfl
 | sl s hs hg h1 h=>exact simple (.sl s hs hg h1 h) rfl rfl (onecells h1)
 | pt s hs hg h1 h=>exact simple (.pt s hs hg h1 h) rfl rfl (onecells h1)
 | pp base sz u hb hs hm hl hv=>exact simple (.pp base sz u hb hs hm hl hv) rfl rfl rfl
 | nptr=>exact simple .nptr rfl rfl rfl
 | fn hp hq h1 h2=>exact simple (.fn hp hq h1 h2) rfl rfl rfl
 | nfn=>exact simple .nfn rfl rfl rfl
 | ifc h=>exact simple (.ifc h) rfl rfl rfl
 | nifc=>exact simple .nifc rfl rfl rfl
theorem q3z (b o n:Nat):(⟨b,o,none⟩:Addr).add n=⟨b,o+n,none⟩:=by unfold Addr.add;split<;>simp_all
theorem qbp (a:Addr) (m n:Nat):(a.add m).add n=a.add (m+n):=by
 unfold Addr.add
 by_cases hm:m=0<;>by_cases hn:n=0<;>simp [hm,hn,Nat.add_assoc]
section
variable {P : Program} {N : Nat} {env : Env} {H : qf} {ty : TypeId}
theorem CR.ptr {S:List Slot} {a:Act} {w:World} (hc:CR N env H S a w) {x:Operand} {id i j:Nat} {o:AObj} (hx:aev env x = .pt id o.gen i j) (hid:H[id]?=some o) :
  ∃ s b arr ty,S[id]?=some s∧s.place=some b∧a.eval x = .pointer (some ⟨b,i * o.sz+j,none⟩)∧w.heap[b]?=some (Obj.cells arr ty (0,0))∧RowOK (own S) S w o.sz arr o.rows:=by
 have hv:=hc.ev x
 rw [hx] at hv
 obtain ⟨s,hs,ok⟩:=hc.heap.slot hid
 generalize a.eval x=u at hv
 cases hv with
 | pt s' hs' hg _ h =>
  rw [hs] at hs'
  obtain rfl:=Option.some.inj hs'
  obtain ⟨b,hb,rfl⟩:=h ok.gen.symm
  obtain ⟨arr,ty,h1,h2⟩:=ok.row hb
  exact ⟨s,b,arr,ty,hs,hb,by rw [ok.sz],h1,h2⟩
theorem q8x {t:TypeId} {sz:Nat} [TyI P t false sz] {w:World} {ad:Addr} {u:Value} (h:w.cell? ad=some u):(loadVar t ad).run P w = .ok u w:=by
 simp [loadVar,qef (P:=P) (t:=t) (agg:=false),h]
theorem qd8 {t:TypeId} {sz:Nat} [TyI P t true sz] {w:World} {ad:Addr} {f:Nat→Value} (h:∀ j,j<sz→w.cell? (ad.add j)=some (f j)):(loadVar t ad).run P w = .ok (.agg ((List.range sz).map f).toArray) w:=by
 simp [loadVar,qef (P:=P) (t:=t) (agg:=true),q4e (P:=P) (t:=t) (agg:=true),run_loadCells w ad sz f h]
theorem qve {t:TypeId} {x:Operand} {id i j sz:Nat} {o:AObj} {r:List AV} {v:AV} [TyI P t false sz] (hx:aev env x = .pt id o.gen i j) (hid:H[id]?=some o) (hr:o.rows[i]?=some r) (hv:r[j]?=some v):V1 P N (.load t x) ty env H v:=by
 intro S a w hc
 obtain ⟨s,b,arr,_,hs,hp,he,hb,hrow⟩:=hc.ptr hx hid
 obtain ⟨_,u,hu,hvr⟩:=(hrow.2 i r hr).2 j v hv
 refine ⟨u,fun _ _ _ _=>?_,hvr⟩
 have hcell:w.cell? ⟨b,i * o.sz+j,none⟩=some u:=by rw [cell_of_row w b _ arr _ _ hb];exact hu
 simp [execOp,he,Instr.loadAt,Instr.sureAddr,q8x (P:=P) (t:=t) hcell]
theorem qn1 {t:TypeId} {x:Operand} {id i j sz:Nat} {o:AObj} {r cs:List AV} [TyI P t true sz] (hx:aev env x = .pt id o.gen i j) (hid:H[id]?=some o) (hr:o.rows[i]?=some r) (hv:(r.drop j).take sz=cs) (hn:cs.length=sz):V1 P N (.load t x) ty env H (.agg cs):=by
 intro S a w hc
 obtain ⟨s,b,arr,_,hs,hp,he,hb,hrow⟩:=hc.ptr hx hid
 have hcs:∀ k,k<sz→∃ v u,cs[k]?=some v∧v.leaf=true∧arr[i * o.sz+(j+k)]?=some u∧VR (own S) w S v u:=by
  intro k hk
  have h1:cs[k]?=some cs[k]:=List.getElem?_eq_getElem (by omega)
  have h2:r[j+k]?=some cs[k]:=by
   rw [← h1,← hv,List.getElem?_take,if_pos hk,List.getElem?_drop]
  obtain ⟨hl,u,hu,hvr⟩:=(hrow.2 i r hr).2 (j+k) _ h2
  exact ⟨cs[k],u,h1,hl,hu,hvr⟩
 have hcell:∀ k,k<sz→w.cell? ((⟨b,i * o.sz+j,none⟩:Addr).add k)=some ((fun k=>arr.getD (i * o.sz+(j+k)) undef) k):=by
  intro k hk
  obtain ⟨v,u,_,_,hu,_⟩:=hcs k hk
  rw [q3z,cell_of_row w b _ arr _ _ hb,Nat.add_assoc]
  simp [hu]
 refine ⟨_,fun _ _ _ _=>by simp [execOp,he,Instr.loadAt,Instr.sureAddr,qd8 (P:=P) (t:=t) hcell];rfl,?_⟩
 refine .agg (by simp [hn]) (fun k v hk=>?_) (fun k v u hk hu=>?_)
 ·have hlt:k<sz:=by rw [← hn];exact (List.getElem?_eq_some_iff.1 hk).1
  obtain ⟨v',_,h1,h2,_⟩:=hcs k hlt
  rw [hk] at h1
  obtain rfl:=Option.some.inj h1
  exact h2
 ·have hlt:k<sz:=by rw [← hn];exact (List.getElem?_eq_some_iff.1 hk).1
  obtain ⟨v',u',h1,_,h3,h4⟩:=hcs k hlt
  rw [hk] at h1
  obtain rfl:=Option.some.inj h1
  have:u=u':=by simpa [hlt,h3] using hu.symm
  rw [this]
  exact h4
theorem CR.pptr {S:List Slot} {a:Act} {w:World} (hc:CR N env H S a w) {x:Operand} {xs:List (List AV)} {i j:Nat} {r:List AV} (hx:aev env x = .pp xs i j) (hr:xs[i]?=some r) :
  ∃ (ad:Addr) (u:Nat→Value),a.eval x = .pointer (some (ad.add j))∧¬ own S ad.block∧∀ k,k<r.length→w.cell? (ad.add k)=some (u k)∧∀ v,r[k]?=some v→v.leaf=true∧VR (own S) w S v (u k):=by
 have hv:=hc.ev x
 rw [hx] at hv
 generalize a.eval x=y at hv
 cases hv with
 | pp base sz u hb hs hm hl hv =>
  have hi:i<xs.length:=(List.getElem?_eq_some_iff.1 hr).1
  refine ⟨base.add (i * sz),fun k=>u i k,by rw [qbp],by rw [q7j];exact hb.1,fun k hk=>⟨?_,fun v hvk=>⟨hl i k r v hr hvk,(hv i k r v hr hvk).mono (Stp.refl _ _) (SExt.nil S)⟩⟩⟩
  rw [qbp]
  exact hm i hi k (by rw [← hs i r hr];exact hk)
theorem q29 {t:TypeId} {x:Operand} {i j sz:Nat} {xs:List (List AV)} {r:List AV} {v:AV} [TyI P t false sz] (hx:aev env x = .pp xs i j) (hr:xs[i]?=some r) (hv:r[j]?=some v):V1 P N (.load t x) ty env H v:=by
 intro S a w hc
 obtain ⟨ad,u,he,_,hk⟩:=hc.pptr hx hr
 obtain ⟨h1,h2⟩:=hk j (List.getElem?_eq_some_iff.1 hv).1
 exact ⟨u j,fun _ _ _ _=>by simp [execOp,he,Instr.loadAt,Instr.sureAddr,q8x (P:=P) (t:=t) h1],(h2 v hv).2⟩
theorem qy9 {t:TypeId} {x:Operand} {i j sz:Nat} {xs:List (List AV)} {r cs:List AV} [TyI P t true sz] (hx:aev env x = .pp xs i j) (hr:xs[i]?=some r) (hv:(r.drop j).take sz=cs) (hn:cs.length=sz):V1 P N (.load t x) ty env H (.agg cs):=by
 intro S a w hc
 obtain ⟨ad,u,he,_,hk⟩:=hc.pptr hx hr
 have hcs:∀ k,k<sz→∃ v,cs[k]?=some v∧r[j+k]?=some v:=by
  intro k hk
  have h1:cs[k]?=some cs[k]:=List.getElem?_eq_getElem (by omega)
  exact ⟨cs[k],h1,by rw [← h1,← hv,List.getElem?_take,if_pos hk,List.getElem?_drop]⟩
 have hcell:∀ k,k<sz→w.cell? ((ad.add j).add k)=some ((fun k=>u (j+k)) k):=by
  intro k hk'
  obtain ⟨v,_,h2⟩:=hcs k hk'
  rw [qbp]
  exact (hk (j+k) (List.getElem?_eq_some_iff.1 h2).1).1
 refine ⟨_,fun _ _ _ _=>by simp [execOp,he,Instr.loadAt,Instr.sureAddr,qd8 (P:=P) (t:=t) hcell];rfl,?_⟩
 refine .agg (by simp [hn]) (fun k v hk'=>?_) (fun k v u' hk' hu=>?_)
 ·have hlt:k<sz:=by rw [← hn];exact (List.getElem?_eq_some_iff.1 hk').1
  obtain ⟨v',h1,h2⟩:=hcs k hlt
  rw [hk'] at h1
  obtain rfl:=Option.some.inj h1
  exact ((hk (j+k) (List.getElem?_eq_some_iff.1 h2).1).2 v h2).1
 ·have hlt:k<sz:=by rw [← hn];exact (List.getElem?_eq_some_iff.1 hk').1
  obtain ⟨v',h1,h2⟩:=hcs k hlt
  rw [hk'] at h1
  obtain rfl:=Option.some.inj h1
  have:u'=u (j+k):=by simpa [hlt] using hu.symm
  rw [this]
  exact ((hk (j+k) (List.getElem?_eq_some_iff.1 h2).1).2 v h2).2
theorem qd1 {t:TypeId} {agg:Bool} {sz:Nat} [TyI P t agg sz] {w:World} {b o:Nat} {arr:Array Value} {et:TypeId} {v:Value} (hb:w.heap[b]?=some (Obj.cells arr et (0,0))) (hn:v.cells.size=sz) (hfit:o+sz≤arr.size) (h1:∀ x∈v.cells.toList,x.oneCell'=true) :
  (storeVar t ⟨b,o,none⟩ v).run P w = .ok () (w.setRow b (arr.toList.take o++v.cells.toList++arr.toList.drop (o+sz)).toArray):=by
 have hst:=run_storeCells_at P b o et v.cells.toList 0 arr w hb (by simp [hn];omega) h1
 simp only [Nat.add_zero,Array.length_toList,hn] at hst
 unfold storeVar
 simp only [Sem.run_bind,q4e (P:=P) (t:=t),Result.andThen_ok,hn,ne_eq,not_true_eq_false,if_false,hst]
theorem qlo {t:TypeId} {x y:Operand} {id i j sz:Nat} {agg:Bool} {o:AObj} {r:List AV} {v:AV} [TyI P t agg sz] (hx:aev env x = .pt id o.gen i j) (hid:H[id]?=some o) (hr:o.rows[i]?=some r)
  (hy:aev env y=v) (hc:v.cellish=true) (hn:v.cells.length=sz) (hj:j+sz≤o.sz) :
  V2 P N (.store t x y) ty env H .junk (H.set id { o with rows:=o.rows.set i (r.take j++v.cells++r.drop (j+sz)) }):=by
 intro dst pos after guard S a w hcr next Q hnext _
 obtain ⟨s,b,arr,et,hs,hp,he,hb,hrow⟩:=hcr.ptr hx hid
 have hvr:=hcr.ev y
 rw [hy] at hvr
 obtain ⟨hl,h1,hcv⟩:=hvr.cells hc
 have hrl:=(hrow.2 i r hr).1
 have hi:i<o.rows.length:=(List.getElem?_eq_some_iff.1 hr).1
 have hfit:i * o.sz+j+sz≤arr.size:=by
  have h2:i * o.sz+o.sz≤o.rows.length * o.sz:=by
   rw [← Nat.succ_mul]
   exact Nat.mul_le_mul_right _ hi
  have:=hrow.1
  omega
 have hsz:(arr.toList.take (i * o.sz+j)++(a.eval y).cells.toList++arr.toList.drop (i * o.sz+j+sz)).toArray.size=arr.size:=by
  simp [← hl,hn]
  omega
 have hget:∀ k,(arr.toList.take (i * o.sz+j)++(a.eval y).cells.toList++arr.toList.drop (i * o.sz+j+sz)).toArray[k]? =
   if k<i * o.sz+j then arr[k]? else if k<i * o.sz+j+sz then (a.eval y).cells[k-(i * o.sz+j)]? else arr[k]?:=by
  intro k
  have hlen1:(arr.toList.take (i * o.sz+j)).length=i * o.sz+j:=by simp;omega
  have hlen2:(a.eval y).cells.toList.length=sz:=by simp [← hl,hn]
  rw [List.getElem?_toArray,List.append_assoc]
  by_cases h1:k<i * o.sz+j
  ·rw [if_pos h1,List.getElem?_append_left (by omega),List.getElem?_take,if_pos h1];simp
  ·rw [if_neg h1,List.getElem?_append_right (by omega),hlen1]
   by_cases h2:k<i * o.sz+j+sz
   ·rw [if_pos h2,List.getElem?_append_left (by omega)];simp
   ·rw [if_neg h2,List.getElem?_append_right (by omega),hlen2,List.getElem?_drop]
    simp only [Array.getElem?_toList]
    congr 1
    omega
 have hrow':RowOK (own S) S w o.sz (arr.toList.take (i * o.sz+j)++(a.eval y).cells.toList++arr.toList.drop (i * o.sz+j+sz)).toArray (o.rows.set i (r.take j++v.cells++r.drop (j+sz))):=by
  refine ⟨by rw [hsz];simpa using hrow.1,fun i' r' hr'=>?_⟩
  by_cases e:i=i'
  ·subst e
   rw [List.getElem?_set_self hi] at hr'
   obtain rfl:=Option.some.inj hr'
   refine ⟨by simp [hn,hrl];omega,fun k x hk=>?_⟩
   have hlen1:(r.take j).length=j:=by simp;omega
   rw [List.append_assoc] at hk
   rw [hget]
   by_cases h1:k<j
   ·rw [List.getElem?_append_left (by omega),List.getElem?_take,if_pos h1] at hk
    rw [if_pos (by omega)]
    exact (hrow.2 i r hr).2 k x hk
   ·rw [List.getElem?_append_right (by omega),hlen1] at hk
    rw [if_neg (by omega)]
    by_cases h2:k<j+sz
    ·rw [List.getElem?_append_left (by omega)] at hk
     rw [if_pos (by omega),show i * o.sz+k-(i * o.sz+j)=k-j by omega]
     exact hcv (k-j) x hk
    ·rw [List.getElem?_append_right (by omega),hn,List.getElem?_drop] at hk
     rw [if_neg (by omega)]
     rw [show j+sz+(k-j-sz)=k by omega] at hk
     exact (hrow.2 i r hr).2 k x hk
  ·rw [List.getElem?_set_ne e] at hr'
   refine ⟨(hrow.2 i' r' hr').1,fun k x hk=>?_⟩
   have hkl:k<o.sz:=by rw [← (hrow.2 i' r' hr').1];exact (List.getElem?_eq_some_iff.1 hk).1
   rw [hget]
   rcases Nat.lt_or_gt_of_ne e with h | h
   ·have:i * o.sz+o.sz≤i' * o.sz:=by rw [← Nat.succ_mul];exact Nat.mul_le_mul_right _ h
    rw [if_neg (by omega),if_neg (by omega)]
    exact (hrow.2 i' r' hr').2 k x hk
   ·have:i' * o.sz+o.sz≤i * o.sz:=by rw [← Nat.succ_mul];exact Nat.mul_le_mul_right _ h
    rw [if_pos (by omega)]
    exact (hrow.2 i' r' hr').2 k x hk
 obtain ⟨hh,hx'⟩:=hcr.heap.write hid hs hp hb hsz hrow'
 have hrun:(execOp a.eval ⟨dst,.store t x y,ty,pos,after,guard⟩).run P w = .ok .skip (w.setRow b (arr.toList.take (i * o.sz+j)++(a.eval y).cells.toList++arr.toList.drop (i * o.sz+j+sz)).toArray):=by
  simp only [execOp,he,Instr.storeAt,Instr.sureAddr,Sem.run_bind,Sem.run_pure,Result.andThen_ok,qd1 (P:=P) (t:=t) hb (by rw [← hl];exact hn) hfit h1]
 unfold Oper.wp
 rw [hrun]
 exact hnext .junk undef _ S _ ⟨rfl,rfl⟩ hh hx' .junk
end
section
variable {P : Program} {N : Nat} {env : Env} {H : qf} {ty : TypeId}
theorem qqx {x:Operand} {id i j:Nat} {o:AObj} (hx:aev env x = .pt id o.gen i j) (hid:H[id]?=some o):V1 P N (.nilCheck x) ty env H (.pt id o.gen i j):=by
 intro S a w hc
 obtain ⟨s,b,arr,_,hs,hpl,he,hb,hrow⟩:=hc.ptr hx hid
 have hv:=hc.ev x
 rw [hx] at hv
 exact ⟨a.eval x,fun _ _ _ _=>by simp [execOp,he],hv⟩
theorem q9q {s ft:TypeId} {f off sz:Nat} {agg:Bool} [hf:FldI P s f off ft] [TyI P ft agg sz] (h0:sz≠0) (ad:Addr) (w:World) :
  (Instr.fieldAt s (.pointer (some ad)) f).run P w = .ok (.pointer (some (ad.add off))) w:=by
 have hu:=hf.ud
 cases hd:P.underlying s with
 | none=>simp [hd] at hu
 | some d =>
  rw [hd] at hu
  cases d<;>simp only [] at hu<;>try (cases hu;done)
  rename_i fs
  cases hfd:fs[f]? with
  | none=>simp [hfd] at hu
  | some fd =>
   rw [hfd] at hu
   simp at hu
   obtain ⟨h1,h2⟩:=hu
   subst h1;subst h2
   simp [Instr.fieldAt,q1a hd,hfd,Instr.sureAddr,fieldPlace,q4e (P:=P) (t:=fd.type) (agg:=agg) (sz:=sz),h0]
theorem qnk {s ft:TypeId} {x:Operand} {f off id i j sz:Nat} {agg:Bool} {o:AObj} [FldI P s f off ft] [TyI P ft agg sz] (h0:sz≠0) (hx:aev env x = .pt id o.gen i j) (hid:H[id]?=some o):V1 P N (.fieldAddr s x f) ty env H (.pt id o.gen i (j+off)):=by
 intro S a w hc
 obtain ⟨s',b,arr,_,hs,hpl,he,hb,hrow⟩:=hc.ptr hx hid
 have ok:=hc.heap.obj id o s' hid hs
 refine ⟨.pointer (some ⟨b,i * o.sz+(j+off),none⟩),fun _ _ _ _=>?_,.pt s' hs Yz rfl fun _=>⟨b,hpl,by rw [ok.sz]⟩⟩
 simp [execOp,he,q9q (P:=P) (s:=s) (f:=f) (off:=off) (ft:=ft) (sz:=sz) (agg:=agg) h0,q3z,Nat.add_assoc]
theorem qlm {s ft:TypeId} {x:Operand} {f off i j sz:Nat} {agg:Bool} {xs:List (List AV)} [FldI P s f off ft] [TyI P ft agg sz] (h0:sz≠0) (hx:aev env x = .pp xs i j):V1 P N (.fieldAddr s x f) ty env H (.pp xs i (j+off)):=by
 intro S a w hc
 have hv:=hc.ev x
 rw [hx] at hv
 generalize he:a.eval x=u at hv
 cases hv with
 | pp base z u hb hs hm hl hv =>
  refine ⟨.pointer (some (base.add (i * z+(j+off)))),fun _ _ _ _=>?_,.pp base z u hb hs hm hl hv⟩
  simp [execOp,he,q9q (P:=P) (s:=s) (f:=f) (off:=off) (ft:=ft) (sz:=sz) (agg:=agg) h0,qbp,Nat.add_assoc]
theorem q9n {t e:TypeId} {sz:Nat} {agg:Bool} [hs:SlI P t e] [TyI P e agg sz] {k:IntKind} {n:Int} {base:Addr} {len cap:Nat} (h0:0≤n) (h1:n<len) (w:World) :
  (Instr.indexAt t (.slice (some base) len cap) (.int k n)).run P w = .ok (.pointer (some (base.add (n.toNat * sz)))) w:=by
 simp [Instr.indexAt,asIntOf,q1a hs.ud,h0,h1,q4e (P:=P) (t:=e) (agg:=agg) (sz:=sz)]
theorem qct {t e:TypeId} {sz m:Nat} {agg:Bool} [hs:ArI P t m e] [TyI P e agg sz] {k:IntKind} {n:Int} {base:Addr} (h0:0≤n) (h1:n<m) (w:World) :
  (Instr.indexAt t (.pointer (some base)) (.int k n)).run P w = .ok (.pointer (some (base.add (n.toNat * sz)))) w:=by
 simp [Instr.indexAt,asIntOf,q1a hs.ud,Instr.sureAddr,h0,h1,q4e (P:=P) (t:=e) (agg:=agg) (sz:=sz)]
theorem CR.slc {S:List Slot} {a:Act} {w:World} (hc:CR N env H S a w) {x:Operand} {id off len cap:Nat} {o:AObj} (hx:aev env x = .sl id o.gen off len cap) (hid:H[id]?=some o) :
  ∃ s c,S[id]?=some s∧ObjOK S w o s∧cap≤c∧len≤c∧((c=0∧∃ ad,a.eval x = .slice ad 0 0) ∨
   ∃ b arr ty,s.place=some b∧a.eval x = .slice (some ⟨b,off * o.sz,none⟩) len c∧w.heap[b]?=some (Obj.cells arr ty (0,0))∧(off+c) * o.sz≤arr.size∧RowOK (own S) S w o.sz arr o.rows):=by
 have hv:=hc.ev x
 rw [hx] at hv
 obtain ⟨s,hs,ok⟩:=hc.heap.slot hid
 generalize a.eval x=u at hv
 cases hv with
 | sl s' hs' hg h1 h =>
  rw [hs] at hs'
  obtain rfl:=Option.some.inj hs'
  obtain ⟨c,hc1,hc2,h⟩:=h ok.gen.symm
  refine ⟨s,c,hs,ok,hc1,hc2,?_⟩
  rcases h with h | ⟨b,arr,ty,hp,hu,hb,hsz⟩
  ·exact .inl h
  ·obtain ⟨arr',ty',h1,h2⟩:=ok.row hp
   rw [hb] at h1
   injection h1 with h1
   injection h1 with h1 h1'
   subst h1
   exact .inr ⟨b,arr,ty,hp,by rw [ok.sz];exact hu,hb,by rw [ok.sz];exact hsz,h2⟩
theorem qdz {t e:TypeId} {x y:Operand} {id off len cap:Nat} {k:IntKind} {n:Int} {sz:Nat} {agg:Bool} {o:AObj} [SlI P t e] [TyI P e agg sz] (hx:aev env x = .sl id o.gen off len cap) (hid:H[id]?=some o) (hsz:o.sz=sz)
  (hy:aev env y = .int k n) (h0:0≤n) (h1:n<len):V1 P N (.indexAddr t x y) ty env H (.pt id o.gen (off+n.toNat) 0):=by
 intro S a w hc
 obtain ⟨s,c,hs,ok,_,hlc,h⟩:=hc.slc hx hid
 rcases h with ⟨h,_⟩ | ⟨b,arr,et,hp,he,hb,hfit,hrow⟩
 ·omega
 refine ⟨.pointer (some ⟨b,(off+n.toNat) * o.sz+0,none⟩),fun _ _ _ _=>?_,.pt s hs Yz rfl fun _=>⟨b,hp,by rw [ok.sz]⟩⟩
 simp [execOp,he,q1e hc hy,q9n (P:=P) (t:=t) (e:=e) (sz:=sz) (agg:=agg) h0 h1,q3z,hsz,Nat.add_mul]
theorem qcu {t e:TypeId} {x y:Operand} {xs:List (List AV)} {k:IntKind} {n:Int} {sz:Nat} {agg:Bool} {r:List AV} [SlI P t e] [TyI P e agg sz] (hx:aev env x = .pl xs)
  (hy:aev env y = .int k n) (h0:0≤n) (hr:xs[n.toNat]?=some r) (hsz:r.length=sz):V1 P N (.indexAddr t x y) ty env H (.pp xs n.toNat 0):=by
 intro S a w hc
 have hlt:n.toNat<xs.length:=(List.getElem?_eq_some_iff.1 hr).1
 have hv:=hc.ev x
 rw [hx] at hv
 generalize he:a.eval x=u at hv
 cases hv with
 | pl base z u hcap hb hs hm hl hv =>
  have hz:z=sz:=by rw [← hs _ r hr];exact hsz
  obtain ⟨h1,h2,h3⟩:=hb (by intro e;simp [e] at hlt)
  subst h1
  refine ⟨.pointer (some (base.add (n.toNat * z+0))),fun _ _ _ _=>?_,.pp base z u ⟨h2,h3⟩ hs hm hl hv⟩
  simp [execOp,he,q1e hc hy,q9n (P:=P) (t:=t) (e:=e) (sz:=sz) (agg:=agg) h0 (show n<xs.length by omega),hz]
theorem qq3 {t e:TypeId} {x y:Operand} {id i j m:Nat} {k:IntKind} {n:Int} {sz:Nat} {agg:Bool} {o:AObj} [ArI P t m e] [TyI P e agg sz] (hx:aev env x = .pt id o.gen i j) (hid:H[id]?=some o)
  (hy:aev env y = .int k n) (h0:0≤n) (h1:n<m):V1 P N (.indexAddr t x y) ty env H (.pt id o.gen i (j+n.toNat * sz)):=by
 intro S a w hc
 obtain ⟨s',b,arr,_,hs,hpl,he,hb,hrow⟩:=hc.ptr hx hid
 have ok:=hc.heap.obj id o s' hid hs
 refine ⟨.pointer (some ⟨b,i * o.sz+(j+n.toNat * sz),none⟩),fun _ _ _ _=>?_,.pt s' hs Yz rfl fun _=>⟨b,hpl,by rw [ok.sz]⟩⟩
 simp [execOp,he,q1e hc hy,qct (P:=P) (t:=t) (e:=e) (sz:=sz) (agg:=agg) h0 h1,q3z,Nat.add_assoc]
theorem q139 {S:List Slot} {a:Act} {w:World} (hc:CR N env H S a w) {x:Operand} {cs:List AV} (h:aev env x = .agg cs):∃ vs,a.eval x = .agg vs∧cs.length=vs.size∧(∀ (j:Nat) (v:AV),cs[j]?=some v→v.leaf=true)∧∀ (j:Nat) (v:AV) (u:Value),cs[j]?=some v→vs[j]?=some u→VR (own S) w S v u:=by
 have:=hc.ev x
 rw [h] at this
 generalize a.eval x=u at this
 cases this with
 | agg hn hl h=>exact ⟨_,rfl,hn,hl,h⟩
theorem qtr {t:TypeId} {sz:Nat} [TyI P t false sz] {cs:Array Value} {off:Nat} {u:Value} (h:cs[off]?=some u) (w:World):(part t cs off).run P w = .ok u w:=by
 simp [part,qef (P:=P) (t:=t) (agg:=false),h]
theorem qx6 {t e:TypeId} {x y:Operand} {m sz:Nat} {k:IntKind} {n:Int} {cs:List AV} {v:AV} [hs:ArI P t m e] [TyI P e false sz] (hx:aev env x = .agg cs) (hy:aev env y = .int k n) (h0:0≤n) (h1:n<m) (hv:cs[n.toNat * sz]?=some v):V1 P N (.index t x y) ty env H v:=by
 intro S a w hc
 obtain ⟨vs,he,hn,hl,h⟩:=q139 hc hx
 have hlt:n.toNat * sz<vs.size:=by rw [← hn];exact (List.getElem?_eq_some_iff.1 hv).1
 exact ⟨vs[n.toNat * sz],fun _ _ _ _=>by
  simp [execOp,he,q1e hc hy,Instr.index,asIntOf,q1a hs.ud,h0,h1,q4e (P:=P) (t:=e) (agg:=false) (sz:=sz),qtr (P:=P) (t:=e) (Array.getElem?_eq_getElem hlt)],h _ v _ hv (Array.getElem?_eq_getElem hlt)⟩
theorem q75 {t:TypeId} {x y:Operand} {k:IntKind} {n:Int} {s:ByteArray} {c:UInt8} [hs:UdI P t .string] (hx:aev env x = .str s) (hy:aev env y = .int k n) (h0:0≤n) (hv:s[n.toNat]?=some c):V1 P N (.index t x y) ty env H (.int .u8 (c.toNat:Int)):=by
 intro S a w hc
 exact ⟨.int .u8 (c.toNat:Int),fun _ _ _ _=>by
  simp [execOp,qak hc hx,q1e hc hy,Instr.index,asIntOf,q1a hs.ud,h0,hv],.int⟩
def Bd (env:Env) (x:Option Operand) (d n:Nat):Prop:=match x with
 | none=>n=d
 | some y=>∃ k m,aev env y = .int k m∧m=(n:Int)
theorem Bd.none {d:Nat}:Bd env none d d:=rfl
theorem Bd.some {y:Operand} {k:IntKind} {m:Int} {d n:Nat} (h:aev env y = .int k m) (e:m=(n:Int)):Bd env (some y) d n:=⟨k,m,h,e⟩
theorem Bd.run {S:List Slot} {a:Act} {w:World} (hc:CR N env H S a w) {x:Option Operand} {d n:Nat} (h:Bd env x d n):(x=Option.none∧n=d)∨∃ y k,x=Option.some y∧a.eval y = .int k (n:Int):=by
 cases x with
 | none=>exact .inl ⟨rfl,h⟩
 | some y =>
  obtain ⟨k,m,h1,h2⟩:=h
  subst h2
  exact .inr ⟨y,k,rfl,q1e hc h1⟩
theorem q3s {S:List Slot} {a:Act} {w:World} (hc:CR N env H S a w) {lo hi:Option Operand} {l h:Nat} (isS:Bool) {len cap:Nat} (hl:Bd env lo 0 l) (hh:Bd env hi len h) (h1:l≤h) (h2:h≤cap) :
  (Instr.sliceBounds isS len cap (lo.map a.eval) (hi.map a.eval) Option.none).run P w = .ok (l,h,cap) w:=by
 rcases hl.run hc with ⟨rfl,rfl⟩ | ⟨y,k,rfl,e⟩<;>rcases hh.run hc with ⟨rfl,rfl⟩ | ⟨y',k',rfl,e'⟩
 ·simp [Instr.sliceBounds]
 ·simp [Instr.sliceBounds,e',Instr.sliceBound,asIntOf,h2]
 ·simp [Instr.sliceBounds,e,Instr.sliceBound,asIntOf,h1]
 ·simp [Instr.sliceBounds,e,e',Instr.sliceBound,asIntOf,h1,h2]
theorem q8a {S:List Slot} {a:Act} {w:World} (hc:CR N env H S a w) {lo:Option Operand} {hi mx:Operand} {l h m:Nat} {k k':IntKind} (isS:Bool) {len cap:Nat} (hl:Bd env lo 0 l) (hh:aev env hi = .int k (h:Int)) (hm:aev env mx = .int k' (m:Int)) (h1:l≤h) (h2:h≤m) (h3:m≤cap) :
  (Instr.sliceBounds isS len cap (lo.map a.eval) (Option.some (a.eval hi)) (Option.some (a.eval mx))).run P w = .ok (l,h,m) w:=by
 rcases hl.run hc with ⟨rfl,rfl⟩ | ⟨y,k,rfl,e⟩
 ·simp [Instr.sliceBounds,q1e hc hh,q1e hc hm,Instr.sliceBound,asIntOf,h2,h3]
 ·simp [Instr.sliceBounds,e,q1e hc hh,q1e hc hm,Instr.sliceBound,asIntOf,h1,h2,h3]
theorem qq1 {t:TypeId} {x:Operand} {lo hi:Option Operand} {s:ByteArray} {l h:Nat} [hu:UdI P t .string] (hx:aev env x = .str s) (hl:Bd env lo 0 l) (hh:Bd env hi s.size h) (h1:l≤h) (h2:h≤s.size) :
  V1 P N (.slice t x lo hi Option.none) ty env H (.str (s.extract l h)):=by
 intro S a w hc
 have hb:=q3s (P:=P) hc false hl hh h1 h2
 refine ⟨.string (s.extract l h),fun _ _ _ _=>?_,.str⟩
 simp [execOp,qak hc hx,Instr.sliceAt,Instr.slice,q1a hu.ud,hb]
theorem VR.cut {O:Nat→Prop} {w:World} {S:List Slot} {xs:List (List AV)} {a:Option Addr} {c sz l h m:Nat} (hv:VR O w S (.pl xs) (.slice a xs.length c)) (h1:l≤h) (h2:h≤xs.length) (h3:h≤m) (hsz:∀ r∈xs,r.length=sz) :
  VR O w S (.pl ((xs.drop l).take (h-l))) (.slice (if m=l then a else a.map (·.add (l * sz))) (h-l) (m-l)):=by
 have hlen:((xs.drop l).take (h-l)).length=h-l:=by simp;omega
 have hget:∀ i r,((xs.drop l).take (h-l))[i]?=some r→xs[l+i]?=some r∧i<h-l:=by
  intro i r hr
  rw [List.getElem?_take] at hr
  split at hr
  ·rename_i hi
   rw [List.getElem?_drop] at hr
   exact ⟨hr,hi⟩
  ·cases hr
 generalize hys:(xs.drop l).take (h-l)=ys at *
 rw [← hlen]
 cases hv with
 | pl base z u hcap hb hs hm hl hv =>
  refine .pl (base.add (l * sz)) sz (fun i j=>u (l+i) j) (by omega) (fun hne=>?_) (fun i r hr=>hsz r (List.mem_of_getElem? (hget i r hr).1)) (fun i hi j hj=>?_) (fun i j r v hr hv'=>hl (l+i) j r v (hget i r hr).1 hv') (fun i j r v hr hv'=>hv (l+i) j r v (hget i r hr).1 hv')
  ·have hpos:0<ys.length:=List.length_pos_iff.2 hne
   have hne':xs≠[]:=by intro e;subst e;simp at h2;omega
   obtain ⟨k1,k2,k3⟩:=hb hne'
   subst k1
   rw [if_neg (by omega)]
   exact ⟨rfl,by rw [q7j];exact k2,by rw [q7j];exact k3⟩
  ·have hlt:l+i<xs.length:=by omega
   have hz:z=sz:=by rw [← hs (l+i) _ (List.getElem?_eq_getElem hlt)];exact hsz _ (List.getElem_mem hlt)
   subst hz
   have:=hm (l+i) hlt j hj
   rw [qbp,← Nat.add_assoc,← Nat.add_mul]
   exact this
theorem qb1 {t e:TypeId} {x:Operand} {lo hi:Option Operand} {xs:List (List AV)} {l h sz:Nat} {agg:Bool} [hu:SlI P t e] [TyI P e agg sz] (hx:aev env x = .pl xs) (hl:Bd env lo 0 l) (hh:Bd env hi xs.length h) (h1:l≤h) (h2:h≤xs.length) (hsz:∀ r∈xs,r.length=sz) :
  V1 P N (.slice t x lo hi Option.none) ty env H (.pl ((xs.drop l).take (h-l))):=by
 intro S a w hc
 have hv:=hc.ev x
 rw [hx] at hv
 generalize he:a.eval x=u at hv
 have hv0:=hv
 cases hv with
 | @pl _ _ ad c base z u hcap hb hs hm hl' hv =>
  have hb':=q3s (P:=P) hc true (cap:=c) hl hh h1 (by omega)
  refine ⟨.slice (if c=l then ad else ad.map (·.add (l * sz))) (h-l) (c-l),fun _ _ _ _=>?_,VR.cut hv0 h1 h2 (by omega) hsz⟩
  simp [execOp,he,Instr.sliceAt,Instr.slice,q1a hu.ud,hb',q4e (P:=P) (t:=e) (agg:=agg) (sz:=sz)]
theorem qzi {t e:TypeId} {x:Operand} {lo hi:Option Operand} {id off len cap l h sz:Nat} {agg:Bool} {o:AObj} [hu:SlI P t e] [TyI P e agg sz] (hx:aev env x = .sl id o.gen off len cap) (hid:H[id]?=some o) (hsz:o.sz=sz) (hl:Bd env lo 0 l) (hh:Bd env hi len h) (h1:l≤h) (h2:h≤max len cap) :
  V1 P N (.slice t x lo hi Option.none) ty env H (.sl id o.gen (off+l) (h-l) (cap-l)):=by
 intro S a w hc
 obtain ⟨s,c,hs,ok,hcc,hlc,hh2⟩:=hc.slc hx hid
 rcases hh2 with ⟨h0,ad,he⟩ | ⟨b,arr,et,hp,he,hb,hfit,hrow⟩
 ·obtain rfl:l=0:=by omega
  obtain rfl:h=0:=by omega
  have el:len=0:=by omega
  subst el
  have hb':=q3s (P:=P) hc true (cap:=0) hl hh h1 (by omega)
  refine ⟨.slice ad 0 0,fun _ _ _ _=>?_,.sl s hs Yz rfl fun _=>⟨0,by omega,by omega,.inl ⟨rfl,ad,rfl⟩⟩⟩
  simp [execOp,he,Instr.sliceAt,Instr.slice,q1a hu.ud,hb',q4e (P:=P) (t:=e) (agg:=agg) (sz:=sz)]
 ·have hb':=q3s (P:=P) hc true (cap:=c) hl hh h1 (by omega)
  refine ⟨.slice (if c=l then some ⟨b,off * o.sz,none⟩ else some ⟨b,(off+l) * o.sz,none⟩) (h-l) (c-l),fun _ _ _ _=>?_,.sl s hs Yz rfl fun _=>⟨c-l,by omega,by omega,?_⟩⟩
  ·have e1:(⟨b,off * o.sz,none⟩:Addr).add (l * sz)=⟨b,(off+l) * o.sz,none⟩:=by rw [q3z,hsz,Nat.add_mul]
   simp [execOp,he,Instr.sliceAt,Instr.slice,q1a hu.ud,hb',q4e (P:=P) (t:=e) (agg:=agg) (sz:=sz),e1]
  ·by_cases e1:c=l
   ·left
    refine ⟨by omega,some ⟨b,off * o.sz,none⟩,?_⟩
    rw [if_pos e1,show h-l=0 by omega,show c-l=0 by omega]
   ·right
    refine ⟨b,arr,et,hp,by rw [if_neg e1,ok.sz],hb,?_⟩
    rw [← ok.sz,show off+l+(c-l)=off+c by omega]
    exact hfit
theorem qwr {x:Operand} {t:TypeId} {s:ByteArray} [hu:UdI P t .string] (hx:aev env x = .str s):V1 P N (.call { callee:=.builtin .len,args:=#[x],argTypes:=#[t] }) ty env H (.int .i64 (s.size:Int)):=by
 intro S a w hc
 refine ⟨.int .i64 s.size,fun _ _ _ _=>?_,.int⟩
 simp [execOp,resolve,invoke,builtin,Builtin.len_,qak hc hx,q1a hu.ud,goInt]
theorem qhc {x:Operand} {t e:TypeId} {xs:List (List AV)} [hu:SlI P t e] (hx:aev env x = .pl xs):V1 P N (.call { callee:=.builtin .len,args:=#[x],argTypes:=#[t] }) ty env H (.int .i64 (xs.length:Int)):=by
 intro S a w hc
 have hv:=hc.ev x
 rw [hx] at hv
 generalize he:a.eval x=u at hv
 cases hv
 refine ⟨.int .i64 xs.length,fun _ _ _ _=>?_,.int⟩
 simp [execOp,resolve,invoke,builtin,Builtin.len_,he,q1a hu.ud,goInt]
theorem q137 {x:Operand} {t e:TypeId} {id off len cap:Nat} {o:AObj} [hu:SlI P t e] (hx:aev env x = .sl id o.gen off len cap) (hid:H[id]?=some o):V1 P N (.call { callee:=.builtin .len,args:=#[x],argTypes:=#[t] }) ty env H (.int .i64 (len:Int)):=by
 intro S a w hc
 obtain ⟨s,c,hs,ok,_,hlc,h⟩:=hc.slc hx hid
 refine ⟨.int .i64 len,fun _ _ _ _=>?_,.int⟩
 rcases h with ⟨h0,ad,he⟩ | ⟨b,arr,et,hp,he,hb,hfit,hrow⟩
 ·have el:len=0:=by omega
  simp [execOp,resolve,invoke,builtin,Builtin.len_,he,q1a hu.ud,goInt,el]
 ·simp [execOp,resolve,invoke,builtin,Builtin.len_,he,q1a hu.ud,goInt]
theorem q10x {x y:Operand} {t t':TypeId} {k:IntKind} {p q r:Int} (hx:aev env x = .int k p) (hy:aev env y = .int k q) (hr:min p q=r):V1 P N (.call { callee:=.builtin .min,args:=#[x,y],argTypes:=#[t,t'] }) ty env H (.int k r):=by
 intro S a w hc
 refine ⟨.int k (min p q),fun _ _ _ _=>?_,hr▸.int⟩
 have:(if q<p then q else p)=min p q:=by omega
 simp [execOp,resolve,invoke,builtin,Builtin.min_,Builtin.min2,q1e hc hx,q1e hc hy,this]
theorem qwq {x y:Operand} {t t':TypeId} {k:IntKind} {p q r:Int} (hx:aev env x = .int k p) (hy:aev env y = .int k q) (hr:max p q=r):V1 P N (.call { callee:=.builtin .max,args:=#[x,y],argTypes:=#[t,t'] }) ty env H (.int k r):=by
 intro S a w hc
 refine ⟨.int k (max p q),fun _ _ _ _=>?_,hr▸.int⟩
 have:(if p<q then q else p)=max p q:=by omega
 simp [execOp,resolve,invoke,builtin,Builtin.max_,Builtin.max2,q1e hc hx,q1e hc hy,this]
theorem q14k {x y:Operand} {t t':TypeId} {p q:ByteArray} (hx:aev env x = .str p) (hy:aev env y = .str q):V1 P N (.binOp .eql t x y t') ty env H (.bool (p.toList == q.toList)):=by
 intro S a w hc
 exact ⟨.bool (p.toList == q.toList),fun _ _ _ _=>by simp [execOp,qak hc hx,qak hc hy,eqGuard,binOp,Op.stringOp],.bool⟩
theorem q142 {x y:Operand} {t t':TypeId} {p q:ByteArray} (hx:aev env x = .str p) (hy:aev env y = .str q):V1 P N (.binOp .neq t x y t') ty env H (.bool (!(p.toList == q.toList))):=by
 intro S a w hc
 exact ⟨.bool (!(p.toList == q.toList)),fun _ _ _ _=>by simp [execOp,qak hc hx,qak hc hy,eqGuard,binOp,Op.stringOp],.bool⟩
theorem q2f {x:Operand} {i:Nat} {vs:List AV} {v:AV} (hx:aev env x = .tup vs) (hv:vs[i]?=some v):V1 P N (.extract x i) ty env H v:=by
 intro S a w hc
 have hv0:=hc.ev x
 rw [hx] at hv0
 generalize he:a.eval x=u at hv0
 cases hv0 with
 | @tup _ _ us hn h =>
  have hlt:i<us.size:=by rw [← hn];exact (List.getElem?_eq_some_iff.1 hv).1
  exact ⟨us[i],fun _ _ _ _=>by simp [execOp,he,Instr.extract,hlt],h i v _ hv (Array.getElem?_eq_getElem hlt)⟩
theorem q70 {f:Fn} {p q:Array Operand} {vs us:List AV} (hp:p.toList.map (aev env)=vs) (hq:q.toList.map (aev env)=us):V1 P N (.makeFunc f p q) ty env H (.fn f vs us):=by
 intro S a w hc
 refine ⟨.func f (p.map a.eval) (q.map a.eval),fun _ _ _ _=>by simp [execOp,Instr.makeFunc],?_⟩
 subst hp;subst hq
 refine .fn (by simp) (by simp) (fun j v u hv hu=>?_) (fun j v u hv hu=>?_)
 ·simp only [List.getElem?_map,Array.getElem?_map] at hv hu
  cases hx:p[j]? with
  | none=>simp [hx] at hu
  | some x =>
   have hx':p.toList[j]?=some x:=by simpa using hx
   rw [hx'] at hv
   rw [hx] at hu
   obtain rfl:=Option.some.inj hv
   obtain rfl:=Option.some.inj hu
   exact hc.ev x
 ·simp only [List.getElem?_map,Array.getElem?_map] at hv hu
  cases hx:q[j]? with
  | none=>simp [hx] at hu
  | some x =>
   have hx':q.toList[j]?=some x:=by simpa using hx
   rw [hx'] at hv
   rw [hx] at hu
   obtain rfl:=Option.some.inj hv
   obtain rfl:=Option.some.inj hu
   exact hc.ev x
class NoI (P : Program) (t : TypeId) : Prop where
 ud:(match P.underlying t with | some (.interface _)=>false | some _=>true | none=>false)=true
theorem qlp {x:Operand} {t:TypeId} {v:AV} [hu:NoI P t] (hx:aev env x=v):V1 P N (.makeInterface t x) ty env H (.ifc t v):=by
 intro S a w hc
 subst hx
 refine ⟨.iface t (a.eval x),fun _ _ _ _=>?_,.ifc (hc.ev x)⟩
 have h:=hu.ud
 cases hd:P.underlying t with
 | none=>simp [hd] at h
 | some d =>
  rw [hd] at h
  cases d<;>simp at h<;>simp [execOp,Instr.makeInterface,q1a hd]
end
def q81 (pl:List (Nat×Nat)):List AV→List (Nat×AV)→Option (List AV)
 | cells,[]=>some cells
 | cells,(i,v) :: rest =>
  match pl[i]? with
  | none=>none
  | some (off,size)=>if v.cells.length=size∧off+size≤cells.length∧v.cellish=true then q81 pl (cells.take off++v.cells++cells.drop (off+size)) rest else none
def CellsR (S:List Slot) (w:World) (cs:List AV) (us:Array Value):Prop :=
 cs.length=us.size∧∀ (j:Nat) (v:AV),cs[j]?=some v→v.leaf=true∧∃ u,us[j]?=some u∧VR (own S) w S v u
theorem qtn (vs:List Value):∀ (off j0:Nat) (cs:Array Value),off+j0+vs.length≤cs.size →
  ((vs.zipIdx j0).foldl (fun cs (x:Value×Nat)=>cs.setIfInBounds (off+x.2) x.1) cs).toList=cs.toList.take (off+j0)++vs++cs.toList.drop (off+j0+vs.length):=by
 induction vs with
 | nil=>intro off j0 cs _;simp
 | cons v vs ih =>
  intro off j0 cs h
  simp only [List.length_cons] at h
  rw [List.zipIdx_cons,List.foldl_cons,ih off (j0+1) _ Y1x]
  have e:=list_seg_step cs.toList (off+j0) v vs Y1x
  simp only [Array.toList_setIfInBounds,List.length_cons]
  rw [show off+(j0+1)=off+j0+1 by omega]
  exact e
theorem CellsR.put {S:List Slot} {w:World} {cs ds:List AV} {us:Array Value} {ws:Array Value} {off:Nat} (h:CellsR S w cs us) (hd:CellsR S w ds ws) (hfit:off+ds.length≤cs.length) :
  CellsR S w (cs.take off++ds++cs.drop (off+ds.length)) (ws.zipIdx.foldl (fun cs (c,j)=>cs.setIfInBounds (off+j) c) us):=by
 have hl:=h.1
 have hl2:=hd.1
 have e:(ws.zipIdx.foldl (fun cs (c,j)=>cs.setIfInBounds (off+j) c) us).toList=us.toList.take off++ws.toList++us.toList.drop (off+ws.toList.length):=by
  have:=qtn ws.toList off 0 us Y1x
  simp only [Nat.add_zero] at this
  rw [← this]
  congr 1
  rw [← Array.foldl_toList,Array.toList_zipIdx]
 have hsz:(ws.zipIdx.foldl (fun cs (c,j)=>cs.setIfInBounds (off+j) c) us).size=us.size:=by
  rw [← Array.length_toList,e]
  simp
  omega
 refine ⟨by rw [hsz];simp;omega,fun j v hv=>?_⟩
 rw [← Array.getElem?_toList,e]
 rw [List.append_assoc] at hv ⊢
 have h1:(cs.take off).length=off:=by simp;omega
 have h2:(us.toList.take off).length=off:=by simp;omega
 by_cases hj:j<off
 ·rw [List.getElem?_append_left (by omega),List.getElem?_take,if_pos hj] at hv
  obtain ⟨hl,u,hu,hr⟩:=h.2 j v hv
  exact ⟨hl,u,by rw [List.getElem?_append_left (by omega),List.getElem?_take,if_pos hj];simpa using hu,hr⟩
 ·rw [List.getElem?_append_right (by omega),h1] at hv
  rw [List.getElem?_append_right (by omega),h2]
  by_cases hj2:j<off+ds.length
  ·rw [List.getElem?_append_left (by omega)] at hv
   obtain ⟨hl,u,hu,hr⟩:=hd.2 (j-off) v hv
   exact ⟨hl,u,by rw [List.getElem?_append_left Y1x];simpa using hu,hr⟩
  ·rw [List.getElem?_append_right (by omega),List.getElem?_drop] at hv
   obtain ⟨hl,u,hu,hr⟩:=h.2 _ v hv
   refine ⟨hl,u,?_,hr⟩
   rw [List.getElem?_append_right Y1x,List.getElem?_drop]
   rw [show off+ws.toList.length+(j-off-ws.toList.length)=off+ds.length+(j-off-ds.length) by simp;omega]
   simpa using hu
theorem qtf {S : List Slot} {w : World} {pl : List (Nat × Nat)} {place : Nat → Option (Nat × Nat)} (hp : ∀ i, place i = pl[i]?) : ∀ (parts : List (Nat × AV)) (us : List (Nat × Value)) (cs cs' : List AV) (vs : Array Value),
    parts.length = us.length → (∀ (j : Nat) (x : Nat × AV) (y : Nat × Value), parts[j]? = some x → us[j]? = some y → x.1 = y.1 ∧ VR (own S) w S x.2 y.2) → CellsR S w cs vs → q81 pl cs parts = some cs' →
    ∃ vs', Instr.fill place vs us = some vs' ∧ CellsR S w cs' vs'
  | [], [], cs, cs', vs, _, _, h, he => by
    simp [q81] at he
    subst he
    exact ⟨vs, rfl, h⟩
  | (i, v) :: parts, (i', u) :: us, cs, cs', vs, hn, hr, h, he => by
    obtain ⟨hi, hv⟩ := hr 0 _ _ rfl rfl
    simp only at hi hv
    subst hi
    unfold q81 at he
    cases hpl : pl[i]? with
    | none => rw [hpl] at he; cases he
    | some x =>
      obtain ⟨off, size⟩ := x
      rw [hpl] at he
      simp only at he
      split at he
      · rename_i hc
        obtain ⟨h1, h2, h3⟩ := hc
        obtain ⟨k1, _, k3⟩ := hv.cells h3
        have hd : CellsR S w v.cells u.cells := ⟨k1, k3⟩
        have hput := h.put hd (off := off) (by omega)
        rw [h1] at hput
        obtain ⟨vs', e1, e2⟩ := qtf hp parts us _ cs' _ (by simpa using hn) (fun j x y hx hy => hr (j + 1) x y hx hy) hput he
        refine ⟨vs', ?_, e2⟩
        have hif : (decide (u.cells.size ≠ size) || decide (off + u.cells.size > vs.size)) = false := by
          have := h.1
          simp
          omega
        unfold Instr.fill
        rw [hp, hpl]
        simp only
        simp only [hif, Bool.false_eq_true, if_false]
        exact e1
      · cases he
  | [], _ :: _, _, _, _, hn, _, _, _ => by simp at hn
  | _ :: _, [], _, _, _, hn, _, _, _ => by simp at hn
theorem CellsR.of_val {S:List Slot} {w:World} {z:Value} {cs:List AV} (h:z.cells.toList.map qfl=cs) (hl:cs.all AV.leaf=true):CellsR S w cs z.cells:=by
 subst h
 refine ⟨by simp,fun j v hv=>⟨List.all_eq_true.1 hl v (List.mem_of_getElem? hv),?_⟩⟩
 rw [List.getElem?_map] at hv
 cases hj:z.cells.toList[j]? with
 | none=>simp [hj] at hv
 | some u =>
  rw [hj] at hv
  obtain rfl:=Option.some.inj hv
  exact ⟨u,by simpa using hj,qfk _ _ _ u⟩
class ZcI (P : Program) (t : TypeId) (cs : outParam (List AV)) : Prop where
 ze:∃ z,(P.info? t).bind (·.zero)=some z∧z.cells.toList.map qfl=cs∧cs.all AV.leaf=true
class StI (P : Program) (t : TypeId) (pl : outParam (List (Nat × Nat))) : Prop where
 ud:(match P.underlying t with | some (.struct fs)=>fs.toList.mapM (fun f=>(P.info? f.type).map fun i=>(f.offset,i.size)) | _=>none)=some pl
theorem ql7 {P:Program} {t:TypeId} {cs:List AV} [h:ZcI P t cs] (S:List Slot) (w:World):∃ z,(zeroValue t).run P w = .ok z w∧CellsR S w cs z.cells:=by
 obtain ⟨z,h1,h2,h3⟩:=h.ze
 refine ⟨z,?_,.of_val h2 h3⟩
 cases hd:P.info? t with
 | none=>simp [hd] at h1
 | some i=>simp [hd] at h1;simp [zeroValue,typeInfo,hd,h1]
theorem qgj {P:Program} (w:World):∀ (l:List Field) (pl:List (Nat×Nat)),l.mapM (fun f=>(P.info? f.type).map fun i=>(f.offset,i.size))=some pl →
  (l.mapM (m:=Sem) fun f=>do pure (f.offset,← sizeOf f.type)).run P w = .ok pl w
 | [],pl,h=>by simp at h;subst h;simp
 | f :: l,pl,h=>by
  simp only [List.mapM_cons] at h
  cases hx:P.info? f.type with
  | none=>simp [hx] at h
  | some i =>
   cases hl:l.mapM (fun f=>(P.info? f.type).map fun i=>(f.offset,i.size)) with
   | none=>simp [hx,hl] at h
   | some ys =>
    simp [hx,hl] at h
    subst h
    have ih:=qgj w l ys hl
    simp only [List.mapM_cons,Sem.run_bind,sizeOf,typeInfo,run_program,Result.andThen_ok,hx,Sem.run_pure] at ih ⊢
    rw [ih]
    simp
section
variable {P : Program} {N : Nat} {B : Base} {Q : q6g} {env : Env} {H : qf} {ty : TypeId} {ops : Array Oper} {rest : List Oper}
theorem qin {S:List Slot} {a:Act} {w:World} (hc:CR N env H S a w) (parts:Array (Nat×Operand)):(parts.toList.map fun (i,x)=>(i,aev env x)).length=(parts.map fun (i,x)=>(i,a.eval x)).toList.length ∧
  ∀ (j:Nat) (x:Nat×AV) (y:Nat×Value),(parts.toList.map fun (i,x)=>(i,aev env x))[j]?=some x→(parts.map fun (i,x)=>(i,a.eval x)).toList[j]?=some y→x.1=y.1∧VR (own S) w S x.2 y.2:=by
 refine ⟨by simp,fun j x y hx hy=>?_⟩
 simp only [Array.toList_map,List.getElem?_map] at hx hy
 cases hj:parts.toList[j]? with
 | none=>simp [hj] at hx
 | some p =>
  rw [hj] at hx hy
  obtain rfl:=Option.some.inj hx
  obtain rfl:=Option.some.inj hy
  exact ⟨rfl,hc.ev p.2⟩
theorem CellsR.agg {S:List Slot} {w:World} {cs:List AV} {us:Array Value} (h:CellsR S w cs us):VR (own S) w S (.agg cs) (.agg us) :=
 .agg h.1 (fun j v hv=>(h.2 j v hv).1) (fun j v u hv hu=>by
  obtain ⟨_,u',hu',hr⟩:=h.2 j v hv
  rw [hu] at hu'
  obtain rfl:=Option.some.inj hu'
  exact hr)
theorem q3w {t:TypeId} {parts:Array (Nat×Operand)} {pl:List (Nat×Nat)} {zs cs:List AV} [hz:ZcI P t zs] [hs:StI P t pl] (hf:q81 pl zs (parts.toList.map fun (i,x)=>(i,aev env x))=some cs):V1 P N (.build t parts) ty env H (.agg cs):=by
 intro S a w hc
 obtain ⟨z,hz1,hz2⟩:=ql7 (P:=P) (t:=t) S w
 obtain ⟨h1,h2⟩:=qin hc parts
 obtain ⟨vs',e1,e2⟩:=qtf (S:=S) (w:=w) (place:=(pl.toArray[·]?)) (pl:=pl) (fun i=>by simp) _ _ zs cs z.cells h1 h2 hz2 hf
 refine ⟨.agg vs',fun _ _ _ _=>?_,e2.agg⟩
 have hu:=hs.ud
 cases hd:P.underlying t with
 | none=>simp [hd] at hu
 | some d =>
  rw [hd] at hu
  cases d<;>simp only [] at hu<;>try (cases hu;done)
  rename_i fs
  have hp:=qgj (P:=P) w fs.toList pl hu
  have hp':(fs.mapM (m:=Sem) fun f=>do pure (f.offset,← sizeOf f.type)).run P w = .ok pl.toArray w:=by
   have e:fs=fs.toList.toArray:=by simp
   rw [e,List.mapM_toArray,Sem.run_map,hp]
   simp
  simp only [execOp,Instr.build,Sem.run_bind,hz1,Result.andThen_ok,q1a hd,hp',e1,Sem.run_pure]
theorem CellsR.row {S:List Slot} {w:World} {cs:List AV} {us:Array Value} {sz:Nat} (h:CellsR S w cs us) (hn:cs.length=sz):RowOK (own S) S w sz us [cs]:=by
 refine ⟨by simp [← h.1,hn],fun i r hr=>?_⟩
 cases i with
 | zero =>
  simp at hr
  subst hr
  exact ⟨hn,fun j v hv=>by simpa using h.2 j v hv⟩
 | succ i=>simp at hr
theorem qu4 {S:List Slot} {H:qf} {w w':World} {sz:Nat} (hlen:H.length=S.length):VR (own (S++[⟨0,sz,some w.heap.size⟩])) w' (S++[⟨0,sz,some w.heap.size⟩]) (.pt H.length 0 0 0) (.pointer (some ⟨w.heap.size,0,none⟩)):=by
 refine .pt ⟨0,sz,some w.heap.size⟩ (by rw [hlen];exact SExt.last S _) (Nat.le_refl _) rfl fun _=>⟨w.heap.size,rfl,by simp⟩
theorem q110 {t:TypeId} {sz:Nat} {zs:List AV} [hz:ZcI P t zs] (hn:zs.length=sz) (hp:0<sz):V2 P N (.alloc t) ty env H (.pt H.length 0 0 0) (H++[⟨0,sz,[zs]⟩]):=by
 intro dst pos after guard S a w hc next Q hnext _
 obtain ⟨z,hz1,hz2⟩:=ql7 (P:=P) (t:=t) S w
 have hm:=Made.alloc w z.cells t
 obtain ⟨hh,hx⟩:=hc.heap.made hm hp (hz2.row hn)
 have hrun:(execOp a.eval ⟨dst,.alloc t,ty,pos,after,guard⟩).run P w = .ok (.value (.pointer (some ⟨w.heap.size,0,none⟩))) (w.alloc (.cells z.cells t)):=by
  simp [execOp,Instr.alloc,hz1,newVar,newRow]
 unfold Oper.wp
 rw [hrun]
 exact hnext _ _ _ _ _ ⟨rfl,rfl⟩ hh hx (qu4 hc.heap.len)
theorem q143 {t:TypeId} {x:Operand} {v:AV} {sz:Nat} {cs:List AV} (hx:aev env x=v) (hv:v.cellish=true) (hcs:v.cells=cs) (hn:cs.length=sz) (hp:0<sz):V2 P N (.box t x) ty env H (.pt H.length 0 0 0) (H++[⟨0,sz,[cs]⟩]):=by
 intro dst pos after guard S a w hc next Q hnext _
 have hvr:=hc.ev x
 rw [hx] at hvr
 obtain ⟨h1,_,h3⟩:=hvr.cells hv
 subst hcs
 have hm:=Made.alloc w (a.eval x).cells t
 obtain ⟨hh,hx'⟩:=hc.heap.made hm hp (CellsR.row ⟨h1,h3⟩ hn)
 have hrun:(execOp a.eval ⟨dst,.box t x,ty,pos,after,guard⟩).run P w = .ok (.value (.pointer (some ⟨w.heap.size,0,none⟩))) (w.alloc (.cells (a.eval x).cells t)):=by
  simp [execOp,Instr.box,newVar,newRow]
 unfold Oper.wp
 rw [hrun]
 exact hnext _ _ _ _ _ ⟨rfl,rfl⟩ hh hx' (qu4 hc.heap.len)
theorem qs4 {S:List Slot} {H:qf} {w w':World} {sz n c:Nat} {arr:Array Value} {et:TypeId} (hlen:H.length=S.length) (hnew:w'.heap[w.heap.size]?=some (Obj.cells arr et (0,0))) (hsz:c * sz≤arr.size) (hc:n≤c) :
  VR (own (S++[⟨0,sz,some w.heap.size⟩])) w' (S++[⟨0,sz,some w.heap.size⟩]) (.sl H.length 0 0 n n) (.slice (some ⟨w.heap.size,0,none⟩) n c):=by
 refine .sl ⟨0,sz,some w.heap.size⟩ (by rw [hlen];exact SExt.last S _) (Nat.le_refl _) rfl fun _=>⟨c,hc,hc,.inr ⟨w.heap.size,arr,et,rfl,by simp,hnew,by simpa using hsz⟩⟩
theorem q6i {S:List Slot} {w:World} {sz:Nat} {rows:List (List AV)} {us:Array Value} (hw:∀ r∈rows,r.length=sz) (h:CellsR S w rows.flatten us):RowOK (own S) S w sz us rows:=by
 have hget:∀ (rows:List (List AV)),(∀ r∈rows,r.length=sz)→∀ (i:Nat) (r:List AV) (j:Nat),rows[i]?=some r→j<sz→rows.flatten[i * sz+j]?=r[j]?:=by
  intro rows
  induction rows with
  | nil=>intro _ i r j hr _;simp at hr
  | cons x rows ih =>
   intro hw i r j hr hj
   have hx:x.length=sz:=hw x (by simp)
   cases i with
   | zero =>
    simp at hr
    subst hr
    rw [List.flatten_cons,List.getElem?_append_left (by omega)]
    simp
   | succ i =>
    have:=ih (fun r h=>hw r (by simp [h])) i r j (by simpa using hr) hj
    rw [List.flatten_cons,List.getElem?_append_right (by rw [hx,Nat.succ_mul];omega),hx,show (i+1) * sz+j-sz=i * sz+j by rw [Nat.succ_mul];omega]
    exact this
 have hlen:∀ (rows:List (List AV)),(∀ r∈rows,r.length=sz)→rows.flatten.length=rows.length * sz:=by
  intro rows
  induction rows with
  | nil=>simp
  | cons x rows ih=>intro hw;rw [List.flatten_cons,List.length_append,ih (fun r h=>hw r (by simp [h])),hw x (by simp),List.length_cons,Nat.succ_mul];omega
 refine ⟨by rw [← h.1,hlen rows hw];exact Nat.le_refl _,fun i r hr=>?_⟩
 have hrl:=hw r (List.mem_of_getElem? hr)
 refine ⟨hrl,fun j v hv=>?_⟩
 have hj:j<sz:=by rw [← hrl];exact (List.getElem?_eq_some_iff.1 hv).1
 exact h.2 (i * sz+j) v (by rw [hget rows hw i r j hr hj];exact hv)
theorem CellsR.rep {S:List Slot} {w:World} {cs:List AV} {us:Array Value} (h:CellsR S w cs us) (hpos:0<cs.length) (n:Nat):CellsR S w (List.replicate n cs).flatten ((Array.range (n * cs.length)).map (us[· % us.size]!)):=by
 have hlen:∀ n,((List.replicate n cs).flatten).length=n * cs.length:=by intro n;simp
 have hget:∀ n j,j<n * cs.length→((List.replicate n cs).flatten)[j]?=cs[j % cs.length]?:=by
  intro n
  induction n with
  | zero=>intro j hj;simp at hj
  | succ n ih =>
   intro j hj
   rw [List.replicate_succ,List.flatten_cons]
   by_cases hlt:j<cs.length
   ·rw [List.getElem?_append_left hlt,Nat.mod_eq_of_lt hlt]
   ·rw [List.getElem?_append_right (by omega),ih (j-cs.length) (by rw [Nat.succ_mul] at hj;omega)]
    exact congrArg (cs[·]?) (Nat.mod_eq_sub_mod (by omega)).symm
 refine ⟨by simp [hlen],fun j v hv=>?_⟩
 have hj:j<n * cs.length:=by rw [← hlen];exact (List.getElem?_eq_some_iff.1 hv).1
 rw [hget n j hj] at hv
 obtain ⟨hl,u,hu,hr⟩:=h.2 _ v hv
 refine ⟨hl,u,?_,hr⟩
 have hsz:=h.1
 have hlt:j % us.size<us.size:=Nat.mod_lt _ (by omega)
 rw [hsz] at hu
 have hu':us[j % us.size]=u:=by
  rw [Array.getElem?_eq_getElem hlt] at hu
  exact Option.some.inj hu
 have hj':j<(Array.range (n * cs.length)).size:=by simpa using hj
 rw [Array.getElem?_map,Array.getElem?_eq_getElem hj']
 simp [hlt,hu']
theorem qjq {t e:TypeId} {n sz:Nat} {parts:Array (Nat×Operand)} {agg:Bool} {zs cs:List AV} {rows:List (List AV)} [hu:SlI P t e] [TyI P e agg sz] [hz:ZcI P e zs] (hn:zs.length=sz) (hp:0<sz) (h0:0<n) (hbig:n * sz≤16777216)
  (hf:q81 ((List.range n).map fun i=>(i * sz,sz)) (List.replicate n zs).flatten (parts.toList.map fun (i,x)=>(i,aev env x))=some cs) (hrows:rows.flatten=cs) (hw:∀ r∈rows,r.length=sz) :
  V2 P N (.buildSlice t n parts) ty env H (.sl H.length 0 0 n n) (H++[⟨0,sz,rows⟩]):=by
 intro dst pos after guard S a w hc next Q hnext _
 obtain ⟨z,hz1,hz2⟩:=ql7 (P:=P) (t:=e) S w
 obtain ⟨h1,h2⟩:=qin hc parts
 have hrep:=hz2.rep (by omega) n
 rw [hn] at hrep
 have key:∀ (parts:List (Nat×AV)) (us:List (Nat×Value)) (cs cs':List AV) (vs:Array Value),
   parts.length=us.length→(∀ (j:Nat) (x:Nat×AV) (y:Nat×Value),parts[j]?=some x→us[j]?=some y→x.1=y.1∧VR (own S) w S x.2 y.2)→CellsR S w cs vs→q81 ((List.range n).map fun i=>(i * sz,sz)) cs parts=some cs' →
   ∃ vs',Instr.fill (fun i=>some (i * sz,sz)) vs us=some vs'∧CellsR S w cs' vs':=by
  intro parts
  induction parts with
  | nil =>
   intro us cs cs' vs hl _ h he
   cases us with
   | nil=>simp [q81] at he;subst he;exact ⟨vs,rfl,h⟩
   | cons y us=>simp at hl
  | cons x parts ih =>
   intro us cs cs' vs hl hr h he
   cases us with
   | nil=>simp at hl
   | cons y us =>
    obtain ⟨i,v⟩:=x
    obtain ⟨i',u⟩:=y
    obtain ⟨hi,hv⟩:=hr 0 _ _ rfl rfl
    simp only at hi hv
    subst hi
    unfold q81 at he
    cases hpl:((List.range n).map fun i=>(i * sz,sz))[i]? with
    | none=>rw [hpl] at he;cases he
    | some x =>
     have hx:x=(i * sz,sz):=by
      rw [List.getElem?_map] at hpl
      cases hi:(List.range n)[i]? with
      | none=>simp [hi] at hpl
      | some k =>
       have hk:k=i:=by
        have:=List.getElem?_eq_some_iff.1 hi
        obtain ⟨hlt,e⟩:=this
        simpa using e.symm
       rw [hi] at hpl
       subst hk
       exact (Option.some.inj hpl).symm
     subst hx
     rw [hpl] at he
     simp only at he
     split at he
     ·rename_i hcnd
      obtain ⟨c1,c2,c3⟩:=hcnd
      obtain ⟨k1,_,k3⟩:=hv.cells c3
      have hput:=h.put ⟨k1,k3⟩ (off:=i * sz) (by omega)
      rw [c1] at hput
      obtain ⟨vs',e1,e2⟩:=ih us _ cs' _ (by simpa using hl) (fun j x y hx hy=>hr (j+1) x y hx hy) hput he
      refine ⟨vs',?_,e2⟩
      have hif:(decide (u.cells.size≠sz)||decide (i * sz+u.cells.size > vs.size))=false:=by
       have:=h.1
       simp
       omega
      unfold Instr.fill
      simp only [hif,Bool.false_eq_true,if_false]
      exact e1
     ·cases he
 obtain ⟨vs',e1,e2⟩:=key _ _ (List.replicate n zs).flatten cs _ h1 h2 hrep hf
 have hm:=Made.alloc w vs' e
 subst hrows
 obtain ⟨hh,hx⟩:=hc.heap.made hm hp (q6i hw e2)
 have hlen:rows.flatten.length=vs'.size:=e2.1
 have hsize:vs'.size=n * sz:=by
  have hfl:∀ (parts:List (Nat×AV)) (cs cs':List AV),q81 ((List.range n).map fun i=>(i * sz,sz)) cs parts=some cs'→cs'.length=cs.length:=by
   intro parts
   induction parts with
   | nil=>intro cs cs' he;simp [q81] at he;rw [he]
   | cons x parts ih =>
    intro cs cs' he
    obtain ⟨i,v⟩:=x
    unfold q81 at he
    split at he
    ·cases he
    ·split at he
     ·rename_i hcnd
      have:=ih _ _ he
      rw [this]
      simp
      omega
     ·cases he
  have:=hfl _ _ _ hf
  have h3:((List.replicate n zs).flatten).length=n * sz:=by simp [hn]
  rw [← hlen,this,h3]
 have hrun:(execOp a.eval ⟨dst,.buildSlice t n parts,ty,pos,after,guard⟩).run P w = .ok (.value (.slice (some ⟨w.heap.size,0,none⟩) n n)) (w.alloc (.cells vs' e)):=by
  have hne:¬ (n * sz=0):=by
   intro e
   rcases Nat.mul_eq_zero.1 e with h | h<;>omega
  have hnb:¬ (n * sz > 2 ^ 24):=by omega
  have hzc:z.cells.size=sz:=by rw [← hz2.1,hn]
  simp only [execOp,Instr.buildSlice,Sem.run_bind,q1a hu.ud,Result.andThen_ok,q4e (P:=P) (t:=e) (agg:=agg) (sz:=sz),hnb,hne,if_false,hz1,Sem.run_pure,e1]
  simp [newRow]
 unfold Oper.wp
 rw [hrun]
 exact hnext _ _ _ _ _ ⟨rfl,rfl⟩ hh hx (qs4 hc.heap.len hm.new (by omega) (Nat.le_refl _))
theorem qaw {t e:TypeId} {sz:Nat} {agg:Bool} [hu:SlI P t e] [TyI P e agg sz]:V2 P N (.buildSlice t 0 #[]) ty env H .nsl H:=by
 intro dst pos after guard S a w hc next Q hnext _
 have hm:=Made.alloc w #[] e
 have hx:=hm.same (S:=S)
 have hrun:(execOp a.eval ⟨dst,.buildSlice t 0 #[],ty,pos,after,guard⟩).run P w = .ok (.value (.slice (some ⟨w.heap.size,0,none⟩) 0 0)) (w.alloc (.cells #[] e)):=by
  simp [execOp,Instr.buildSlice,q1a hu.ud,q4e (P:=P) (t:=e) (agg:=agg) (sz:=sz),Instr.fill,newRow,Array.range_zero']
 unfold Oper.wp
 rw [hrun]
 have hh:HRel H S (w.alloc (.cells #[] e)):=by
  refine ⟨hc.heap.len,fun id o s ho hs=>?_,hc.heap.inj⟩
  have ok:=hc.heap.obj id o s ho hs
  refine ⟨ok.gen,ok.sz,ok.pos,ok.nope,fun b hb=>?_⟩
  obtain ⟨arr,ty',h1,h2⟩:=ok.row hb
  exact ⟨arr,ty',by rw [hm.old b (Array.getElem?_eq_some_iff.1 h1).1];exact h1,(h2.mono hx.stp hx.slots).1,(h2.mono hx.stp hx.slots).2⟩
 exact hnext _ _ _ _ _ ⟨rfl,rfl⟩ hh hx .nsl
theorem qmu {t e:TypeId} {x y:Operand} {k k':IntKind} {n c sz bytes:Nat} {agg:Bool} {zs:List AV} [hu:SlI P t e] [TyI P e agg sz] [hz:ZcI P e zs] [hby:ByI P e bytes] (hn:zs.length=sz) (hp:0<sz)
  (hx:aev env x = .int k (n:Int)) (hy:aev env y = .int k' (c:Int)) (hnc:n≤c) (hb:bytes * c≤281474976710656) (h63:(c:Int)≤9223372036854775807) :
  V2 P N (.makeSlice t x y) ty env H (.sl H.length 0 0 n c) (H++[⟨0,sz,List.replicate c zs⟩]):=by
 intro dst pos after guard S a w hc next Q hnext _
 obtain ⟨z,hz0,hz1,hz2⟩:=hz.ze
 have hzr:CellsR S w zs z.cells:=.of_val hz1 hz2
 have hti:=(inferInstance:TyI P e agg sz).info
 have htb:=hby.by_
 cases hd:P.info? e with
 | none=>simp [hd] at hti
 | some i =>
  simp [hd] at hti htb hz0
  have hr:=run_make (P:=P) w t e i z hu.ud hd hz0 k k' (n:Int) (c:Int) (by omega) (by omega) (by rw [htb,← Int.natCast_mul];omega) h63
  have hm:=Made.alloc w (madeCells z.cells (c * i.size)) e
  have hrep:=hzr.rep (by omega) c
  rw [hn] at hrep
  have hrow:RowOK (own S) S w sz (madeCells z.cells (c * i.size)) (List.replicate c zs):=by
   rw [hti]
   exact q6i (fun r hr=>by rw [List.eq_of_mem_replicate hr];exact hn) hrep
  obtain ⟨hh,hx'⟩:=hc.heap.made hm hp hrow
  have hrun:(execOp a.eval ⟨dst,.makeSlice t x y,ty,pos,after,guard⟩).run P w = .ok (.value (.slice (some ⟨w.heap.size,0,none⟩) n c)) (w.alloc (.cells (madeCells z.cells (c * i.size)) e)):=by
   show Sem.run P (do pure (Next.value (← Instr.makeSlice t (a.eval x) (a.eval y)))) w=_
   rw [q1e hc hx,q1e hc hy,Sem.run_bind,hr]
   rfl
  unfold Oper.wp
  rw [hrun]
  refine hnext _ _ _ _ _ ⟨rfl,rfl⟩ hh hx' ?_
  refine .sl ⟨0,sz,some w.heap.size⟩ (by rw [hc.heap.len];exact SExt.last S _) (Nat.le_refl _) rfl fun _=>⟨c,Nat.le_refl _,hnc,.inr ⟨w.heap.size,_,_,rfl,by simp,hm.new,?_⟩⟩
  simp [size_madeCells,hti]
end
structure SrcR (P : Program) (S : List Slot) (w : World) (sz : Nat) (ys : List (List AV)) (x : Value) (news : Array Value) : Prop where
 len:∀ w',(Builtin.lenOf x).run P w' = .ok ys.length w'
 first:∀ w',w'.heap=w.heap→(Builtin.firstCells sz ys.length x).run P w' = .ok news w'
 cells:CellsR S w ys.flatten news
 one:∀ u∈news.toList,u.oneCell'=true
 wide:∀ r∈ys,r.length=sz
theorem q3j {sz:Nat}:∀ {rows:List (List AV)},(∀ r∈rows,r.length=sz)→rows.flatten.length=rows.length * sz
 | [],_=>by simp
 | x :: rows,hw=>by rw [List.flatten_cons,List.length_append,q3j (fun r h=>hw r (by simp [h])),hw x (by simp),List.length_cons,Nat.succ_mul];omega
theorem qih {sz:Nat}:∀ {rows:List (List AV)},(∀ r∈rows,r.length=sz)→∀ {i:Nat} {r:List AV} {j:Nat},rows[i]?=some r→j<sz→rows.flatten[i * sz+j]?=r[j]?
 | [],_,i,r,j,hr,_=>by simp at hr
 | x :: rows,hw,i,r,j,hr,hj=>by
  have hx:x.length=sz:=hw x (by simp)
  cases i with
  | zero =>
   simp at hr
   subst hr
   rw [List.flatten_cons,List.getElem?_append_left (by omega)]
   simp
  | succ i =>
   have:=qih (rows:=rows) (fun r h=>hw r (by simp [h])) (i:=i) (r:=r) (j:=j) (by simpa using hr) hj
   rw [List.flatten_cons,List.getElem?_append_right (by rw [hx,Nat.succ_mul];omega),hx,show (i+1) * sz+j-sz=i * sz+j by rw [Nat.succ_mul];omega]
   exact this
theorem qcb {S : List Slot} {w : World} {sz : Nat} {ys : List (List AV)} {us : Nat → Value} (hw : ∀ r ∈ ys, r.length = sz)
    (h : ∀ (i : Nat) (r : List AV), ys[i]? = some r → ∀ (j : Nat) (v : AV), r[j]? = some v → v.leaf = true ∧ VR (own S) w S v (us (i * sz + j))) : CellsR S w ys.flatten ((List.range (ys.length * sz)).map us).toArray := by
  have hlen := q3j hw
  refine ⟨by simp [hlen], fun k v hk => ?_⟩
  have hlt : k < ys.length * sz := by rw [← hlen]; exact (List.getElem?_eq_some_iff.1 hk).1
  have hpos : 0 < sz := by rcases Nat.eq_zero_or_pos sz with e | e; · subst e; simp at hlt
                           · exact e
  have hi : k / sz < ys.length := (Nat.div_lt_iff_lt_mul hpos).2 hlt
  have hj : k % sz < sz := Nat.mod_lt _ hpos
  have hk' : k / sz * sz + k % sz = k := Nat.div_add_mod' k sz
  have := qih hw (List.getElem?_eq_getElem hi) hj
  rw [hk', hk] at this
  obtain ⟨h1, h2⟩ := h (k / sz) _ (List.getElem?_eq_getElem hi) (k % sz) v this.symm
  rw [hk'] at h2
  exact ⟨h1, us k, by simp [hlt], h2⟩
theorem qee {w w':World} (h:w'.heap=w.heap) (a:Addr):w'.cell? a=w.cell? a:=by simp [World.cell?,h]
section
variable {P : Program} {N : Nat} {B : Base} {Q : q6g} {env : Env} {H : qf} {ty : TypeId} {ops : Array Oper} {rest : List Oper}
theorem qa4 {w:World} {sz n:Nat} {ad:Addr} {l c:Nat} {us:Nat→Value} (h:∀ k,k<n * sz→w.cell? (ad.add k)=some (us k)) (w':World) (hw:w'.heap=w.heap) :
  (Builtin.firstCells sz n (.slice (some ad) l c)).run P w' = .ok ((List.range (n * sz)).map us).toArray w':=by
 have:=run_loadCells (P:=P) w' ad (n * sz) us (fun j hj=>by rw [qee hw];exact h j hj)
 simpa [Builtin.firstCells] using this
theorem q133 {S : List Slot} {a : Act} {w : World} (hc : CR N env H S a w) {x : Operand} {ys : List (List AV)} {sz : Nat} (hx : aev env x = .pl ys) (hw : ∀ r ∈ ys, r.length = sz) : ∃ news, SrcR P S w sz ys (a.eval x) news := by
  have hv := hc.ev x
  rw [hx] at hv
  generalize a.eval x = u at hv
  cases hv with
  | @pl _ _ ad c base z u hcap hb hs hm hl hv =>
    by_cases hne : ys = []
    · subst hne
      refine ⟨#[], fun w' => rfl, fun w' _ => ?_, ⟨rfl, fun _ _ h => by simp at h⟩, by simp, by simp⟩
      cases ad with
      | none => rfl
      | some ad => simp [Builtin.firstCells, loadCells, loadCellsFrom]
    · obtain ⟨k1, k2, k3⟩ := hb hne
      subst k1
      have hz : z = sz := by
        cases ys with
        | nil => exact absurd rfl hne
        | cons r ys => rw [← hs 0 r rfl]; exact hw r (by simp)
      subst hz
      have hcell : ∀ k, k < ys.length * z → w.cell? (base.add k) = some (u (k / z) (k % z)) := by
        intro k hk
        have hpos : 0 < z := by rcases Nat.eq_zero_or_pos z with e | e; · subst e; simp at hk
                                · exact e
        have := hm (k / z) ((Nat.div_lt_iff_lt_mul hpos).2 hk) (k % z) (Nat.mod_lt _ hpos)
        rwa [Nat.div_add_mod' k z] at this
      have hcr : CellsR S w ys.flatten ((List.range (ys.length * z)).map fun k => u (k / z) (k % z)).toArray := qcb hw fun i r hr j v hv' => by
        have hj : j < z := by rw [← hs i r hr]; exact (List.getElem?_eq_some_iff.1 hv').1
        have e1 : (i * z + j) / z = i := by rw [Nat.add_comm, Nat.add_mul_div_right _ _ (by omega), Nat.div_eq_of_lt hj, Nat.zero_add]
        have e2 : (i * z + j) % z = j := by rw [Nat.add_comm, Nat.add_mul_mod_self_right, Nat.mod_eq_of_lt hj]
        rw [e1, e2]
        exact ⟨hl i j r v hr hv', (hv i j r v hr hv').mono (Stp.refl _ _) (SExt.nil S)⟩
      refine ⟨_, fun w' => rfl, fun w' hw' => qa4 hcell w' hw', hcr, fun y hy => ?_, hw⟩
      obtain ⟨k, hk⟩ := List.mem_iff_getElem?.1 hy
      have hlt : k < ys.flatten.length := by rw [hcr.1]; exact (List.getElem?_eq_some_iff.1 hk).1
      obtain ⟨hlf, y', hy', hr⟩ := hcr.2 k _ (List.getElem?_eq_getElem hlt)
      have : y = y' := by
        have h2 : (((List.range (ys.length * z)).map fun k => u (k / z) (k % z)).toArray)[k]? = some y := by simpa using hk
        rw [h2] at hy'
        exact Option.some.inj hy'
      rw [this]
      exact hr.one hlf
theorem qu3 {S:List Slot} {a:Act} {w:World} (hc:CR N env H S a w) {x:Operand} {sz:Nat} (hx:aev env x = .nsl):∃ news,SrcR P S w sz [] (a.eval x) news:=by
 have hv:=hc.ev x
 rw [hx] at hv
 generalize a.eval x=u at hv
 cases hv with
 | @nsl _ ad =>
  refine ⟨#[],fun w'=>rfl,fun w' _=>?_,⟨rfl,fun _ _ h=>by simp at h⟩,by simp,by simp⟩
  cases ad with
  | none=>rfl
  | some ad=>simp [Builtin.firstCells,loadCells,loadCellsFrom]
theorem qt4 {S:List Slot} {a:Act} {w:World} (hc:CR N env H S a w) {x:Operand} {id off len cap:Nat} {o:AObj} {ys:List (List AV)} (hx:aev env x = .sl id o.gen off len cap) (hid:H[id]?=some o) (hys:(o.rows.drop off).take len=ys) (hlen:ys.length=len):∃ news,SrcR P S w o.sz ys (a.eval x) news:=by
 obtain ⟨s,c,hs,ok,hcc,hlc,h⟩:=hc.slc hx hid
 have hget:∀ i r,ys[i]?=some r→o.rows[off+i]?=some r:=by
  intro i r hr
  have hi:i<len:=by rw [← hlen];exact (List.getElem?_eq_some_iff.1 hr).1
  rw [← hys,List.getElem?_take,if_pos hi,List.getElem?_drop] at hr
  exact hr
 rcases h with ⟨h0,ad,he⟩ | ⟨b,arr,et,hp,he,hb,hfit,hrow⟩
 ·have:len=0:=by omega
  subst this
  have:ys=[]:=List.eq_nil_of_length_eq_zero hlen
  subst this
  rw [he]
  refine ⟨#[],fun w'=>rfl,fun w' _=>?_,⟨rfl,fun _ _ h=>by simp at h⟩,by simp,by simp⟩
  cases ad with
  | none=>rfl
  | some ad=>simp [Builtin.firstCells,loadCells,loadCellsFrom]
 ·have hw:∀ r∈ys,r.length=o.sz:=by
   intro r hr
   obtain ⟨i,hi⟩:=List.mem_iff_getElem?.1 hr
   exact (hrow.2 _ r (hget i r hi)).1
  have hcell:∀ k,k<ys.length * o.sz→w.cell? ((⟨b,off * o.sz,none⟩:Addr).add k)=some ((fun k=>arr.getD (off * o.sz+k) undef) k):=by
   intro k hk
   have:off * o.sz+k<arr.size:=by
    rw [hlen] at hk
    have h1:len * o.sz≤c * o.sz:=Nat.mul_le_mul_right _ hlc
    rw [Nat.add_mul] at hfit
    omega
   rw [q3z,cell_of_row w b _ arr _ _ hb]
   simp [this]
  have hcr:CellsR S w ys.flatten ((List.range (ys.length * o.sz)).map fun k=>arr.getD (off * o.sz+k) undef).toArray:=qcb hw fun i r hr j v hv'=>by
   obtain ⟨h1,u,h2,h3⟩:=(hrow.2 _ r (hget i r hr)).2 j v hv'
   refine ⟨h1,?_⟩
   have e:arr.getD (off * o.sz+(i * o.sz+j)) undef=u:=by
    rw [show off * o.sz+(i * o.sz+j)=(off+i) * o.sz+j by rw [Nat.add_mul];omega]
    simp [h2]
   rw [e]
   exact h3
  rw [he,← hlen]
  refine ⟨_,fun w'=>rfl,fun w' hw'=>qa4 hcell w' hw',hcr,fun y hy=>?_,hw⟩
  obtain ⟨k,hk⟩:=List.mem_iff_getElem?.1 hy
  have hlt:k<ys.flatten.length:=by rw [hcr.1];exact (List.getElem?_eq_some_iff.1 hk).1
  obtain ⟨hlf,y',hy',hr⟩:=hcr.2 k _ (List.getElem?_eq_getElem hlt)
  have:y=y':=by
   have h2:(((List.range (ys.length * o.sz)).map fun k=>arr.getD (off * o.sz+k) undef).toArray)[k]?=some y:=by simpa using hk
   rw [h2] at hy'
   exact Option.some.inj hy'
  rw [this]
  exact hr.one hlf
def qz (b:UInt8):List AV:=[.int .u8 (b.toNat:Int)]
theorem q10j {S:List Slot} {a:Act} {w:World} (hc:CR N env H S a w) {x:Operand} {s:ByteArray} (hx:aev env x = .str s):∃ news,SrcR P S w 1 (s.data.toList.map qz) (a.eval x) news:=by
 rw [qak hc hx]
 have hn:(s.data.toList.map qz).length=s.size:=by simp
 have hfl:(s.data.toList.map qz).flatten=s.data.toList.map fun b=>.int .u8 (b.toNat:Int):=by
  generalize s.data.toList=l
  induction l with
  | nil=>rfl
  | cons b l ih=>simp [qz,ih]
 refine ⟨s.data.map fun b=>.int .u8 b.toNat,fun w'=>by simp [Builtin.lenOf,hn],fun w' _=>?_,?_,?_,?_⟩
 ·have:s.extract 0 s.size=s:=by
   cases s
   simp [ByteArray.extract,ByteArray.size,ByteArray.copySlice]
  simp [Builtin.firstCells,hn,this]
 ·rw [hfl]
  refine ⟨by simp,fun j v hv=>?_⟩
  rw [List.getElem?_map] at hv
  cases hj:s.data.toList[j]? with
  | none=>simp [hj] at hv
  | some b =>
   rw [hj] at hv
   obtain rfl:=Option.some.inj hv
   exact ⟨rfl,.int .u8 b.toNat,by simp at hj;simp [hj],.int⟩
 ·intro u hu
  simp at hu
  obtain ⟨b,_,rfl⟩:=hu
  rfl
 ·intro r hr
  simp at hr
  obtain ⟨b,_,rfl⟩:=hr
  rfl
class NiI (P : Program) (t : TypeId) : Prop where
 ud:(∃ e,P.underlying t=some (.slice e))∨P.underlying t=some .string
theorem q7p {t t' e:TypeId} {sz:Nat} {agg:Bool} [hu:SlI P t e] [hni:NiI P t'] [TyI P e agg sz] {S:List Slot} {w:World} {ys:List (List AV)} {x:Value} {news:Array Value} (hs:SrcR P S w sz ys x news) {base:Option Addr} {len c:Nat} (hroom:len+ys.length≤c) :
  (Builtin.append_ #[t,t'] ty #[.slice base len c,x]).run P w=(match base with
   | some a=>(storeCells (a.add (len * sz)) news.toList).run P w
   | none=>.ok () w).andThen fun _ w'=>.ok (.slice base (len+ys.length) c) w':=by
 have hf:=hs.first w rfl
 rcases hni.ud with ⟨e',hd⟩ | hd<;>cases base<;>simp [Builtin.append_,q1a hu.ud,q1a hd,q4e (P:=P) (t:=e) (agg:=agg) (sz:=sz),hs.len,hroom,hf]
theorem q9o {t t' e:TypeId} {sz bytes:Nat} {agg:Bool} {zs:List AV} [hu:SlI P t e] [hni:NiI P t'] [ht:TyI P e agg sz] [hz:ZcI P e zs] [hby:ByI P e bytes] {S:List Slot} {w:World} {ys:List (List AV)} {x:Value} {news olds:Array Value} (hs:SrcR P S w sz ys x news) {base:Option Addr} {len c:Nat}
  (hold:∀ w',w'.heap=w.heap→(Builtin.firstCells sz len (.slice base len c)).run P w' = .ok olds w')
  (hroom:c<len+ys.length) (h63:len+ys.length≤9223372036854775807) (hb:(len+ys.length) * bytes≤140737488355328) :
  ∃ cap' rest,len+ys.length≤cap'∧rest.size=(cap'-(len+ys.length)) * zs.length∧(Builtin.append_ #[t,t'] ty #[.slice base len c,x]).run P w = .ok (.slice (some ⟨w.heap.size,0,none⟩) (len+ys.length) cap') (w.drew.alloc (.cells (olds++news++rest) e)):=by
 obtain ⟨z,hz0,hz1,hz2⟩:=hz.ze
 have htb:=hby.by_
 cases hi:P.info? e with
 | none=>simp [hi] at htb
 | some i =>
  simp [hi] at htb hz0
  have hf:=hs.first w.drew rfl
  have hfo:=hold w.drew rfl
  have hfit:=growslice_fits (bytes:=i.bytes) hroom (by rw [htb];exact hb)
  have n1:¬ (len+ys.length≤c):=by omega
  have n2:¬ ((9223372036854775807:Int)<((len:Int)+(ys.length:Int))):=by omega
  have n3:¬ (281474976710656<Builtin.nextslicecap (len+ys.length) c * i.bytes):=by omega
  refine ⟨grownCap w (len+ys.length) c e,Builtin.zeroCells z.cells (grownCap w (len+ys.length) c e-(len+ys.length)),grownCap_ge _ _ _ _,?_,?_⟩
  ·rw [size_zeroCells,← hz1];simp
  ·have hiz:i.zero=some z:=hz0
   rcases hni.ud with ⟨e',hd⟩ | hd<;>simp [Builtin.append_,q1a hu.ud,q1a hd,q4e (P:=P) (t:=e) (agg:=agg) (sz:=sz),typeInfo,zeroValue,hi,hiz,hs.len,n1,n2,n3,Question.forced,hf,hfo,newRow,grownCap]
theorem RowOK.of_cells {S:List Slot} {w:World} {sz:Nat} {rows:List (List AV)} {arr more:Array Value} (hw:∀ r∈rows,r.length=sz) (h:CellsR S w rows.flatten arr):RowOK (own S) S w sz (arr++more) rows:=by
 have h1:=q6i hw h
 refine ⟨Nat.le_trans h1.1 (by simp),fun i r hr=>⟨(h1.2 i r hr).1,fun j v hv=>?_⟩⟩
 obtain ⟨hl,u,hu,hvr⟩:=(h1.2 i r hr).2 j v hv
 exact ⟨hl,u,by rw [Array.getElem?_append_left (Array.getElem?_eq_some_iff.1 hu).1];exact hu,hvr⟩
theorem CellsR.append {S:List Slot} {w:World} {cs ds:List AV} {us vs:Array Value} (h:CellsR S w cs us) (k:CellsR S w ds vs):CellsR S w (cs++ds) (us++vs):=by
 refine ⟨by simp [h.1,k.1],fun j v hv=>?_⟩
 by_cases hj:j<cs.length
 ·rw [List.getElem?_append_left hj] at hv
  obtain ⟨hl,u,hu,hr⟩:=h.2 j v hv
  exact ⟨hl,u,by rw [Array.getElem?_append_left (by rw [← h.1];exact hj)];exact hu,hr⟩
 ·rw [List.getElem?_append_right (by omega)] at hv
  obtain ⟨hl,u,hu,hr⟩:=k.2 _ v hv
  exact ⟨hl,u,by rw [Array.getElem?_append_right (by rw [← h.1];omega),← h.1];exact hu,hr⟩
def Src (P:Program) (N:Nat) (env:Env) (H:qf) (x:Operand) (sz:Nat) (ys:List (List AV)):Prop:=∀ S a w,CR N env H S a w→∃ news,SrcR P S w sz ys (a.eval x) news
theorem Src.pl {x:Operand} {ys:List (List AV)} {sz:Nat} (hx:aev env x = .pl ys) (hw:∀ r∈ys,r.length=sz):Src P N env H x sz ys:=fun _ _ _ hc=>q133 hc hx hw
theorem Src.nsl {x:Operand} {sz:Nat} (hx:aev env x = .nsl):Src P N env H x sz []:=fun _ _ _ hc=>qu3 hc hx
theorem Src.sl {x:Operand} {id off len cap:Nat} {o:AObj} {sz:Nat} {ys:List (List AV)} (hx:aev env x = .sl id o.gen off len cap) (hid:H[id]?=some o) (hsz:o.sz=sz) (hys:(o.rows.drop off).take len=ys) (hlen:ys.length=len):Src P N env H x sz ys:=fun _ _ _ hc=>hsz▸qt4 hc hx hid hys hlen
theorem Src.str {x:Operand} {s:ByteArray} (hx:aev env x = .str s):Src P N env H x 1 (s.data.toList.map qz):=fun _ _ _ hc=>q10j hc hx
theorem q8y {S:List Slot} {w w':World} (hh:HRel H S w) (hx:Ext S w S w') (hold:∀ b,b<w.heap.size→w'.heap[b]?=w.heap[b]?):HRel H S w':=by
 refine ⟨hh.len,fun id o s ho hs=>?_,hh.inj⟩
 have ok:=hh.obj id o s ho hs
 refine ⟨ok.gen,ok.sz,ok.pos,ok.nope,fun b hb=>?_⟩
 obtain ⟨arr,ty',h1,h2⟩:=ok.row hb
 exact ⟨arr,ty',by rw [hold b (Array.getElem?_eq_some_iff.1 h1).1];exact h1,(h2.mono hx.stp hx.slots).1,(h2.mono hx.stp hx.slots).2⟩
theorem qkq {t t' e:TypeId} {x y:Operand} {sz bytes:Nat} {agg:Bool} {zs:List AV} {ys:List (List AV)} [hu:SlI P t e] [NiI P t'] [TyI P e agg sz] [hz:ZcI P e zs] [ByI P e bytes] (hn:zs.length=sz) (hp:0<sz)
  (hx:aev env x = .nsl) (hy:Src P N env H y sz ys) (hne:0<ys.length) (h63:ys.length≤9223372036854775807) (hb:ys.length * bytes≤140737488355328) :
  V2 P N (.call { callee:=.builtin .append,args:=#[x,y],argTypes:=#[t,t'] }) ty env H (.sl H.length 0 0 ys.length ys.length) (H++[⟨0,sz,ys⟩]):=by
 intro dst pos after guard S a w hc next Q hnext _
 obtain ⟨news,hs⟩:=hy S a w hc
 have hv:=hc.ev x
 rw [hx] at hv
 generalize he:a.eval x=u at hv
 cases hv with
 | @nsl _ ad =>
  have hold:∀ w',w'.heap=w.heap→(Builtin.firstCells sz 0 (.slice ad 0 0)).run P w' = .ok #[] w':=by
   intro w' _
   cases ad with
   | none=>rfl
   | some ad=>simp [Builtin.firstCells,loadCells,loadCellsFrom]
  obtain ⟨cap',rest,h1,h2,hr⟩:=q9o (P:=P) (t:=t) (t':=t') (e:=e) (ty:=ty) (sz:=sz) (bytes:=bytes) (agg:=agg) (zs:=zs) hs hold (by omega) (by omega) (by rw [Nat.zero_add];exact hb)
  rw [Nat.zero_add] at h1 h2 hr
  simp only [Array.empty_append] at hr
  have hm:=Made.drew_alloc w (news++rest) e
  obtain ⟨hh,hx'⟩:=hc.heap.made hm hp (RowOK.of_cells hs.wide hs.cells)
  have hrun:(execOp a.eval ⟨dst,.call { callee:=.builtin .append,args:=#[x,y],argTypes:=#[t,t'] },ty,pos,after,guard⟩).run P w = .ok (.value (.slice (some ⟨w.heap.size,0,none⟩) ys.length cap')) (w.drew.alloc (.cells (news++rest) e)):=by
   simp [execOp,resolve,invoke,builtin,he,hr]
  unfold Oper.wp
  rw [hrun]
  refine hnext _ _ _ _ _ ⟨rfl,rfl⟩ hh hx' (qs4 hc.heap.len hm.new ?_ h1)
  have hl:=hs.cells.1
  rw [q3j hs.wide] at hl
  simp only [Array.size_append,← hl,h2,hn,← Nat.add_mul]
  exact Nat.mul_le_mul_right _ (by omega)
theorem qia {t t' e:TypeId} {x y:Operand} {sz:Nat} {agg:Bool} [hu:SlI P t e] [NiI P t'] [TyI P e agg sz]
  (hx:aev env x = .nsl) (hy:Src P N env H y sz []):V2 P N (.call { callee:=.builtin .append,args:=#[x,y],argTypes:=#[t,t'] }) ty env H .nsl H:=by
 intro dst pos after guard S a w hc next Q hnext _
 obtain ⟨news,hs⟩:=hy S a w hc
 have hv:=hc.ev x
 rw [hx] at hv
 generalize he:a.eval x=u at hv
 cases hv with
 | @nsl _ ad =>
  have hr:=q7p (P:=P) (t:=t) (t':=t') (e:=e) (ty:=ty) (agg:=agg) hs (base:=ad) (len:=0) (c:=0) (by simp)
  have hnews:news = #[]:=by
   have:=hs.cells.1
   simp at this
   exact Array.size_eq_zero_iff.1 this.symm
  subst hnews
  have hrun:(execOp a.eval ⟨dst,.call { callee:=.builtin .append,args:=#[x,y],argTypes:=#[t,t'] },ty,pos,after,guard⟩).run P w = .ok (.value (.slice ad 0 0)) w:=by
   cases ad<;>simp [execOp,resolve,invoke,builtin,he,hr,storeCells]
  unfold Oper.wp
  rw [hrun]
  exact hnext _ _ _ _ _ ⟨rfl,rfl⟩ hc.heap (Ext.refl S w) .nsl
theorem qjx {t t' e : TypeId} {x y : Operand} {id len cap sz bytes m : Nat} {agg : Bool} {zs : List AV} {o : AObj} {ys : List (List AV)} [hu : SlI P t e] [NiI P t'] [TyI P e agg sz] [hz : ZcI P e zs] [ByI P e bytes] (hn : zs.length = sz)
    (hx : aev env x = .sl id o.gen 0 len cap) (hid : H[id]? = some o) (hsz : o.sz = sz) (hlen : len ≤ o.rows.length) (hy : Src P N env H y sz ys) (hne : 0 < ys.length) (h63 : len + ys.length ≤ 9223372036854775807) (hb : (len + ys.length) * bytes ≤ 140737488355328) (hm : m ≤ max cap (len + ys.length)) :
    V2 P N (.call { callee := .builtin .append, args := #[x, y], argTypes := #[t, t'] }) ty env H (.sl id (o.gen + 1) 0 (len + ys.length) m) (H.set id ⟨o.gen + 1, o.sz, o.rows.take len ++ ys⟩) := by
  intro dst pos after guard S a w hc next Q hnext _
  obtain ⟨news, hs⟩ := hy S a w hc
  obtain ⟨s, c, hsl, ok, hcc, hlc, h⟩ := hc.slc hx hid
  have hlt : id < S.length := (List.getElem?_eq_some_iff.1 hsl).1
  have hgen : s.gen = o.gen := ok.gen.symm
  have hssz : s.sz = sz := by rw [← ok.sz]; exact hsz
  have hnl := hs.cells.1
  rw [q3j hs.wide] at hnl
  have grown : ∀ (ad : Option Addr) (olds : Array Value), a.eval x = .slice ad len c → c < len + ys.length → (∀ w', w'.heap = w.heap → (Builtin.firstCells sz len (.slice ad len c)).run P w' = .ok olds w') →
      CellsR S w (o.rows.take len).flatten olds → (∀ r ∈ o.rows.take len, r.length = sz) → Oper.wp P ⟨dst, .call { callee := .builtin .append, args := #[x, y], argTypes := #[t, t'] }, ty, pos, after, guard⟩ a w next Q := by
    intro ad olds he hroom hold hco hwo
    obtain ⟨cap', rest, h1, h2, hr⟩ := q9o (P := P) (t := t) (t' := t') (e := e) (ty := ty) (sz := sz) (bytes := bytes) (agg := agg) (zs := zs) hs hold hroom h63 hb
    have hm := Made.drew_alloc w (olds ++ news ++ rest) e
    have hwide : ∀ r ∈ o.rows.take len ++ ys, r.length = sz := by
      intro r hr
      rcases List.mem_append.1 hr with h | h
      · exact hwo r h
      · exact hs.wide r h
    have hrow0 : RowOK (own S) S w sz (olds ++ news ++ rest) (o.rows.take len ++ ys) := RowOK.of_cells hwide (by rw [List.flatten_append]; exact hco.append hs.cells)
    have hx' : Ext S w (S.set id ⟨s.gen + 1, s.sz, some w.heap.size⟩) (w.drew.alloc (.cells (olds ++ news ++ rest) e)) := by
      refine ⟨hm.os, hm.tape, hm.output, ⟨by rw [hm.size]; omega, fun b hb' ho => ⟨fun k => ?_, hm.old b hb'⟩, fun b arr ty hb' => ⟨arr, by rw [hm.old b (Array.getElem?_eq_some_iff.1 hb').1]; exact hb', rfl⟩⟩, SExt.bump hsl (by simp)⟩
      obtain ⟨i, si, hi, hpi⟩ := k
      by_cases e1 : id = i
      · subst e1
        rw [List.getElem?_set_self hlt] at hi
        obtain rfl := Option.some.inj hi
        simp at hpi
        omega
      · rw [List.getElem?_set_ne e1] at hi
        exact ho ⟨i, si, hi, hpi⟩
    have hh := hc.heap.move (rows' := o.rows.take len ++ ys) hid hsl hx' (fun j sj hj hpj => by
        have := qlc hc.heap ⟨j, sj, hj, hpj⟩
        omega) (fun j sj b' hj _ hpj => hm.old b' (qlc hc.heap ⟨j, sj, hj, hpj⟩)) hm.new (by rw [hsz]; exact hrow0.mono hx'.stp hx'.slots)
    have hrun : (execOp a.eval ⟨dst, .call { callee := .builtin .append, args := #[x, y], argTypes := #[t, t'] }, ty, pos, after, guard⟩).run P w = .ok (.value (.slice (some ⟨w.heap.size, 0, none⟩) (len + ys.length) cap')) (w.drew.alloc (.cells (olds ++ news ++ rest) e)) := by
      simp [execOp, resolve, invoke, builtin, he, hr]
    unfold Oper.wp
    rw [hrun]
    refine hnext _ _ _ _ _ ⟨rfl, rfl⟩ hh hx' ?_
    refine .sl ⟨s.gen + 1, s.sz, some w.heap.size⟩ (List.getElem?_set_self hlt) (by simp [hgen]) rfl fun _ => ⟨cap', by omega, h1, .inr ⟨w.heap.size, _, _, rfl, by simp, hm.new, ?_⟩⟩
    have hol := hco.1
    rw [q3j hwo] at hol
    simp only [Array.size_append, ← hnl, ← hol, h2, hn, List.length_take, Nat.min_eq_left hlen, ← Nat.add_mul, Nat.zero_add]
    rw [hssz]
    exact Nat.mul_le_mul_right _ (by omega)
  rcases h with ⟨h0, ad, he⟩ | ⟨b, arr, et, hp, he, hbl, hfit, hrow⟩
  · have el : len = 0 := by omega
    subst el
    subst h0
    refine grown ad #[] he (by omega) (fun w' _ => ?_) ⟨by simp, fun _ _ h => by simp at h⟩ (by simp)
    cases ad with
    | none => rfl
    | some ad => simp [Builtin.firstCells, loadCells, loadCellsFrom]
  · have hwo : ∀ r ∈ o.rows.take len, r.length = sz := by
      intro r hr
      obtain ⟨i, hi⟩ := List.mem_iff_getElem?.1 (List.mem_of_mem_take hr)
      rw [← hsz]
      exact (hrow.2 i r hi).1
    rw [Nat.zero_mul] at he
    rw [Nat.zero_add] at hfit
    by_cases hroom : len + ys.length ≤ c
    ·
      have hr := q7p (P := P) (t := t) (t' := t') (e := e) (ty := ty) (agg := agg) hs (base := some ⟨b, 0, none⟩) hroom
      have hfit2 : len * sz + news.size ≤ arr.size := by
        rw [← hnl, ← Nat.add_mul]
        rw [hsz] at hfit
        exact Nat.le_trans (Nat.mul_le_mul_right _ hroom) hfit
      have hst := run_storeCells_at P b (len * sz) et news.toList 0 arr w hbl (by simpa using hfit2) hs.one
      simp only [Nat.add_zero, Array.length_toList] at hst
      have hsize : (arr.toList.take (len * sz) ++ news.toList ++ arr.toList.drop (len * sz + news.size)).toArray.size = arr.size := by
        simp
        omega
      have ho : own S b := ⟨id, s, hsl, hp⟩
      have hx' : Ext S w (S.set id ⟨s.gen + 1, s.sz, some b⟩) (w.setRow b (arr.toList.take (len * sz) ++ news.toList ++ arr.toList.drop (len * sz + news.size)).toArray) := by
        refine .of_row ho rfl rfl rfl (by simp) (fun k _ hk => setRow_other w b k _ hk) (fun a' t'' h' => ?_) (fun k hk hno k' => ?_) (SExt.bump hsl (by simp))
        · rw [hbl] at h'
          injection h' with h'
          injection h' with h1 h2
          subst h1; subst h2
          exact ⟨_, setRow_heap w b arr _ et (0, 0) hbl, hsize⟩
        · obtain ⟨i, si, hi, hpi⟩ := k'
          by_cases e1 : id = i
          · subst e1
            rw [List.getElem?_set_self hlt] at hi
            obtain rfl := Option.some.inj hi
            simp at hpi
            subst hpi
            exact hno ho
          · rw [List.getElem?_set_ne e1] at hi
            exact hno ⟨i, si, hi, hpi⟩
      have hwide : ∀ r ∈ o.rows.take len ++ ys, r.length = sz := by
        intro r hr
        rcases List.mem_append.1 hr with h | h
        · exact hwo r h
        · exact hs.wide r h
      have hrow' : RowOK (own S) S w sz (arr.toList.take (len * sz) ++ news.toList ++ arr.toList.drop (len * sz + news.size)).toArray (o.rows.take len ++ ys) := by
        have e1 : (arr.toList.take (len * sz) ++ news.toList ++ arr.toList.drop (len * sz + news.size)).toArray = (arr.toList.take (len * sz)).toArray ++ news ++ (arr.toList.drop (len * sz + news.size)).toArray := by
          simp
        rw [e1]
        refine RowOK.of_cells hwide ?_
        rw [List.flatten_append]
        refine CellsR.append ?_ hs.cells
        have hl2 : (o.rows.take len).flatten.length = len * sz := by rw [q3j hwo, List.length_take, Nat.min_eq_left hlen]
        have hle : len * sz ≤ arr.size := by omega
        refine ⟨by rw [hl2]; simp; omega, fun k v hk => ?_⟩
        have hklt : k < len * sz := by rw [← hl2]; exact (List.getElem?_eq_some_iff.1 hk).1
        have hpos : 0 < sz := by rcases Nat.eq_zero_or_pos sz with e | e; · subst e; simp at hklt
                                 · exact e
        have hi : k / sz < (o.rows.take len).length := by rw [List.length_take, Nat.min_eq_left hlen]; exact (Nat.div_lt_iff_lt_mul hpos).2 hklt
        have hj : k % sz < sz := Nat.mod_lt _ hpos
        have hk' : k / sz * sz + k % sz = k := Nat.div_add_mod' k sz
        have h3 := qih hwo (List.getElem?_eq_getElem hi) hj
        rw [hk', hk] at h3
        have h4 : o.rows[k / sz]? = some (o.rows.take len)[k / sz] := by
          have := List.getElem?_eq_getElem hi
          rw [List.getElem?_take] at this
          split at this
          · exact this
          · cases this
        obtain ⟨k1, u, k2, k3⟩ := (hrow.2 _ _ h4).2 _ v h3.symm
        rw [hsz, hk'] at k2
        exact ⟨k1, u, by simp [hklt, k2], k3⟩
      have hh := hc.heap.move (rows' := o.rows.take len ++ ys) hid hsl hx' (fun j sj hj hpj => hc.heap.inj j id sj s b hj hsl hpj hp) (fun j sj b' hj hne' hpj => setRow_other w b b' _ (fun e => hne' (hc.heap.inj j id sj s b hj hsl (e ▸ hpj) hp)))
        (setRow_heap w b arr _ et (0, 0) hbl) (by rw [hsz]; exact hrow'.mono hx'.stp hx'.slots)
      have hrun : (execOp a.eval ⟨dst, .call { callee := .builtin .append, args := #[x, y], argTypes := #[t, t'] }, ty, pos, after, guard⟩).run P w = .ok (.value (.slice (some ⟨b, 0, none⟩) (len + ys.length) c)) (w.setRow b (arr.toList.take (len * sz) ++ news.toList ++ arr.toList.drop (len * sz + news.size)).toArray) := by
        simp only [q3z, Nat.zero_add, hst] at hr
        simp [execOp, resolve, invoke, builtin, he, hr]
      unfold Oper.wp
      rw [hrun]
      refine hnext _ _ _ _ _ ⟨rfl, rfl⟩ hh hx' ?_
      refine .sl ⟨s.gen + 1, s.sz, some b⟩ (List.getElem?_set_self hlt) (by simp [hgen]) rfl fun _ => ⟨c, by omega, by omega, .inr ⟨b, _, _, rfl, by simp, setRow_heap w b arr _ et (0, 0) hbl, ?_⟩⟩
      rw [hsize, hssz, Nat.zero_add, ← hsz]
      exact hfit
    ·
      have hcell : ∀ k, k < len * sz → w.cell? ((⟨b, 0, none⟩ : Addr).add k) = some ((fun k => arr.getD k undef) k) := by
        intro k hk
        have : k < arr.size := by
          have h1 : len * o.sz ≤ c * o.sz := Nat.mul_le_mul_right _ hlc
          rw [hsz] at h1 hfit
          omega
        rw [q3z, cell_of_row w b _ arr _ _ hbl]
        simp [this]
      have hco : CellsR S w (o.rows.take len).flatten ((List.range ((o.rows.take len).length * sz)).map fun k => arr.getD k undef).toArray := qcb hwo fun i r hr j v hv' => by
        have h4 : o.rows[i]? = some r := by
          rw [List.getElem?_take] at hr
          split at hr
          · exact hr
          · cases hr
        obtain ⟨h1, u, h2, h3⟩ := (hrow.2 _ r h4).2 j v hv'
        refine ⟨h1, ?_⟩
        rw [hsz] at h2
        have e : arr.getD (i * sz + j) undef = u := by simp [h2]
        rw [e]
        exact h3
      rw [List.length_take, Nat.min_eq_left hlen] at hco
      exact grown (some ⟨b, 0, none⟩) _ he (by omega) (fun w' hw' => qa4 hcell w' hw') hco hwo
theorem qxa {t t' e:TypeId} {x y:Operand} {id len cap sz bytes:Nat} {agg:Bool} {zs:List AV} {o:AObj} {ys:List (List AV)} [hu:SlI P t e] [NiI P t'] [TyI P e agg sz] [hz:ZcI P e zs] [ByI P e bytes] (hn:zs.length=sz)
  (hx:aev env x = .sl id o.gen 0 len cap) (hid:H[id]?=some o) (hsz:o.sz=sz) (hlen:len≤o.rows.length) (hy:Src P N env H y sz ys) (hne:0<ys.length) (h63:len+ys.length≤9223372036854775807) (hb:(len+ys.length) * bytes≤140737488355328) :
  V2 P N (.call { callee:=.builtin .append,args:=#[x,y],argTypes:=#[t,t'] }) ty env H (.sl id (o.gen+1) 0 (len+ys.length) (len+ys.length)) (H.set id ⟨o.gen+1,o.sz,o.rows.take len++ys⟩) :=
 qjx (agg:=agg) (e:=e) (zs:=zs) (bytes:=bytes) hn hx hid hsz hlen hy hne h63 hb (Nat.le_max_right _ _)
theorem qjw {t t' e:TypeId} {x y:Operand} {id len cap sz:Nat} {agg:Bool} {o:AObj} [hu:SlI P t e] [NiI P t'] [TyI P e agg sz]
  (hx:aev env x = .sl id o.gen 0 len cap) (hid:H[id]?=some o) (hy:Src P N env H y sz []) :
  V2 P N (.call { callee:=.builtin .append,args:=#[x,y],argTypes:=#[t,t'] }) ty env H (.sl id o.gen 0 len cap) H:=by
 intro dst pos after guard S a w hc next Q hnext _
 obtain ⟨news,hs⟩:=hy S a w hc
 have hv:=hc.ev x
 rw [hx] at hv
 have hnews:news = #[]:=by
  have:=hs.cells.1
  simp at this
  exact Array.size_eq_zero_iff.1 this.symm
 subst hnews
 have hsl:∃ ad c,a.eval x = .slice ad len c∧len≤c:=by
  obtain ⟨s,c,hsl,ok,hcc,hlc,h⟩:=hc.slc hx hid
  rcases h with ⟨h0,ad,he⟩ | ⟨b,arr,et,hp,he,hbl,hfit,hrow⟩
  ·have:len=0:=by omega
   subst this
   exact ⟨ad,0,he,Nat.le_refl _⟩
  ·exact ⟨_,c,he,hlc⟩
 obtain ⟨ad,c,he,hlc⟩:=hsl
 have hr:=q7p (P:=P) (t:=t) (t':=t') (e:=e) (ty:=ty) (agg:=agg) hs (base:=ad) (len:=len) (c:=c) (by simpa using hlc)
 have hrun:(execOp a.eval ⟨dst,.call { callee:=.builtin .append,args:=#[x,y],argTypes:=#[t,t'] },ty,pos,after,guard⟩).run P w = .ok (.value (.slice ad len c)) w:=by
  cases ad<;>simp [execOp,resolve,invoke,builtin,he,hr,storeCells]
 unfold Oper.wp
 rw [hrun]
 rw [he] at hv
 exact hnext _ _ _ _ _ ⟨rfl,rfl⟩ hc.heap (Ext.refl S w) hv
end
section
variable {P : Program} {N : Nat} {B : Base} {Q : q6g} {env : Env} {H : qf} {ty : TypeId} {ops : Array Oper} {rest : List Oper}
theorem qgf {S:List Slot} {a:Act} {w:World} (hc:CR N env H S a w) (xs:Array Operand):VRs (own S) w S (xs.toList.map (aev env)) (xs.map a.eval):=by
 refine ⟨by simp,fun i v u hv hu=>?_⟩
 simp only [List.getElem?_map,Array.getElem?_map] at hv hu
 cases hx:xs[i]? with
 | none=>simp [hx] at hu
 | some x =>
  have hx':xs.toList[i]?=some x:=by simpa using hx
  rw [hx'] at hv
  rw [hx] at hu
  obtain rfl:=Option.some.inj hv
  obtain rfl:=Option.some.inj hu
  exact hc.ev x
class FnI (P : Program) (f : FuncId) : Prop where
 ok : (match P.funcs[f]? with | some fn => !(fn.name == "runtime.NumGoroutine") && fn.body.isSome | none => false) = true
theorem q4o {f:FuncId} [h:FnI P f] (args:Array Value) (w:World):(callFunc f args).run P w = .ok (.enter f args) w:=by
 have hk:=h.ok
 cases hf:P.funcs[f]? with
 | none=>simp [hf] at hk
 | some fn =>
  rw [hf] at hk
  simp at hk
  cases hb:fn.body with
  | none=>simp [hb] at hk
  | some c=>simp [callFunc,hf,hk,hb]
theorem AOp.call {o:Oper} {f:FuncId} {vs:List AV} {R:AOut→qf→Prop} (hc:∀ S a w,CR N env H S a w→∃ args,(execOp a.eval o).run P w = .ok (.enter f args) w∧VRs (own S) w S vs args) (hac:AC P f vs H R) :
  AOp P N o env H (fun v H'=>R (.ret v) H') (fun v H'=>R (.pan v) H'):=by
 intro S a w hcr next Q hnext hpan
 obtain ⟨args,hr,hv⟩:=hc S a w hcr
 unfold Oper.wp
 rw [hr]
 refine (hac S w args hcr.heap hv).mono ?_
 rintro e w' ⟨out,H',S',hR,hout,hh,hx⟩
 cases hout with
 | ret hv=>exact hnext _ _ H' S' w' hR hh hx hv
 | pan hv=>exact hpan _ _ H' S' w' hR hh hx hv
theorem qfc {d f:Nat} {xs:Array Operand} {ts:Array TypeId} {pos:String} {after:Array Edge} {R:AOut→qf→Prop} {vs:List AV} [FnI P f] (hvs:xs.toList.map (aev env)=vs) (hd:d<N) (hac:AC P f vs H R)
  (hK:∀ v H',R (.ret v) H'→q61 P N B ops rest Q ((d,v) :: env) H') (hX:∀ v H',R (.pan v) H'→Q (.pan v) env H') :
  q61 P N B ops (⟨some d,.call { callee:=.value (.func f),args:=xs,argTypes:=ts },ty,pos,after,none⟩ :: rest) Q env H:=by
 subst hvs
 refine q69 rfl Y1f (AOp.call (fun S a w hc=>⟨xs.map a.eval,?_,qgf hc xs⟩) hac) hK hX
 simp [execOp,resolve,Act.eval,Deferred.ofValue,invoke,q4o (P:=P) (f:=f)]
theorem VRs.append {O:Nat→Prop} {w:World} {S:List Slot} {vs us:List AV} {p q:Array Value} (h:VRs O w S vs p) (k:VRs O w S us q):VRs O w S (vs++us) (p++q):=by
 refine ⟨by simp [h.1,k.1],fun i v u hv hu=>?_⟩
 by_cases hi:i<vs.length
 ·rw [List.getElem?_append_left hi] at hv
  rw [Array.getElem?_append_left (by rw [← h.1];exact hi)] at hu
  exact h.2 i v u hv hu
 ·rw [List.getElem?_append_right (by omega)] at hv
  rw [Array.getElem?_append_right (by rw [← h.1];omega),← h.1] at hu
  exact k.2 _ v u hv hu
theorem qir {d f:Nat} {x:Operand} {xs:Array Operand} {ts:Array TypeId} {pos:String} {after:Array Edge} {R:AOut→qf→Prop} {ps qs vs:List AV} [FnI P f] (hx:aev env x = .fn (.func f) ps qs) (hvs:ps++xs.toList.map (aev env)++qs=vs) (hd:d<N) (hac:AC P f vs H R)
  (hK:∀ v H',R (.ret v) H'→q61 P N B ops rest Q ((d,v) :: env) H') (hX:∀ v H',R (.pan v) H'→Q (.pan v) env H') :
  q61 P N B ops (⟨some d,.call { callee:=.value x,args:=xs,argTypes:=ts },ty,pos,after,none⟩ :: rest) Q env H:=by
 subst hvs
 refine q69 rfl Y1f (AOp.call (fun S a w hc=>?_) hac) hK hX
 have hv:=hc.ev x
 rw [hx] at hv
 generalize he:a.eval x=u at hv
 cases hv with
 | @fn _ _ _ _ p' q' hp hq h1 h2 =>
  refine ⟨p'++xs.map a.eval++q',?_,(VRs.append (VRs.append ⟨hp,h1⟩ (qgf hc xs)) ⟨hq,h2⟩)⟩
  simp [execOp,resolve,he,Deferred.ofValue,invoke,q4o (P:=P) (f:=f)]
theorem q9d {x:Operand} {s d:TypeId} {e:TypeId} {bs:List UInt8} [hs:SlI P s e] [he:UdI P e (.int .u8)] [hd:UdI P d .string] (hx:aev env x = .pl (bs.map qz)):V1 P N (.convert s d x) ty env H (.str ⟨bs.toArray⟩):=by
 intro S a w hc
 have hv:=hc.ev x
 rw [hx] at hv
 generalize hxe:a.eval x=u at hv
 cases hv with
 | @pl _ _ ad c base z u hcap hb hsz hm hl hv =>
  refine ⟨.string ⟨bs.toArray⟩,fun _ _ _ _=>?_,.str⟩
  have hrun:(convert s d (.slice ad (bs.map qz).length c)).run P w = .ok (.string ⟨bs.toArray⟩) w:=by
   by_cases hne:bs=[]
   ·subst hne
    rw [run_convert_bytes_string w s d e ad _ c hs.ud he.ud hd.ud]
    cases ad with
    | none=>rfl
    | some ad =>
     exact run_bytesToString (P:=P) w ad 0 c [] (by simp [loadCells,loadCellsFrom])
   ·obtain ⟨k1,k2,k3⟩:=hb (by simpa using hne)
    subst k1
    rw [List.length_map]
    refine run_convert_bytes_back w s d e base c bs hs.ud he.ud hd.ud fun j hj=>?_
    have hr:(bs.map qz)[j]?=some (qz bs[j]):=by simp [hj]
    have hz:z=1:=by rw [← hsz j _ hr];rfl
    subst hz
    have h1:=hm j (by simpa using hj) 0 (by omega)
    have h2:=hv j 0 _ _ hr (show (qz bs[j])[0]?=some (.int .u8 (bs[j].toNat:Int)) from rfl)
    generalize u j 0=y at h1 h2
    cases h2
    simpa using h1
  simp [execOp,hxe]
  simp at hrun
  rw [hrun]
  simp
theorem qpw {x:Operand} {s d e:TypeId} {str:ByteArray} [hs:UdI P s .string] [hd:SlI P d e] [he:UdI P e (.int .u8)] (hx:aev env x = .str str):V2 P N (.convert s d x) ty env H (.pl (str.data.toList.map qz)) H:=by
 intro dst pos after guard S a w hc next Q hnext _
 have hcap:=grownCap_ge w str.size 0 e
 have hrun:∃ w',(execOp a.eval ⟨dst,.convert s d x,ty,pos,after,guard⟩).run P w = .ok (.value (.slice (some ⟨w.heap.size,0,none⟩) str.size (grownCap w str.size 0 e))) w'∧w'.os=w.os∧w'.tape=w.tape∧w'.output=w.output∧w'.heap.size=w.heap.size+1 ∧
   (∀ b,b<w.heap.size→w'.heap[b]?=w.heap[b]?)∧∀ (j:Nat) (b:UInt8),str.data.toList[j]?=some b→w'.cell? ⟨w.heap.size,j,none⟩=some (.int .u8 (b.toNat:Int)):=by
  have hr:=run_bytes_of_string (P:=P) w s d e str hs.ud hd.ud he.ud
  refine ⟨w.drew.alloc (.cells (bytesRow str (grownCap w str.size 0 e)) e ((bytesRow str (grownCap w str.size 0 e)).size,(bytesRow str (grownCap w str.size 0 e)).size+1)),by simp only [execOp,qak hc hx,Sem.run_bind,hr,Result.andThen_ok,Sem.run_pure],rfl,rfl,rfl,by simp,fun b hb=>(by first | exact heap_alloc_old w.drew _ b hb | exact heap_alloc_old w.drew _ hb),fun j b hj=>?_⟩
  have hj':str.data[j]?=some b:=by simpa using hj
  have hlt:=(Array.getElem?_eq_some_iff.1 hj').1
  have h1:=World.cell?_alloc_mark w.drew (bytesRow str (grownCap w str.size 0 e)) e ((bytesRow str (grownCap w str.size 0 e)).size,(bytesRow str (grownCap w str.size 0 e)).size+1) j
  rw [World.size_drew] at h1
  rw [h1]
  unfold bytesRow
  rw [Array.getElem?_append_left (by simpa using hlt)]
  simp [hj']
 obtain ⟨w',hr,hos,htape,hout,hsize,hold,hcell⟩:=hrun
 have hx':Ext S w S w':=⟨hos,htape,hout,⟨by omega,fun b hb ho=>⟨ho,hold b hb⟩,fun b arr ty hb=>⟨arr,by rw [hold b (Array.getElem?_eq_some_iff.1 hb).1];exact hb,rfl⟩⟩,SExt.refl S⟩
 unfold Oper.wp
 rw [hr]
 refine hnext _ _ _ _ _ ⟨rfl,rfl⟩ (q8y hc.heap hx' hold) hx' ?_
 have hlen:(str.data.toList.map qz).length=str.size:=by simp
 have hget:∀ (i:Nat) (r:List AV),(str.data.toList.map qz)[i]?=some r→∃ b,str.data.toList[i]?=some b∧r=qz b:=by
  intro i r hr
  rw [List.getElem?_map] at hr
  cases hi:str.data.toList[i]? with
  | none=>simp [hi] at hr
  | some b=>rw [hi] at hr;exact ⟨b,rfl,(Option.some.inj hr).symm⟩
 rw [← hlen]
 refine .pl ⟨w.heap.size,0,none⟩ 1 (fun i _=>.int .u8 ((str.data.toList.getD i 0).toNat:Int)) (by rw [hlen];exact hcap) (fun _=>⟨rfl,fun k=>?_,by simp [hsize]⟩) (fun i r hr=>?_) (fun i hi j hj=>?_) (fun i j r v hr hv=>?_) (fun i j r v hr hv=>?_)
 ·have:=qlc hc.heap k
  simp at this
 ·obtain ⟨b,_,rfl⟩:=hget i r hr;rfl
 ·obtain rfl:j=0:=by omega
  have hi':i<str.data.toList.length:=by simpa using hi
  have:=hcell i _ (List.getElem?_eq_getElem hi')
  rw [q3z]
  simp only [Nat.zero_add,Nat.mul_one,Nat.add_zero]
  rw [this,List.getD_eq_getElem?_getD,List.getElem?_eq_getElem hi']
  rfl
 ·obtain ⟨b,_,rfl⟩:=hget i r hr
  cases j with
  | zero=>simp [qz] at hv;subst hv;rfl
  | succ j=>simp [qz] at hv
 ·obtain ⟨b,hb,rfl⟩:=hget i r hr
  cases j with
  | zero=>simp [qz] at hv;subst hv;simp [List.getD,hb];exact .int
  | succ j=>simp [qz] at hv
theorem qa9 {t e:TypeId} [hu:SlI P t e] (a:Option Addr) (l c:Nat) (w:World):(Op.equal t (.slice a l c) (.slice none 0 0)).run P w = .ok a.isNone w:=by
 show (Op.equalIn (9999+1) t _ _).run P w=_
 rw [Op.equalIn]
 cases a<;>simp [q1a hu.ud]
theorem qa6 {t t' e:TypeId} {x y:Operand} {xs:List (List AV)} [hu:SlI P t e] (hx:aev env x = .pl xs) (hy:y = .const (.slice none 0 0)) (dst:Option Nat) (pos:String) (after:Array Edge) (guard:Option (Nat×Bool)) :
  AOp P N ⟨dst,.binOp .eql t x y t',ty,pos,after,guard⟩ env H (fun v H'=>∃ b,v = .bool b∧(xs≠[]→b=false)∧H'=H) (fun _ _=>False):=by
 intro S a w hc next Q hnext _
 subst hy
 have hv:=hc.ev x
 rw [hx] at hv
 generalize he:a.eval x=u at hv
 cases hv with
 | @pl _ _ ad c base z u hcap hb hs hm hl hv =>
  have hr:(execOp a.eval ⟨dst,.binOp .eql t x (.const (.slice none 0 0)) t',ty,pos,after,guard⟩).run P w = .ok (.value (.bool ad.isNone)) w:=by
   have hbo:binOp .eql t (.slice ad xs.length c) (.slice none 0 0)=(do pure (.bool (← Op.equal t (.slice ad xs.length c) (.slice none 0 0)))):=rfl
   have hco:a.eval (.const (.slice none 0 0)) = .slice none 0 0:=rfl
   simp [execOp,he,hco,eqGuard,hbo,qa9 (P:=P) (t:=t)]
  unfold Oper.wp
  rw [hr]
  exact hnext (.bool ad.isNone) _ H S w ⟨_,rfl,fun hne=>by rw [(hb hne).1];rfl,rfl⟩ hc.heap (Ext.refl S w) .bool
theorem qz4 {d:Option Nat} {x:Operand} {pos:String} {after:Array Edge} {t:TypeId} {v:AV} (hx:aev env x = .ifc t v) (h:Q (.pan (.ifc t v)) env H) (hd:∀ t,d=some t→t<N) :
  q61 P N B ops (⟨d,.panic x,ty,pos,after,none⟩ :: rest) Q env H:=by
 refine q69 rfl hd (K:=fun _ _=>False) (X:=fun v' H'=>v' = .ifc t v∧H'=H) ?_ (fun _ _ h=>h.elim) (by rintro _ _ ⟨rfl,rfl⟩;exact h)
 intro S a w hc next Q' _ hpan
 have hv:=hc.ev x
 rw [hx] at hv
 generalize he:a.eval x=u at hv
 cases hv with
 | @ifc _ _ _ u h =>
  have hr:(execOp a.eval ⟨d,.panic x,ty,pos,after,none⟩).run P w = .halt (.panic (.iface t u)) w:=by simp [execOp,he,Instr.panic]
  unfold Oper.wp
  rw [hr]
  exact hpan (.ifc t v) (.iface t u) H S w ⟨rfl,rfl⟩ hc.heap (Ext.refl S w) (.ifc h)
abbrev AV.pur (v:AV):Bool:=v.bel 0
theorem VR.pur {O:Nat→Prop} {w:World} {S:List Slot} {v:AV} {u:Value} (h:VR O w S v u) (hp:v.pur=true):VR O w [] v u:=by
 have:=h.take (O':=O) (n:=0) (fun _ h=>h) hp
 simpa using this
theorem CR.freeze {S:List Slot} {a:Act} {w:World} {t id off len cap:Nat} {o:AObj} {ys:List (List AV)} (h:CR N env H S a w) (k:Ext B.S B.w S w) (ht:get env t = .sl id o.gen off len cap) (hid:H[id]?=some o)
  (hys:(o.rows.drop off).take len=ys) (hlen:ys.length=len) (hp:∀ r∈ys,AV.bels 0 r=true) :
  ∃ S',CR N ((t,.pl ys) :: env) (H.set id ⟨o.gen+1,o.sz,[]⟩) S' a w∧Ext B.S B.w S' w:=by
 obtain ⟨s,hs,ok⟩:=h.heap.slot hid
 have hlt:id<S.length:=(List.getElem?_eq_some_iff.1 hs).1
 have hltH:id<H.length:=(List.getElem?_eq_some_iff.1 hid).1
 have hown:∀ b,¬ own S b→¬ own (S.set id ⟨s.gen+1,s.sz,none⟩) b:=by
  intro b hb ⟨i,si,hi,hpi⟩
  by_cases e:id=i
  ·subst e
   rw [List.getElem?_set_self hlt] at hi
   obtain rfl:=Option.some.inj hi
   cases hpi
  ·rw [List.getElem?_set_ne e] at hi
   exact hb ⟨i,si,hi,hpi⟩
 have hx:Ext S w (S.set id ⟨s.gen+1,s.sz,none⟩) w:=⟨rfl,rfl,rfl,⟨Nat.le_refl _,fun b _ ho=>⟨hown b ho,rfl⟩,fun _ arr _ h=>⟨arr,h,rfl⟩⟩,SExt.bump hs (by simp)⟩
 have hh:HRel (H.set id ⟨o.gen+1,o.sz,[]⟩) (S.set id ⟨s.gen+1,s.sz,none⟩) w:=by
  refine ⟨by simpa using h.heap.len,fun id' o' s' ho' hs'=>?_,fun i j si sj b hi hj hbi hbj=>?_⟩
  ·by_cases e:id=id'
   ·subst e
    rw [List.getElem?_set_self hlt] at hs'
    rw [List.getElem?_set_self hltH] at ho'
    obtain rfl:=Option.some.inj hs'
    obtain rfl:=Option.some.inj ho'
    exact ⟨by simp [ok.gen],ok.sz,ok.pos,fun _=>rfl,fun b hb=>by cases hb⟩
   ·rw [List.getElem?_set_ne e] at ho' hs'
    have ok':=h.heap.obj id' o' s' ho' hs'
    refine ⟨ok'.gen,ok'.sz,ok'.pos,ok'.nope,fun b hb=>?_⟩
    obtain ⟨arr,ty',h1,h2⟩:=ok'.row hb
    exact ⟨arr,ty',h1,(h2.mono hx.stp hx.slots).1,(h2.mono hx.stp hx.slots).2⟩
  ·by_cases ei:id=i
   ·subst ei
    rw [List.getElem?_set_self hlt] at hi
    obtain rfl:=Option.some.inj hi
    cases hbi
   ·by_cases ej:id=j
    ·subst ej
     rw [List.getElem?_set_self hlt] at hj
     obtain rfl:=Option.some.inj hj
     cases hbj
    ·rw [List.getElem?_set_ne ei] at hi
     rw [List.getElem?_set_ne ej] at hj
     exact h.heap.inj i j si sj b hi hj hbi hbj
 have hc:=h.step hx hh
 refine ⟨_,⟨hh,fun t'=>?_,h.size,h.defers⟩,k.trans hx⟩
 by_cases e:t=t'
 ·subst e
  rw [qt]
  have hv:=h.env t
  rw [ht] at hv
  generalize a.tmps.getD t undef=u at hv
  cases hv with
  | sl s' hs' hg h1 hsl =>
   rw [hs] at hs'
   obtain rfl:=Option.some.inj hs'
   obtain ⟨c,hc1,hc2,hsl⟩:=hsl ok.gen.symm
   have hget:∀ i r,ys[i]?=some r→o.rows[off+i]?=some r∧i<len:=by
    intro i r hr
    have hi:i<len:=by rw [← hlen];exact (List.getElem?_eq_some_iff.1 hr).1
    rw [← hys,List.getElem?_take,if_pos hi,List.getElem?_drop] at hr
    exact ⟨hr,hi⟩
   rcases hsl with ⟨h0,ad,rfl⟩ | ⟨b,arr,et,hpl,rfl,hb,hfit⟩
   ·have el:len=0:=by omega
    subst el
    have:ys=[]:=List.eq_nil_of_length_eq_zero hlen
    subst this
    exact .pl (xs:=[]) default 0 (fun _ _=>undef) (Nat.zero_le _) (fun h=>absurd rfl h) (fun _ _ h=>by simp at h) (fun _ h=>by simp at h) (fun _ _ _ _ h=>by simp at h) (fun _ _ _ _ h=>by simp at h)
   ·obtain ⟨arr',ty',h1',h2'⟩:=ok.row hpl
    rw [hb] at h1'
    injection h1' with h1'
    injection h1' with h1' h1''
    subst h1'
    have hno:¬ own (S.set id ⟨s.gen+1,s.sz,none⟩) b:=by
     rintro ⟨i,si,hi,hpi⟩
     by_cases e:id=i
     ·subst e
      rw [List.getElem?_set_self hlt] at hi
      obtain rfl:=Option.some.inj hi
      cases hpi
     ·rw [List.getElem?_set_ne e] at hi
      exact e (h.heap.inj id i s si b hs hi hpl hpi)
    rw [← hlen]
    refine .pl ⟨b,off * s.sz,none⟩ s.sz (fun i j=>arr.getD ((off+i) * s.sz+j) undef) (by omega) (fun _=>⟨rfl,hno,(Array.getElem?_eq_some_iff.1 hb).1⟩) (fun i r hr=>by rw [← ok.sz];exact (h2'.2 _ r (hget i r hr).1).1) (fun i hi j hj=>?_) (fun i j r v hr hv=>((h2'.2 _ r (hget i r hr).1).2 j v hv).1) (fun i j r v hr hv=>?_)
    ·have hlt2:(off+i) * s.sz+j<arr.size:=by
      have h3:(off+i) * s.sz+s.sz≤(off+c) * s.sz:=by rw [← Nat.succ_mul];exact Nat.mul_le_mul_right _ (by omega)
      omega
     rw [q3z,cell_of_row w b _ arr _ _ hb,show off * s.sz+(i * s.sz+j)=(off+i) * s.sz+j by rw [Nat.add_mul];omega]
     simp [hlt2]
    ·obtain ⟨hlf,u,hu,hvr⟩:=(h2'.2 _ r (hget i r hr).1).2 j v hv
     rw [ok.sz] at hu
     have:arr.getD ((off+i) * s.sz+j) undef=u:=by simp [hu]
     rw [this]
     exact (hvr.pur (AV.bels_get (hp r (List.mem_of_getElem? hr)) hv)).mono hx.stp (SExt.refl _)
 ·rw [qg _ _ e]
  exact (h.env t').ext hx
theorem qe9 {c:Code} {id off len cap:Nat} {o:AObj} {ys:List (List AV)} (t:Nat) (ht:get env t = .sl id o.gen off len cap) (hid:H[id]?=some o)
  (hys:(o.rows.drop off).take len=ys) (hlen:ys.length=len) (hp:∀ r∈ys,AV.bels 0 r=true) (h:AWp P N B c Q ((t,.pl ys) :: env) (H.set id ⟨o.gen+1,o.sz,[]⟩)):AWp P N B c Q env H:=fun _ a w hc hb =>
 let ⟨S',hc',hb'⟩:=hc.freeze hb ht hid hys hlen hp
 h S' a w hc' hb'
theorem CR.ghost {S:List Slot} {a:Act} {w:World} {t sz:Nat} (h:CR N env H S a w) (k:Ext B.S B.w S w) (ht:get env t = .nsl) (hp:0<sz) :
  ∃ S',CR N ((t,.sl H.length 0 0 0 0) :: env) (H++[⟨0,sz,[]⟩]) S' a w∧Ext B.S B.w S' w:=by
 have hx:Ext S w (S++[⟨0,sz,none⟩]) w:=by
  refine ⟨rfl,rfl,rfl,⟨Nat.le_refl _,fun b _ ho=>⟨fun k=>?_,rfl⟩,fun _ arr _ h=>⟨arr,h,rfl⟩⟩,SExt.snoc S _⟩
  rcases qoi k with k | k
  ·exact ho k
  ·cases k
 have hh:HRel (H++[⟨0,sz,[]⟩]) (S++[⟨0,sz,none⟩]) w:=h.heap.push (s:=⟨0,sz,none⟩) hx hp (fun _ _=>rfl) (fun _=>rfl) (fun b hb=>by cases hb)
 refine ⟨_,⟨hh,fun t'=>?_,h.size,h.defers⟩,k.trans hx⟩
 by_cases e:t=t'
 ·subst e
  rw [qt]
  have hv:=h.env t
  rw [ht] at hv
  generalize a.tmps.getD t undef=u at hv
  cases hv with
  | @nsl _ ad =>
   exact .sl ⟨0,sz,none⟩ (by rw [h.heap.len];exact SExt.last S _) (Nat.le_refl _) rfl fun _=>⟨0,Nat.le_refl _,Nat.le_refl _,.inl ⟨rfl,ad,rfl⟩⟩
 ·rw [qg _ _ e]
  exact (h.env t').ext hx
theorem qws {c:Code} (t sz:Nat) (ht:get env t = .nsl) (hp:0<sz) (h:AWp P N B c Q ((t,.sl H.length 0 0 0 0) :: env) (H++[⟨0,sz,[]⟩])):AWp P N B c Q env H:=fun _ a w hc hb =>
 let ⟨S',hc',hb'⟩:=hc.ghost hb ht hp
 h S' a w hc' hb'
theorem q23 {c:Code} (t:Nat) (ht:get env t = .nsl) (h:AWp P N B c Q ((t,.pl []) :: env) H):AWp P N B c Q env H:=fun S a w hc hb=>by
 refine h S a w ⟨hc.heap,fun t'=>?_,hc.size,hc.defers⟩ hb
 by_cases e:t=t'
 ·subst e
  rw [qt]
  have hv:=hc.env t
  rw [ht] at hv
  generalize a.tmps.getD t undef=u at hv
  cases hv with
  | @nsl _ ad=>exact .pl (xs:=[]) default 0 (fun _ _=>undef) (Nat.zero_le _) (fun h=>absurd rfl h) (fun _ _ h=>by simp at h) (fun _ h=>by simp at h) (fun _ _ _ _ h=>by simp at h) (fun _ _ _ _ h=>by simp at h)
 ·rw [qg _ _ e]
  exact hc.env t'
end
inductive ResV (P : Program) (env : Env) (H : qf) : ResultVar → AV → Prop where
 | tmp {t:Nat} {v:AV} (h:get env t=v):ResV P env H (.tmp t) v
 | cell1 {p t id i j sz:Nat} {o:AObj} {r:List AV} {v:AV} (ty:TyI P t false sz) (h:get env p = .pt id o.gen i j) (hid:H[id]?=some o) (hr:o.rows[i]?=some r) (hv:r[j]?=some v):ResV P env H (.cell p t) v
 | cellN {p t id i j sz:Nat} {o:AObj} {r cs:List AV} (ty:TyI P t true sz) (h:get env p = .pt id o.gen i j) (hid:H[id]?=some o) (hr:o.rows[i]?=some r) (hv:(r.drop j).take sz=cs) (hn:cs.length=sz):ResV P env H (.cell p t) (.agg cs)
inductive ResVs (P : Program) (env : Env) (H : qf) : List ResultVar → List AV → Prop where
 | nil:ResVs P env H [] []
 | cons {r:ResultVar} {rs:List ResultVar} {v:AV} {vs:List AV} (h:ResV P env H r v) (k:ResVs P env H rs vs):ResVs P env H (r :: rs) (v :: vs)
def qwp:List AV→AV
 | [v]=>v
 | vs=>.tup vs
def FitV (B:Base) (v:AV) (H M:qf):Prop:=H=M∨∃ G,H=M++G∧B.S.length≤M.length∧v.bel M.length=true∧HBel M.length M
def Ends (P:Program) (B:Base) (rs:List ResultVar) (R:AOut→qf→Prop):q6g
 | .nrm,e,H | .ret,e,H=>∃ vs M,ResVs P e H rs vs∧FitV B (qwp vs) H M∧R (.ret (qwp vs)) M
 | .pan v,_,H=>∃ M,FitV B v H M∧R (.pan v) M
 | .brk _,_,_=>False
section
variable {P : Program} {N : Nat} {B : Base} {Q : q6g} {env : Env} {H : qf}
theorem ResV.run {S:List Slot} {a:Act} {w:World} (hc:CR N env H S a w) {r:ResultVar} {v:AV} (h:ResV P env H r v):∃ u,(match r with
  | .tmp t=>pure (a.tmps.getD t undef)
  | .cell p t=>do loadVar t (← asAddr (a.tmps.getD p undef)):Sem Value).run P w = .ok u w∧VR (own S) w S v u:=by
 cases h with
 | @tmp t v h=>exact ⟨a.tmps.getD t undef,rfl,h▸hc.env t⟩
 | @cell1 p t id i j sz o r v ty h hid hr hv =>
  have h1:=qve (P:=P) (N:=N) (env:=env) (H:=H) (ty:=0) (t:=t) (x:=.tmp p) (sz:=sz) h hid hr hv
  obtain ⟨u,k1,k2⟩:=h1 S a w hc
  have k3 := k1 none "" #[] none
  obtain ⟨s,b,arr,et,hs,hp,he,hb,hrow⟩:=hc.ptr (x:=.tmp p) h hid
  refine ⟨u,?_,k2⟩
  have he':a.tmps.getD p undef = .pointer (some ⟨b,i * o.sz+j,none⟩):=he
  simp only [execOp,he,Instr.loadAt,Instr.sureAddr,Sem.run_bind,Sem.run_pure,Result.andThen_ok] at k3
  simp only [he',asAddr,Sem.run_bind,Sem.run_pure,Result.andThen_ok]
  cases hq:(loadVar t ⟨b,i * o.sz+j,none⟩).run P w with
  | ok x w' =>
   rw [hq] at k3
   simp only [Result.andThen_ok,Result.ok.injEq,Next.value.injEq] at k3
   rw [k3.1,k3.2]
  | halt x w'=>rw [hq] at k3;cases k3
 | @cellN p t id i j sz o r cs ty h hid hr hv hn =>
  have h1:=qn1 (P:=P) (N:=N) (env:=env) (H:=H) (ty:=0) (t:=t) (x:=.tmp p) (sz:=sz) h hid hr hv hn
  obtain ⟨u,k1,k2⟩:=h1 S a w hc
  have k3 := k1 none "" #[] none
  obtain ⟨s,b,arr,et,hs,hp,he,hb,hrow⟩:=hc.ptr (x:=.tmp p) h hid
  refine ⟨u,?_,k2⟩
  have he':a.tmps.getD p undef = .pointer (some ⟨b,i * o.sz+j,none⟩):=he
  simp only [execOp,he,Instr.loadAt,Instr.sureAddr,Sem.run_bind,Sem.run_pure,Result.andThen_ok] at k3
  simp only [he',asAddr,Sem.run_bind,Sem.run_pure,Result.andThen_ok]
  cases hq:(loadVar t ⟨b,i * o.sz+j,none⟩).run P w with
  | ok x w' =>
   rw [hq] at k3
   simp only [Result.andThen_ok,Result.ok.injEq,Next.value.injEq] at k3
   rw [k3.1,k3.2]
  | halt x w'=>rw [hq] at k3;cases k3
theorem q7g {S:List Slot} {a:Act} {w:World} (hc:CR N env H S a w) {fn:Func} {rs:List ResultVar} {vs:List AV} (hr:fn.results=rs.toArray) (h:ResVs P env H rs vs):∃ u,(results fn a.tmps).run P w = .ok u w∧VR (own S) w S (qwp vs) u:=by
 have key:∀ (f:ResultVar→Sem Value),(∀ r,f r=(match r with
  | .tmp t=>pure (a.tmps.getD t undef)
  | .cell p t=>do loadVar t (← asAddr (a.tmps.getD p undef)):Sem Value))→∀ (rs:List ResultVar) (vs:List AV),ResVs P env H rs vs→∃ us:List Value,(rs.mapM f).run P w = .ok us w∧us.length=vs.length∧∀ (j:Nat) (v:AV) (u:Value),vs[j]?=some v→us[j]?=some u→VR (own S) w S v u:=by
  intro f hf rs
  induction rs with
  | nil=>intro vs h;cases h;exact ⟨[],by simp,rfl,fun _ _ _ h=>by simp at h⟩
  | cons r rs ih =>
   intro vs h
   cases h with
   | cons h k =>
    obtain ⟨u,h1,h2⟩:=h.run hc
    obtain ⟨us,k1,k2,k3⟩:=ih _ k
    refine ⟨u :: us,?_,by simp [k2],fun j v x hv hx=>?_⟩
    ·rw [List.mapM_cons,hf]
     simp only [Sem.run_bind,h1,k1,Result.andThen_ok,Sem.run_pure]
    ·cases j with
     | zero=>simp at hv hx;subst hv;subst hx;exact h2
     | succ j=>exact k3 j v x (by simpa using hv) (by simpa using hx)
 unfold results
 rw [hr]
 simp only [List.mapM_toArray,Sem.run_bind,Sem.run_map]
 obtain ⟨us,k1,k2,k3⟩:=key (fun r=>match r with
  | .tmp t=>pure (a.tmps.getD t undef)
  | .cell p t=>do loadVar t (← asAddr (a.tmps.getD p undef))) (fun _=>rfl) rs vs h
 erw [k1]
 simp only [Result.andThen_ok,Sem.run_pure]
 match vs,us,k2,k3 with
 | [],[],_,_=>exact ⟨_,rfl,.tup rfl fun _ _ _ h=>by simp at h⟩
 | [v],[u],_,k3=>exact ⟨_,rfl,k3 0 v u rfl rfl⟩
 | v :: v' :: vs,u :: u' :: us,k2,k3 =>
  refine ⟨.tuple (u :: u' :: us).toArray,by simp,.tup (by simp at k2;simp [k2]) fun j x y hx hy=>k3 j x y hx (by simpa using hy)⟩
theorem FitV.ok {S:List Slot} {w:World} {v:AV} {u:Value} {M:qf} (hh:HRel H S w) (hv:VR (own S) w S v u) (k:Ext B.S B.w S w) (hf:FitV B v H M):∃ S',HRel M S' w∧VR (own S') w S' v u∧Ext B.S B.w S' w:=by
 rcases hf with rfl | ⟨G,rfl,hn,hb,hm⟩
 ·exact ⟨S,hh,hv,k⟩
 ·have ht:(M++G).take M.length=M:=by simp
  have:=hh.take (n:=M.length) (by rw [ht];exact hm)
  rw [ht] at this
  exact ⟨S.take M.length,this,hv.take (fun b h k=>h (qdk k)) hb,k.take hn⟩
theorem AC.body {f:FuncId} {N:Nat} {fn:Func} {c:Code} {args:List AV} {R:AOut→qf→Prop} (rs:List ResultVar) (hf:P.funcs[f]?=some fn) (hb:fn.body=some c) (hr:fn.results=rs.toArray)
  (hN:fn.ntmps=N) (hn:args.length≤N) (h:∀ B,Begun B H args→AWp P N B c (Ends P B rs R) (params 0 args) (H++[])):AC P f args H R:=by
 subst hN
 simp only [List.append_nil] at h
 intro S w cargs hH hv
 refine calls_of_wp hf hb ?_
 have hc:CR fn.ntmps (params 0 args) H S { tmps:=cargs++Array.replicate (fn.ntmps-cargs.size) undef,defers:=[] } w:=by
  refine ⟨hH,fun t=>?_,?_,rfl⟩
  ·rw [qc9,if_pos (Nat.zero_le _),Nat.sub_zero]
   by_cases ht:t<args.length
   ·have h1:args.getD t .junk=args[t]:=by simp [List.getD,ht]
    have ht':t<cargs.size:=by rw [← hv.1];exact ht
    have h2:(cargs++Array.replicate (fn.ntmps-cargs.size) undef).getD t undef=cargs[t]:=by
     simp [Array.getElem?_append_left ht',ht']
    rw [h1,h2]
    exact hv.2 t _ _ (List.getElem?_eq_getElem ht) (Array.getElem?_eq_getElem ht')
   ·have h1:args.getD t .junk = .junk:=by simp [List.getD,List.getElem?_eq_none (Nat.le_of_not_lt ht)]
    rw [h1];exact .junk
  ·have:=hv.1
   simp
   omega
 have hbg:Begun ⟨S,w⟩ H args:=by
  refine ⟨hH.len.symm,hH.bel,?_⟩
  rw [AV.bels_iff]
  intro v hv'
  obtain ⟨j,hj⟩:=List.mem_iff_getElem?.1 hv'
  rw [hH.len]
  exact (hv.2 j v _ hj (Array.getElem?_eq_getElem Yn)).bel
 refine wp_mono (h ⟨S,w⟩ hbg S _ w hc (Ext.refl S w)) ?_
 intro e a' w' ⟨x,env',H',S',q,r,c,k⟩
 cases r with
 | nrm =>
  obtain ⟨vs,M,h1,h2,h3⟩:=q
  obtain ⟨u,k1,k2⟩:=q7g c hr h1
  obtain ⟨S2,m1,m2,m3⟩:=h2.ok c.heap k2 k
  exact ⟨c.defers,u,k1,_,M,S2,h3,.ret m2,m1,m3⟩
 | ret =>
  obtain ⟨vs,M,h1,h2,h3⟩:=q
  obtain ⟨u,k1,k2⟩:=q7g c hr h1
  obtain ⟨S2,m1,m2,m3⟩:=h2.ok c.heap k2 k
  exact ⟨c.defers,u,k1,_,M,S2,h3,.ret m2,m1,m3⟩
 | brk=>exact q.elim
 | pan hv =>
  obtain ⟨M,h2,h3⟩:=q
  obtain ⟨S2,m1,m2,m3⟩:=h2.ok c.heap hv k
  exact ⟨c.defers,_,M,S2,h3,.pan m2,m1,m3⟩
def Ret (v:AV) (M:qf):AOut→qf→Prop:=fun o H'=>o = .ret v∧H'=M
theorem Ends.done {rs:List ResultVar} {vs:List AV} {v:AV} {M G:qf} (h:ResVs P env H rs vs) (hv:qwp vs=v) (hH:H=M++G) (hM:B.S.length≤M.length) (hb:v.bel M.length=true) (hm:HBel M.length M):Ends P B rs (Ret v M) .ret env H :=
 ⟨vs,M,h,.inr ⟨G,hH,hM,hv▸hb,hm⟩,by rw [hv],rfl⟩
end
def Lid (n k:Nat):Nat:=n+k
theorem lk {H0 L:qf} {n k:Nat} {o:AObj} (hn:H0.length=n) (h:L[k]?=some o):(H0++L)[Lid n k]?=some o:=by
 unfold Lid
 rw [List.getElem?_append_right (by omega),← hn]
 simpa using h
theorem lkF {H0 L:qf} {id:Nat} {o:AObj} (h:H0[id]?=some o):(H0++L)[id]?=some o:=by
 rw [List.getElem?_append_left (List.getElem?_eq_some_iff.1 h).1]
 exact h
theorem st {H0 L:qf} {n k:Nat} {o:AObj} (hn:H0.length=n):(H0++L).set (Lid n k) o=H0++L.set k o:=by
 unfold Lid
 rw [List.set_append_right _ _ (by omega),← hn]
 simp
theorem stF {H0 L:qf} {id:Nat} {o o':AObj} (h:H0[id]?=some o):(H0++L).set id o'=H0.set id o'++L :=
 List.set_append_left _ _ (List.getElem?_eq_some_iff.1 h).1
section
variable {P : Program} {N : Nat} {B : Base} {Q R : q6g} {K : Env → qf → Prop} {env : Env} {H H0 L : qf} {ty : TypeId} {ops : Array Oper} {rest : List Oper} {pos : String} {after : Array Edge}
theorem q5u (h:K env H):AX.andThen K Q .nrm env H:=h
theorem q7s {i:Nat} (h:Q (.brk i) env H):AX.andThen K Q (.brk i) env H:=h
theorem q7w (h:Q .ret env H):AX.andThen K Q .ret env H:=h
theorem q4u {v:AV} (h:Q (.pan v) env H):AX.andThen K Q (.pan v) env H:=h
theorem q9t {id:Nat} (h:Q .nrm env H):AX.inBlock id Q .nrm env H:=h
theorem qaa {id:Nat} (h:Q .nrm env H):AX.inBlock id Q (.brk id) env H:=by simpa [AX.inBlock] using h
theorem q7v {id i:Nat} (hne:(i == id)=false) (h:Q (.brk i) env H):AX.inBlock id Q (.brk i) env H:=by
 have:¬ i=id:=by simpa using hne
 simpa [AX.inBlock,this] using h
theorem q9y {id:Nat} (h:Q .ret env H):AX.inBlock id Q .ret env H:=h
theorem qij {id:Nat} {v:AV} (h:Q (.pan v) env H):AX.inBlock id Q (.pan v) env H:=h
theorem qku {id : Nat} {l : List Oper} (E : Env) (M : qf) (h : q61 P N B l.toArray l (fun x e H' => x = .nrm ∧ Sub E e ∧ Fit B E H' M) env H) (k : Q .nrm E M) : AWp P N B (.region id l.toArray false) Q env H := by
  refine q18 (fun S a w hc hb => ?_)
  have key : ∀ (l' : List Oper) (a : Act) (w : World), wpList P l.toArray (Lift N (fun x e H' => x = .nrm ∧ Sub E e ∧ Fit B E H' M) B) l' a w → wpList P l.toArray (Lift N Q B) l' a w := by
    have base : ∀ e a' w', Lift N (fun x e H' => x = .nrm ∧ Sub E e ∧ Fit B E H' M) B e a' w' → Lift N Q B e a' w' := by
      rintro e a' w' ⟨x, env', H', S', ⟨rfl, hs, hf⟩, r, c, k'⟩
      cases r
      obtain ⟨S2, c2, k2⟩ := (c.sub hs).fit k' hf
      exact ⟨.nrm, E, M, S2, k, .nrm, c2, k2⟩
    intro l'
    induction l' with
    | nil => intro a w h; exact base _ _ _ h
    | cons o l' ih =>
      intro a w1 h
      unfold wpList at h ⊢
      split
      · rename_i hw
        rw [if_pos hw] at h
        rcases h with h | ⟨hasks, a0, w0, hq⟩
        · left
          unfold Oper.wp at h ⊢
          generalize (execOp a.eval o).run P w1 = r at *
          cases r with
          | ok n w' =>
            cases n <;> simp only [Oper.upon] at h ⊢ <;> first
              | exact ih _ _ h
              | exact h
              | exact Rows.mono h fun _ _ h => ih _ _ h
              | exact Calls.mono h fun e w'' he => by
                  cases e with
                  | returned v => exact ih _ _ he
                  | panicked ch => exact base _ _ _ he
                  | outgrown => obtain ⟨a0, w0, hq⟩ := he; exact ⟨a0, w0, base _ _ _ hq⟩
          | halt x w' => cases x <;> simp only [Oper.upon] at h ⊢ <;> (exact base _ _ _ h)
        · exact .inr ⟨hasks, a0, w0, base _ _ _ hq⟩
      · rename_i hw
        rw [if_neg hw] at h
        exact ih _ _ h
  exact key l a w (h S a w hc hb)
theorem q3y {t:TypeId} {sz k:Nat} {zs:List AV} [hz:ZcI P t zs] (hn:zs.length=sz) (hp:0<sz) (hk:L.length=k):V2 P N (.alloc t) ty env (H0++L) (.pt (Lid H0.length k) 0 0 0) (H0++(L++[⟨0,sz,[zs]⟩])):=by
 have:=q110 (P:=P) (N:=N) (env:=env) (H:=H0++L) (ty:=ty) (t:=t) (zs:=zs) hn hp
 rwa [List.length_append,hk,List.append_assoc] at this
theorem q8z {t:TypeId} {x:Operand} {v:AV} {sz k:Nat} {cs:List AV} (hx:aev env x=v) (hv:v.cellish=true) (hcs:v.cells=cs) (hn:cs.length=sz) (hp:0<sz) (hk:L.length=k):V2 P N (.box t x) ty env (H0++L) (.pt (Lid H0.length k) 0 0 0) (H0++(L++[⟨0,sz,[cs]⟩])):=by
 have:=q143 (P:=P) (N:=N) (env:=env) (H:=H0++L) (ty:=ty) (t:=t) hx hv hcs hn hp
 rwa [List.length_append,hk,List.append_assoc] at this
theorem qxc {t:TypeId} {x y:Operand} {n k i j sz:Nat} {agg:Bool} {o:AObj} {r:List AV} {v:AV} [TyI P t agg sz] (hx:aev env x = .pt (Lid n k) o.gen i j) (hn:H0.length=n) (hk:L[k]?=some o) (hr:o.rows[i]?=some r)
  (hy:aev env y=v) (hc:v.cellish=true) (hl:v.cells.length=sz) (hj:j+sz≤o.sz) :
  V2 P N (.store t x y) ty env (H0++L) .junk (H0++L.set k { o with rows:=o.rows.set i (r.take j++v.cells++r.drop (j+sz)) }):=by
 have:=qlo (P:=P) (N:=N) (env:=env) (H:=H0++L) (ty:=ty) (t:=t) hx (lk hn hk) hr hy hc hl hj
 rwa [st hn] at this
theorem qyp {t:TypeId} {x y:Operand} {id i j sz:Nat} {agg:Bool} {o:AObj} {r:List AV} {v:AV} [TyI P t agg sz] (hx:aev env x = .pt id o.gen i j) (hid:H0[id]?=some o) (hr:o.rows[i]?=some r)
  (hy:aev env y=v) (hc:v.cellish=true) (hl:v.cells.length=sz) (hj:j+sz≤o.sz) :
  V2 P N (.store t x y) ty env (H0++L) .junk (H0.set id { o with rows:=o.rows.set i (r.take j++v.cells++r.drop (j+sz)) }++L):=by
 have:=qlo (P:=P) (N:=N) (env:=env) (H:=H0++L) (ty:=ty) (t:=t) hx (lkF hid) hr hy hc hl hj
 rwa [stF hid] at this
theorem q7t {t e:TypeId} {n sz k:Nat} {parts:Array (Nat×Operand)} {agg:Bool} {zs cs:List AV} {rows:List (List AV)} [hu:SlI P t e] [TyI P e agg sz] [hz:ZcI P e zs] (hn:zs.length=sz) (hp:0<sz) (h0:0<n) (hbig:n * sz≤16777216)
  (hf:q81 ((List.range n).map fun i=>(i * sz,sz)) (List.replicate n zs).flatten (parts.toList.map fun (i,x)=>(i,aev env x))=some cs) (hrows:rows.flatten=cs) (hw:∀ r∈rows,r.length=sz) (hk:L.length=k) :
  V2 P N (.buildSlice t n parts) ty env (H0++L) (.sl (Lid H0.length k) 0 0 n n) (H0++(L++[⟨0,sz,rows⟩])):=by
 have:=qjq (P:=P) (N:=N) (env:=env) (H:=H0++L) (ty:=ty) (t:=t) (e:=e) (agg:=agg) (zs:=zs) hn hp h0 hbig hf hrows hw
 rwa [List.length_append,hk,List.append_assoc] at this
theorem q2c {t e:TypeId} {sz k:Nat} {x:Operand} {v:AV} {agg:Bool} {zs cs:List AV} [hu:SlI P t e] [TyI P e agg sz] [hz:ZcI P e zs] (hn:zs.length=sz) (hp:0<sz) (hbig:sz≤16777216) (hx:aev env x=v) (hv:v.cellish=true) (hcs:v.cells=cs) (hl:cs.length=sz) (hk:L.length=k) :
  V2 P N (.buildSlice t 1 #[(0,x)]) ty env (H0++L) (.sl (Lid H0.length k) 0 0 1 1) (H0++(L++[⟨0,sz,[cs]⟩])):=by
 subst hcs
 subst hx
 refine q7t (cs:=(aev env x).cells) (zs:=zs) (agg:=agg) (e:=e) hn hp (by omega) (by omega) ?_ (by simp) (by simpa using hl) hk
 have h1:(aev env x).cells.length=sz∧0+sz≤((List.replicate 1 zs).flatten).length∧(aev env x).cellish=true:=⟨hl,by simp [hn],hv⟩
 simp only [q81,List.map_cons,List.map_nil,List.range_succ,List.range_zero,List.nil_append,List.getElem?_cons_zero,Nat.zero_mul]
 rw [if_pos h1]
 simp [hn]
theorem q40 {t e:TypeId} {x y:Operand} {k k':IntKind} {n c sz bytes m:Nat} {agg:Bool} {zs:List AV} [hu:SlI P t e] [TyI P e agg sz] [hz:ZcI P e zs] [hby:ByI P e bytes] (hn:zs.length=sz) (hp:0<sz)
  (hx:aev env x = .int k (n:Int)) (hy:aev env y = .int k' (c:Int)) (hnc:n≤c) (hb:bytes * c≤281474976710656) (h63:(c:Int)≤9223372036854775807) (hm:L.length=m) :
  V2 P N (.makeSlice t x y) ty env (H0++L) (.sl (Lid H0.length m) 0 0 n c) (H0++(L++[⟨0,sz,List.replicate c zs⟩])):=by
 have:=qmu (P:=P) (N:=N) (env:=env) (H:=H0++L) (ty:=ty) (t:=t) (e:=e) (agg:=agg) (zs:=zs) (bytes:=bytes) hn hp hx hy hnc hb h63
 rwa [List.length_append,hm,List.append_assoc] at this
theorem qi7 {t t' e:TypeId} {x y:Operand} {sz bytes k:Nat} {agg:Bool} {zs:List AV} {ys:List (List AV)} [hu:SlI P t e] [NiI P t'] [TyI P e agg sz] [hz:ZcI P e zs] [ByI P e bytes] (hn:zs.length=sz) (hp:0<sz)
  (hx:aev env x = .nsl) (hy:Src P N env (H0++L) y sz ys) (hne:0<ys.length) (h63:ys.length≤9223372036854775807) (hb:ys.length * bytes≤140737488355328) (hk:L.length=k) :
  V2 P N (.call { callee:=.builtin .append,args:=#[x,y],argTypes:=#[t,t'] }) ty env (H0++L) (.sl (Lid H0.length k) 0 0 ys.length ys.length) (H0++(L++[⟨0,sz,ys⟩])):=by
 have:=qkq (P:=P) (N:=N) (env:=env) (H:=H0++L) (ty:=ty) (t:=t) (t':=t') (e:=e) (agg:=agg) (zs:=zs) (bytes:=bytes) hn hp hx hy hne h63 hb
 rwa [List.length_append,hk,List.append_assoc] at this
theorem qud {t t' e:TypeId} {x y:Operand} {n k len cap sz bytes:Nat} {agg:Bool} {zs:List AV} {o:AObj} {ys:List (List AV)} [hu:SlI P t e] [NiI P t'] [TyI P e agg sz] [hz:ZcI P e zs] [ByI P e bytes] (hz':zs.length=sz)
  (hx:aev env x = .sl (Lid n k) o.gen 0 len cap) (hn:H0.length=n) (hk:L[k]?=some o) (hsz:o.sz=sz) (hlen:len≤o.rows.length) (hy:Src P N env (H0++L) y sz ys) (hne:0<ys.length) (h63:len+ys.length≤9223372036854775807) (hb:(len+ys.length) * bytes≤140737488355328) :
  V2 P N (.call { callee:=.builtin .append,args:=#[x,y],argTypes:=#[t,t'] }) ty env (H0++L) (.sl (Lid n k) (o.gen+1) 0 (len+ys.length) (len+ys.length)) (H0++L.set k ⟨o.gen+1,o.sz,o.rows.take len++ys⟩):=by
 have:=qxa (P:=P) (N:=N) (env:=env) (H:=H0++L) (ty:=ty) (t:=t) (t':=t') (e:=e) (agg:=agg) (zs:=zs) (bytes:=bytes) hz' hx (lk hn hk) hsz hlen hy hne h63 hb
 rwa [st hn] at this
theorem Src.slL {x:Operand} {n k off len cap sz:Nat} {o:AObj} {ys:List (List AV)} (hx:aev env x = .sl (Lid n k) o.gen off len cap) (hn:H0.length=n) (hk:L[k]?=some o) (hsz:o.sz=sz) (hys:(o.rows.drop off).take len=ys) (hlen:ys.length=len):Src P N env (H0++L) x sz ys:=Src.sl hx (lk hn hk) hsz hys hlen
theorem qu {d f:Nat} {xs:Array Operand} {ts:Array TypeId} {v:AV} {vs:List AV} {M:qf} [FnI P f] (hac:AC P f vs H (Ret v M)) (hvs:xs.toList.map (aev env)=vs) (hd:d<N)
  (h:q61 P N B ops rest Q ((d,v) :: env) M):q61 P N B ops (⟨some d,.call { callee:=.value (.func f),args:=xs,argTypes:=ts },ty,pos,after,none⟩ :: rest) Q env H :=
 qfc hvs hd hac (by rintro v' H' ⟨e,rfl⟩;injection e with e;subst e;exact h) (by rintro v' H' ⟨e,_⟩;cases e)
theorem qie {d f:Nat} {x:Operand} {xs:Array Operand} {ts:Array TypeId} {v:AV} {ps qs vs:List AV} {M:qf} [FnI P f] (hac:AC P f vs H (Ret v M)) (hx:aev env x = .fn (.func f) ps qs) (hvs:ps++xs.toList.map (aev env)++qs=vs) (hd:d<N)
  (h:q61 P N B ops rest Q ((d,v) :: env) M):q61 P N B ops (⟨some d,.call { callee:=.value x,args:=xs,argTypes:=ts },ty,pos,after,none⟩ :: rest) Q env H :=
 qir hx hvs hd hac (by rintro v' H' ⟨e,rfl⟩;injection e with e;subst e;exact h) (by rintro v' H' ⟨e,_⟩;cases e)
theorem V2.call {f:Nat} {xs:Array Operand} {ts:Array TypeId} {v:AV} {vs:List AV} {M:qf} [FnI P f] (hac:AC P f vs H (Ret v M)) (hvs:xs.toList.map (aev env)=vs) :
  V2 P N (.call { callee:=.value (.func f),args:=xs,argTypes:=ts }) ty env H v M:=by
 subst hvs
 intro dst pos after guard S a w hc next Q hn hp
 refine AOp.call (P:=P) (N:=N) (o:=⟨dst,.call { callee:=.value (.func f),args:=xs,argTypes:=ts },ty,pos,after,guard⟩) (f:=f) (fun S a w hc=>⟨xs.map a.eval,?_,qgf hc xs⟩) hac S a w hc next Q ?_ ?_
 ·simp [execOp,resolve,Act.eval,Deferred.ofValue,invoke,q4o (P:=P) (f:=f)]
 ·rintro v' u H' S' w' ⟨e,rfl⟩
  injection e with e
  subst e
  exact hn _ u _ S' w' ⟨rfl,rfl⟩
 ·rintro v' u H' S' w' ⟨e,_⟩
  cases e
theorem qc {n:Int} (h1:-9223372036854775808≤n) (h2:n≤9223372036854775807):IntKind.i64.wrap n=n:=by rw [IntKind.wrap_i64];omega
end
section
variable {P : Program} {N : Nat} {B : Base} {Q R : q6g} {K : Env → qf → Prop} {env : Env} {H H0 L : qf} {ty : TypeId} {ops : Array Oper} {rest : List Oper} {op : Op} {pos : String} {after : Array Edge}
theorem qy {x:Operand} {id g i j:Nat} {o:AObj} (hx:aev env x = .pt id g i j) (hid:H[id]?=some o) (hg:o.gen=g):V1 P N (.nilCheck x) ty env H (.pt id g i j):=by subst hg;exact qqx hx hid
theorem qh {t:TypeId} {x:Operand} {id g i j sz:Nat} {o:AObj} {r:List AV} {v:AV} [TyI P t false sz] (hx:aev env x = .pt id g i j) (hid:H[id]?=some o) (hg:o.gen=g) (hr:o.rows[i]?=some r) (hv:r[j]?=some v):V1 P N (.load t x) ty env H v:=by subst hg;exact qve hx hid hr hv
theorem q7q {t:TypeId} {x:Operand} {id g i j sz:Nat} {o:AObj} {r cs:List AV} [TyI P t true sz] (hx:aev env x = .pt id g i j) (hid:H[id]?=some o) (hg:o.gen=g) (hr:o.rows[i]?=some r) (hv:(r.drop j).take sz=cs) (hn:cs.length=sz):V1 P N (.load t x) ty env H (.agg cs):=by subst hg;exact qn1 hx hid hr hv hn
theorem q1q {t:TypeId} {x:Operand} {id g i sz:Nat} {o:AObj} {r:List AV} [TyI P t true sz] (hx:aev env x = .pt id g i 0) (hid:H[id]?=some o) (hg:o.gen=g) (hr:o.rows[i]?=some r) (hn:r.length=sz):V1 P N (.load t x) ty env H (.agg r):=by
 subst hg;exact qn1 hx hid hr Ys hn
theorem q94 {t:TypeId} {x:Operand} {i sz:Nat} {xs:List (List AV)} {r:List AV} [TyI P t true sz] (hx:aev env x = .pp xs i 0) (hr:xs[i]?=some r) (hn:r.length=sz):V1 P N (.load t x) ty env H (.agg r) :=
 qy9 hx hr Ys hn
theorem qd {s ft:TypeId} {x:Operand} {f off id g i j sz:Nat} {agg:Bool} {o:AObj} [FldI P s f off ft] [TyI P ft agg sz] (hx:aev env x = .pt id g i j) (hid:H[id]?=some o) (hg:o.gen=g) (h0:sz≠0):V1 P N (.fieldAddr s x f) ty env H (.pt id g i (j+off)):=by subst hg;exact qnk (agg:=agg) (ft:=ft) h0 hx hid
theorem q4m {s ft:TypeId} {x:Operand} {f off i j sz:Nat} {agg:Bool} {xs:List (List AV)} [FldI P s f off ft] [TyI P ft agg sz] (hx:aev env x = .pp xs i j) (h0:sz≠0):V1 P N (.fieldAddr s x f) ty env H (.pp xs i (j+off)):=qlm (agg:=agg) (ft:=ft) h0 hx
theorem qf4 {t e:TypeId} {x y:Operand} {id g off len cap:Nat} {k:IntKind} {n:Int} {sz:Nat} {agg:Bool} {o:AObj} [SlI P t e] [TyI P e agg sz] (hx:aev env x = .sl id g off len cap) (hid:H[id]?=some o) (hg:o.gen=g) (hsz:o.sz=sz)
  (hy:aev env y = .int k n) (h0:0≤n) (h1:n<len):V1 P N (.indexAddr t x y) ty env H (.pt id g (off+n.toNat) 0):=by subst hg;exact qdz (agg:=agg) (e:=e) hx hid hsz hy h0 h1
theorem q12 {t e:TypeId} {x y:Operand} {id g off len cap:Nat} {k:IntKind} {n:Nat} {sz:Nat} {agg:Bool} {o:AObj} [SlI P t e] [TyI P e agg sz] (hx:aev env x = .sl id g off len cap) (hid:H[id]?=some o) (hg:o.gen=g) (hsz:o.sz=sz)
  (hy:aev env y = .int k (n:Int)) (h1:n<len):V1 P N (.indexAddr t x y) ty env H (.pt id g (off+n) 0):=by subst hg;exact qdz (agg:=agg) (e:=e) hx hid hsz hy (by omega) (by omega)
theorem q4n {t e:TypeId} {x y:Operand} {xs:List (List AV)} {k:IntKind} {n:Int} {sz:Nat} {agg:Bool} {r:List AV} [SlI P t e] [TyI P e agg sz] (hx:aev env x = .pl xs)
  (hy:aev env y = .int k n) (h0:0≤n) (hr:xs[n.toNat]?=some r) (hsz:r.length=sz):V1 P N (.indexAddr t x y) ty env H (.pp xs n.toNat 0):=qcu (agg:=agg) (e:=e) hx hy h0 hr hsz
theorem q16 {t e:TypeId} {x y:Operand} {xs:List (List AV)} {k:IntKind} {n:Nat} {sz:Nat} {agg:Bool} {r:List AV} [SlI P t e] [TyI P e agg sz] (hx:aev env x = .pl xs)
  (hy:aev env y = .int k (n:Int)) (hr:xs[n]?=some r) (hsz:r.length=sz):V1 P N (.indexAddr t x y) ty env H (.pp xs n 0):=qcu (agg:=agg) (e:=e) hx hy (by omega) hr hsz
theorem q66 {t e:TypeId} {x y:Operand} {id g i j m:Nat} {k:IntKind} {n:Int} {sz:Nat} {agg:Bool} {o:AObj} [ArI P t m e] [TyI P e agg sz] (hx:aev env x = .pt id g i j) (hid:H[id]?=some o) (hg:o.gen=g)
  (hy:aev env y = .int k n) (h0:0≤n) (h1:n<m):V1 P N (.indexAddr t x y) ty env H (.pt id g i (j+n.toNat * sz)):=by subst hg;exact qq3 (agg:=agg) (e:=e) hx hid hy h0 h1
theorem qex {x:Operand} {t e:TypeId} {id g off len cap:Nat} {o:AObj} [hu:SlI P t e] (hx:aev env x = .sl id g off len cap) (hid:H[id]?=some o) (hg:o.gen=g):V1 P N (.call { callee:=.builtin .len,args:=#[x],argTypes:=#[t] }) ty env H (.int .i64 (len:Int)):=by subst hg;exact q137 (e:=e) hx hid
theorem q59 {t e:TypeId} {x:Operand} {lo hi:Option Operand} {id g off len cap l h sz:Nat} {agg:Bool} {o:AObj} [hu:SlI P t e] [TyI P e agg sz] (hx:aev env x = .sl id g off len cap) (hid:H[id]?=some o) (hg:o.gen=g) (hsz:o.sz=sz) (hl:Bd env lo 0 l) (hh:Bd env hi len h) (h1:l≤h) (h2:h≤max len cap) :
  V1 P N (.slice t x lo hi Option.none) ty env H (.sl id g (off+l) (h-l) (cap-l)):=by subst hg;exact qzi (agg:=agg) (e:=e) hx hid hsz hl hh h1 h2
theorem q118 {t:TypeId} {x y:Operand} {n k g i j sz:Nat} {agg:Bool} {o:AObj} {r:List AV} {v:AV} [TyI P t agg sz] (hx:aev env x = .pt (Lid n k) g i j) (hn:H0.length=n) (hk:L[k]?=some o) (hg:o.gen=g) (hr:o.rows[i]?=some r)
  (hy:aev env y=v) (hc:v.cellish=true) (hl:v.cells.length=sz) (hj:j+sz≤o.sz) :
  V2 P N (.store t x y) ty env (H0++L) .junk (H0++L.set k { o with rows:=o.rows.set i (r.take j++v.cells++r.drop (j+sz)) }):=by subst hg;exact qxc (agg:=agg) hx hn hk hr hy hc hl hj
theorem q1k {t:TypeId} {x y:Operand} {n k g i j sz:Nat} {agg:Bool} {o:AObj} {r r':List AV} {v:AV} [TyI P t agg sz] (hx:aev env x = .pt (Lid n k) g i j) (hn:H0.length=n) (hk:L[k]?=some o) (hg:o.gen=g) (hr:o.rows[i]?=some r)
  (hy:aev env y=v) (hc:v.cellish=true) (hl:v.cells.length=sz) (hj:j+sz≤o.sz) (hr':r.take j++v.cells++r.drop (j+sz)=r') :
  V2 P N (.store t x y) ty env (H0++L) .junk (H0++L.set k { o with rows:=o.rows.set i r' }):=by subst hr';exact q118 (agg:=agg) hx hn hk hg hr hy hc hl hj
theorem q1b {t:TypeId} {x y:Operand} {id g i j sz:Nat} {agg:Bool} {o:AObj} {r r':List AV} {v:AV} [TyI P t agg sz] (hx:aev env x = .pt id g i j) (hid:H0[id]?=some o) (hg:o.gen=g) (hr:o.rows[i]?=some r)
  (hy:aev env y=v) (hc:v.cellish=true) (hl:v.cells.length=sz) (hj:j+sz≤o.sz) (hr':r.take j++v.cells++r.drop (j+sz)=r') :
  V2 P N (.store t x y) ty env (H0++L) .junk (H0.set id { o with rows:=o.rows.set i r' }++L):=by
 subst hr';subst hg;exact qyp (agg:=agg) hx hid hr hy hc hl hj
theorem q47 {t t' e:TypeId} {x y:Operand} {n k g len cap sz bytes:Nat} {agg:Bool} {zs:List AV} {o:AObj} {ys:List (List AV)} [hu:SlI P t e] [NiI P t'] [TyI P e agg sz] [hz:ZcI P e zs] [ByI P e bytes]
  (hx:aev env x = .sl (Lid n k) g 0 len cap) (hn:H0.length=n) (hk:L[k]?=some o) (hg:o.gen=g) (hsz:o.sz=sz) (hy:Src P N env (H0++L) y sz ys) (hz':zs.length=sz) (hlen:len≤o.rows.length) (hne:0<ys.length) (h63:len+ys.length≤9223372036854775807) (hb:(len+ys.length) * bytes≤140737488355328) :
  V2 P N (.call { callee:=.builtin .append,args:=#[x,y],argTypes:=#[t,t'] }) ty env (H0++L) (.sl (Lid n k) (g+1) 0 (len+ys.length) (len+ys.length)) (H0++L.set k ⟨g+1,o.sz,o.rows.take len++ys⟩):=by subst hg;exact qud (agg:=agg) (e:=e) hz' hx hn hk hsz hlen hy hne h63 hb
theorem qv8 {x:Operand} {n k g len cap sz:Nat} {o:AObj} (hx:aev env x = .sl (Lid n k) g 0 len cap) (hn:H0.length=n) (hk:L[k]?=some o) (hg:o.gen=g) (hsz:o.sz=sz) (hlen:o.rows.length=len):Src P N env (H0++L) x sz o.rows:=by subst hg;exact Src.slL hx hn hk hsz Yr hlen
theorem CR.know {S:List Slot} {a:Act} {w:World} {g:Nat} {v:AV} (h:CR N env H S a w) (hv:get env g=v):CR N ((g,v) :: env) H S a w :=
 ⟨h.heap,fun t=>by
  by_cases e:g=t
  ·subst e;rw [qt,← hv];exact h.env g
  ·rw [qg _ _ e];exact h.env t,h.size,h.defers⟩
theorem qrs {l:List Oper} {g:Nat} {v:AV} (hv:get env g=v) (h:q61 P N B ops l Q ((g,v) :: env) H):q61 P N B ops l Q env H:=fun S a w hc hb=>h S a w (hc.know hv) hb
theorem qb {d:Option Nat} {g j:Nat} {want b:Bool} (hj:(ops[j]?).bind (·.dst)=some g) (hb:get env g = .bool b)
  (h1:b=true→q61 P N B ops (⟨d,op,ty,pos,after,some (j,want)⟩ :: rest) Q ((g,.bool true) :: env) H)
  (h2:b=false→q61 P N B ops (⟨d,op,ty,pos,after,some (j,want)⟩ :: rest) Q ((g,.bool false) :: env) H):q61 P N B ops (⟨d,op,ty,pos,after,some (j,want)⟩ :: rest) Q env H:=by
 have _:=hj
 cases b
 ·exact qrs hb (h2 rfl)
 ·exact qrs hb (h1 rfl)
theorem q6d {d g j:Nat} {want:Bool} {v:AV} {H':qf} (hj:(ops[j]?).bind (·.dst)=some g) (hb:get env g = .bool want) (hd:d<N) (h1:V2 P N op ty env H v H') (h:q61 P N B ops rest Q ((d,v) :: env) H'):q61 P N B ops (⟨some d,op,ty,pos,after,some (j,want)⟩ :: rest) Q env H:=q12l hj hb hd h1 h
theorem q1j {d g j:Nat} {want:Bool} {v:AV} (hj:(ops[j]?).bind (·.dst)=some g) (hb:get env g = .bool want) (hd:d<N) (h1:V1 P N op ty env H v) (h:q61 P N B ops rest Q ((d,v) :: env) H):q61 P N B ops (⟨some d,op,ty,pos,after,some (j,want)⟩ :: rest) Q env H:=q12l hj hb hd h1.toV2 h
theorem q149 {d g j:Nat} (hj:(ops[j]?).bind (·.dst)=some g) (hb:get env g = .bool false) (hd:d<N) (h:q61 P N B ops rest Q ((d,.tup []) :: env) H):q61 P N B ops (⟨some d,op,ty,pos,after,some (j,true)⟩ :: rest) Q env H:=q12q hj hb (by decide) hd h
theorem q13u {d g j:Nat} (hj:(ops[j]?).bind (·.dst)=some g) (hb:get env g = .bool true) (hd:d<N) (h:q61 P N B ops rest Q ((d,.tup []) :: env) H):q61 P N B ops (⟨some d,op,ty,pos,after,some (j,false)⟩ :: rest) Q env H:=q12q hj hb (by decide) hd h
theorem q14d {d g j:Nat} {want:Bool} (hj:(ops[j]?).bind (·.dst)=some g) (hb:get env g = .tup []) (hd:d<N) (h:q61 P N B ops rest Q ((d,.tup []) :: env) H):q61 P N B ops (⟨some d,op,ty,pos,after,some (j,want)⟩ :: rest) Q env H:=qpl rfl hj hb Y1f h
theorem Sub.put {E:Env} {d:Nat} {v:AV} (h:get E d = .junk) (k:Sub E env):Sub E ((d,v) :: env):=fun t=>by
 by_cases e:d=t
 ·subst e;exact .inl h
 ·rw [qg _ _ e];exact k t
def SubX (t:Nat) (E env:Env):Prop:=∀ s,s≠t→get E s = .junk∨get env s=get E s
theorem SubX.refl (t:Nat) (env:Env):SubX t env env:=fun _ _=>.inr rfl
theorem SubX.at {t:Nat} {E:Env} {v:AV} (k:SubX t E env):SubX t E ((t,v) :: env):=fun s hs=>by
 rw [qg _ _ (Ne.symm hs)];exact k s hs
theorem SubX.put {t d:Nat} {E:Env} {v:AV} (h:get E d = .junk) (k:SubX t E env):SubX t E ((d,v) :: env):=fun s hs=>by
 by_cases e:d=s
 ·subst e;exact .inl h
 ·rw [qg _ _ e];exact k s hs
theorem SubX.sub {t:Nat} {E:Env} {v:AV} (h:get env t=v) (k:SubX t E env):Sub ((t,v) :: E) env:=fun s=>by
 by_cases e:t=s
 ·subst e;rw [qt];exact .inr h
 ·rw [qg _ _ e];exact k s (Ne.symm e)
def Out (_:Base) (env:Env) (t:Nat) (v:AV) (H:qf):q6g:=fun x e H'=>x = .nrm∧get e t=v∧SubX t env e∧H'=H
theorem Out.mk {t:Nat} {v:AV} {e:Env} (h:get e t=v) (k:SubX t env e):Out B env t v H .nrm e H:=⟨rfl,h,k,rfl⟩
theorem qq {id : Nat} {l : List Oper} (t : Nat) (v : AV) (h : q61 P N B l.toArray l (Out B env t v H) env H) (k : Q .nrm ((t, v) :: env) H) : AWp P N B (.region id l.toArray false) Q env H := by
  refine qku ((t, v) :: env) H (fun S a w hc hb => ?_) k
  have base : ∀ e a' w', Lift N (Out B env t v H) B e a' w' → Lift N (fun x e H' => x = .nrm ∧ Sub ((t, v) :: env) e ∧ Fit B ((t, v) :: env) H' H) B e a' w' := by
    rintro e a' w' ⟨x, env', H', S', ⟨rfl, h1, h2, rfl⟩, r, c, k'⟩
    exact ⟨.nrm, env', H', S', ⟨rfl, h2.sub h1, .inl rfl⟩, r, c, k'⟩
  have key : ∀ (l' : List Oper) (a : Act) (w : World), wpList P l.toArray (Lift N (Out B env t v H) B) l' a w → wpList P l.toArray (Lift N (fun x e H' => x = .nrm ∧ Sub ((t, v) :: env) e ∧ Fit B ((t, v) :: env) H' H) B) l' a w := by
    intro l'
    induction l' with
    | nil => intro a w h; exact base _ _ _ h
    | cons o l' ih =>
      intro a w1 h
      unfold wpList at h ⊢
      split
      · rename_i hw
        rw [if_pos hw] at h
        rcases h with h | ⟨hasks, a0, w0, hq⟩
        · left
          unfold Oper.wp at h ⊢
          generalize (execOp a.eval o).run P w1 = r at *
          cases r with
          | ok n w' =>
            cases n <;> simp only [Oper.upon] at h ⊢ <;> first
              | exact ih _ _ h
              | exact h
              | exact Rows.mono h fun _ _ h => ih _ _ h
              | exact Calls.mono h fun e w'' he => by
                  cases e with
                  | returned v => exact ih _ _ he
                  | panicked ch => exact base _ _ _ he
                  | outgrown => obtain ⟨a0, w0, hq⟩ := he; exact ⟨a0, w0, base _ _ _ hq⟩
          | halt x w' => cases x <;> simp only [Oper.upon] at h ⊢ <;> (exact base _ _ _ h)
        · exact .inr ⟨hasks, a0, w0, base _ _ _ hq⟩
      · rename_i hw
        rw [if_neg hw] at h
        exact ih _ _ h
  exact key l a w (h S a w hc hb)
theorem qp {c:Code} {n k g off len cap:Nat} {o:AObj} {ys:List (List AV)} (t:Nat) (ht:get env t = .sl (Lid n k) g off len cap) (hn:H0.length=n) (hk:L[k]?=some o) (hg:o.gen=g) (hys:(o.rows.drop off).take len=ys) (hlen:ys.length=len) (hp:∀ r∈ys,AV.bels 0 r=true)
  (h:AWp P N B c Q ((t,.pl ys) :: env) (H0++L.set k ⟨g+1,o.sz,[]⟩)):AWp P N B c Q env (H0++L):=by
 subst hg
 refine qe9 t ht (lk hn hk) hys hlen hp ?_
 rw [st hn]
 exact h
theorem q98 {c:Code} {n k g len cap:Nat} {o:AObj} (t:Nat) (ht:get env t = .sl (Lid n k) g 0 len cap) (hn:H0.length=n) (hk:L[k]?=some o) (hg:o.gen=g) (hlen:o.rows.length=len) (hp:∀ r∈o.rows,AV.bels 0 r=true)
  (h:AWp P N B c Q ((t,.pl o.rows) :: env) (H0++L.set k ⟨g+1,o.sz,[]⟩)):AWp P N B c Q env (H0++L) :=
 qp t ht hn hk hg Yr hlen hp h
theorem q1s {c:Code} {k:Nat} (t sz:Nat) (ht:get env t = .nsl) (hp:0<sz) (hk:L.length=k) (h:AWp P N B c Q ((t,.sl (Lid H0.length k) 0 0 0 0) :: env) (H0++(L++[⟨0,sz,[]⟩]))):AWp P N B c Q env (H0++L):=by
 refine qws t sz ht hp ?_
 rw [List.length_append,hk,List.append_assoc]
 exact h
theorem q2o {t:Nat} {rs:List ResultVar} {v:AV} {vs:List AV} (h:get env t=v) (k:ResVs P env H rs vs):ResVs P env H (.tmp t :: rs) (v :: vs):=.cons (.tmp h) k
theorem qvz {p t id g i j sz:Nat} {o:AObj} {r:List AV} {v:AV} {rs:List ResultVar} {vs:List AV} [ty:TyI P t false sz] (h:get env p = .pt id g i j) (hid:H[id]?=some o) (hg:o.gen=g) (hr:o.rows[i]?=some r) (hv:r[j]?=some v) (k:ResVs P env H rs vs):ResVs P env H (.cell p t :: rs) (v :: vs):=by subst hg;exact .cons (.cell1 ty h hid hr hv) k
theorem q6o {p t id g i sz:Nat} {o:AObj} {r:List AV} {rs:List ResultVar} {vs:List AV} [ty:TyI P t true sz] (h:get env p = .pt id g i 0) (hid:H[id]?=some o) (hg:o.gen=g) (hr:o.rows[i]?=some r) (hn:r.length=sz) (k:ResVs P env H rs vs):ResVs P env H (.cell p t :: rs) (.agg r :: vs):=by subst hg;exact .cons (.cellN ty h hid hr Ys hn) k
theorem q4r {rs:List ResultVar} {vs:List AV} {v:AV} {args:List AV} (hB:Begun B H args) (h:ResVs P env (H++L) rs vs) (hv:qwp vs=v) (hb:v.bel H.length=true):Ends P B rs (Ret v H) .ret env (H++L) :=
 Ends.done h hv rfl (by rw [hB.len];exact Nat.le_refl _) hb hB.heap
end
mutual
theorem AV.bel_mono {n m:Nat} (h:n≤m):∀ v:AV,AV.bel n v=true→AV.bel m v=true
 | .sl _ _ _ _ _,hv=>by simp [AV.bel] at hv ⊢;omega
 | .pt _ _ _ _,hv=>by simp [AV.bel] at hv ⊢;omega
 | .agg cs,hv=>AV.bels_mono h cs hv
 | .tup cs,hv=>AV.bels_mono h cs hv
 | .fn _ p q,hv=>by
  simp only [AV.bel,Bool.and_eq_true] at hv ⊢
  exact ⟨AV.bels_mono h p hv.1,AV.bels_mono h q hv.2⟩
 | .ifc _ v,hv=>AV.bel_mono h v hv
 | .junk,_ | .int _ _,_ | .bool _,_ | .str _,_ | .flt _ _,_ | .nsl,_ | .pl _,_ | .pp _ _ _,_ | .nptr,_ | .nfn,_ | .nifc,_ | .raw _,_ | .know _ _,_=>rfl
theorem AV.bels_mono {n m:Nat} (h:n≤m):∀ vs:List AV,AV.bels n vs=true→AV.bels m vs=true
 | [],_=>rfl
 | v :: vs,hv=>by
  simp only [AV.bels,Bool.and_eq_true] at hv ⊢
  exact ⟨AV.bel_mono h v hv.1,AV.bels_mono h vs hv.2⟩
end
theorem HBel.mono {n m:Nat} (h:n≤m) {M:qf} (k:HBel n M):HBel m M:=fun o ho r hr=>AV.bels_mono h r (k o ho r hr)
section
variable {B : Base} {H L G : qf} {E : Env} {args : List AV}
theorem Fit.loc {L':qf} (hB:Begun B H args) (hL:L'=L++G) (hE:EBel (H.length+L.length) E) (hr:∀ o∈L,∀ r∈o.rows,AV.bels (H.length+L.length) r=true):Fit B E (H++L') (H++L):=by
 subst hL
 refine .inr ⟨G,by simp,by rw [hB.len];simp,by simpa using hE,?_⟩
 intro o ho r hr'
 rw [List.length_append]
 rcases List.mem_append.1 ho with h | h
 ·exact AV.bels_mono (by omega) r (hB.heap o h r hr')
 ·exact hr o h r hr'
theorem Fit.same {M M':qf} (h:M=M'):Fit B E M M':=.inl h
end
section
variable {P : Program} {N : Nat} {B : Base} {Q : q6g} {env : Env} {H H0 L : qf} {ty : TypeId} {ops : Array Oper} {rest : List Oper} {pos : String} {after : Array Edge}
theorem qtt {k:Nat} (hk:L.length=k):Lid (H0++L).length 0=Lid H0.length k:=by simp [Lid,hk]
theorem qbh {rs:List ResultVar} {vs:List AV} {v:AV} {args:List AV} {K G:qf} (hB:Begun B H args) (h:ResVs P env (H++L) rs vs) (hv:qwp vs=v) (hL:L=K++G) (hb:v.bel (H.length+K.length)=true) (hr:∀ o∈K,∀ r∈o.rows,AV.bels (H.length+K.length) r=true):Ends P B rs (Ret v (H++K)) .ret env (H++L):=by
 subst hL
 refine ⟨vs,H++K,h,.inr ⟨G,by simp,by rw [hB.len];simp,by rw [hv];simpa using hb,?_⟩,by rw [hv],rfl⟩
 intro o ho r hr'
 rw [List.length_append]
 rcases List.mem_append.1 ho with h | h
 ·exact AV.bels_mono (by omega) r (hB.heap o h r hr')
 ·exact hr o h r hr'
theorem V2.callo {f g n c:Nat} {xs:Array Operand} {ts:Array TypeId} {vs:List AV} {o:AObj} {k:Nat} [FnI P f] (hac:AC P f vs (H0++L) (Ret (.sl (Lid (H0++L).length 0) g 0 n c) ((H0++L)++[o]))) (hvs:xs.toList.map (aev env)=vs) (hk:L.length=k) :
  V2 P N (.call { callee:=.value (.func f),args:=xs,argTypes:=ts }) ty env (H0++L) (.sl (Lid H0.length k) g 0 n c) (H0++(L++[o])):=by
 have:=V2.call (N:=N) (ty:=ty) (ts:=ts) hac hvs
 rwa [qtt hk,List.append_assoc] at this
end
theorem qas {α:Type} (e:α→List AV) {l:List α} {k:Nat} {x:α} (hx:l[k]?=some x):((l.take k).map e).take k++[e x]=(l.take (k+1)).map e:=by
 have hlt:=(List.getElem?_eq_some_iff.1 hx).1
 have h1:((l.take k).map e).length=k:=by simp;omega
 rw [List.take_of_length_le (by omega),List.take_add_one,hx]
 simp
theorem qk {α:Type} (e:α→List AV) {l:List α} {k:Nat} {x:α} (hx:l[k]?=some x):(l.map e)[k]?=some (e x):=by simp [hx]
theorem qr {α:Type} {l:List α} {k:Nat} (h:k<l.length):∃ x,l[k]?=some x∧x∈l:=⟨l[k],List.getElem?_eq_getElem h,List.getElem_mem h⟩
theorem q5z {α:Type} {e:α→List AV} {n:Nat} (he:∀ x,AV.bels n (e x)=true) (l:List α):∀ r∈l.map e,AV.bels n r=true:=by
 intro r hr
 obtain ⟨x,_,rfl⟩:=List.mem_map.1 hr
 exact he x
theorem q5a {α:Type} {e:α→List AV} {n:Nat} (he:∀ x,(e x).length=n) (l:List α):∀ r∈l.map e,r.length=n:=by
 intro r hr
 obtain ⟨x,_,rfl⟩:=List.mem_map.1 hr
 exact he x
def ixf {α:Type} (p:α→Bool) (l:List α):Int:=match l.findIdx? p with
 | some n=>n
 | none=>-1
theorem qbi {α:Type} {p:α→Bool} {l:List α} {k:Nat} {x:α} (hx:l[k]?=some x) (hp:p x=true) (hno:∀ y∈l.take k,p y=false):ixf p l=k:=by
 have:l.findIdx? p=some k:=by
  rw [List.findIdx?_eq_some_iff_getElem]
  obtain ⟨h1,h2⟩:=List.getElem?_eq_some_iff.1 hx
  refine ⟨h1,by rw [h2];exact hp,fun j hj=>?_⟩
  have hj':j<l.length:=Nat.lt_trans hj h1
  have:=hno l[j] (List.mem_iff_getElem?.2 ⟨j,by rw [List.getElem?_take,if_pos hj];exact List.getElem?_eq_getElem hj'⟩)
  simp [this]
 simp [ixf,this]
theorem qba {α:Type} {p:α→Bool} {l:List α} (hno:∀ y∈l,p y=false):ixf p l = -1:=by
 have:l.findIdx? p=none:=by rw [List.findIdx?_eq_none_iff];simpa using hno
 simp [ixf,this]
theorem q73 {α:Type} (p:α→Bool) (l:List α):decide (0≤ixf p l)=l.any p:=by
 rw [Bool.eq_iff_iff]
 unfold ixf
 cases h:l.findIdx? p with
 | none =>
  rw [List.findIdx?_eq_none_iff] at h
  simp
  simpa using h
 | some n =>
  rw [List.findIdx?_eq_some_iff_getElem] at h
  obtain ⟨h1,h2,_⟩:=h
  simp
  exact ⟨_,List.getElem_mem h1,h2⟩
theorem ql {α:Type} {l:List α} {k:Nat} {x:α} (hx:l[k]?=some x):l.take (k+1)=l.take k++[x]:=by
 obtain ⟨h1,h2⟩:=List.getElem?_eq_some_iff.1 hx
 rw [List.take_add_one,hx];rfl
theorem qxj {α:Type} {l:List α} {k:Nat} {x:α} {p:α→Bool} (hx:l[k]?=some x) (h:(l.take k).all p=true) (hp:p x=true):(l.take (k+1)).all p=true:=by
 rw [ql hx,List.all_append,h];simp [hp]
theorem qxx {α:Type} {l:List α} {x:α} {p:α→Bool} (hx:x∈l) (h:p x=false):l.all p=false:=by
 rw [List.all_eq_false];exact ⟨x,hx,by simp [h]⟩
def wdn (f:Nat→Bool) (b:Nat):Nat→Nat
 | 0=>0
 | n+1=>wdn f b n+(if f (b+n) then 2 ^ n else 0)
theorem qns (f:Nat→Bool) (b:Nat):∀ n,wdn f b n<2 ^ n
 | 0=>by simp [wdn]
 | n+1=>by
  have:=qns f b n
  unfold wdn
  rw [Nat.pow_succ]
  split<;>omega
theorem qrq (f:Nat→Bool) (b:Nat):∀ n j,(wdn f b n).testBit j=(decide (j<n)&&f (b+j))
 | 0,j=>by simp [wdn]
 | n+1,j=>by
  have hlt:=qns f b n
  have ih:=qrq f b n j
  have hl2:=qns f b (n+1)
  by_cases h:n+1≤j
  ·rw [Nat.testBit_lt_two_pow (Nat.lt_of_lt_of_le hl2 (Nat.pow_le_pow_right (by decide) h))]
   simp
   omega
  ·unfold wdn
   by_cases e:j=n
   ·subst e
    cases hf:f (b+j)
    ·simp [ih]
    ·simp only [if_true]
     rw [Nat.add_comm,Nat.testBit_two_pow_add_eq,ih]
     simp
   ·cases hf:f (b+n)
    ·simp only [Bool.false_eq_true,if_false,Nat.add_zero]
     rw [ih,show decide (j<n)=decide (j<n+1) by simp;omega]
    ·simp only [if_true]
     rw [Nat.add_comm,Nat.testBit_two_pow_add_gt (by omega),ih,show decide (j<n)=decide (j<n+1) by simp;omega]
def wd (f:Nat→Bool) (i:Nat):Nat:=wdn f (64 * i) 64
theorem qdb (f:Nat→Bool) (i:Nat):wd f i<18446744073709551616:=qns f _ 64
theorem q5g (f:Nat→Bool) (i j:Nat):(wd f i).testBit j=(decide (j<64)&&f (64 * i+j)):=qrq f _ 64 j
theorem q14j (f g:Nat→Bool) (i:Nat):wd f i ||| wd g i=wd (fun n=>f n||g n) i:=by
 apply Nat.eq_of_testBit_eq;intro j
 rw [Nat.testBit_or,q5g,q5g,q5g]
 cases decide (j<64)<;>simp
theorem qzs (f g:Nat→Bool) (i:Nat):wd f i &&& wd g i=wd (fun n=>f n&&g n) i:=by
 apply Nat.eq_of_testBit_eq;intro j
 rw [Nat.testBit_and,q5g,q5g,q5g]
 cases decide (j<64)<;>simp
theorem q13h (f:Nat→Bool) (n i:Nat):wd (fun m=>f m||m == n) i=if i=n / 64 then wd f i ||| 2 ^ (n % 64) else wd f i:=by
 apply Nat.eq_of_testBit_eq;intro j
 split
 ·rename_i h
  rw [Nat.testBit_or,q5g,q5g,Nat.testBit_two_pow]
  by_cases hj:j<64
  ·rw [show (64 * i+j == n)=decide (n % 64=j) by rw [Bool.eq_iff_iff];simp;omega]
   simp [hj]
  ·have:¬ n % 64=j:=by omega
   simp [hj,this]
 ·rename_i h
  rw [q5g,q5g]
  by_cases hj:j<64
  ·rw [show (64 * i+j == n)=false by simp;omega]
   simp
  ·simp [hj]
theorem q11j (i:Nat):wd (fun _=>false) i=0:=by
 apply Nat.eq_of_testBit_eq;intro j
 rw [q5g];simp
theorem qpu (f:Nat→Bool) (i:Nat):wd f i=0↔∀ j,j<64→f (64 * i+j)=false:=by
 constructor
 ·intro h j hj
  have:=q5g f i j
  rw [h] at this
  simpa [hj] using this.symm
 ·intro h
  apply Nat.eq_of_testBit_eq;intro j
  rw [q5g]
  by_cases hj:j<64
  ·simp [h j hj]
  ·simp [hj]
def bl (x:Nat):List Nat:=(List.range 64).filter x.testBit
theorem q11a:bl 0=[]:=by decide
theorem qsp {x:Nat} (h0:x≠0) (h:x<18446744073709551616):Lib.ctz 64 x<64∧x.testBit (Lib.ctz 64 x)=true∧(∀ j,j<Lib.ctz 64 x→x.testBit j=false)∧∀ j,(x &&& (x-1)).testBit j=(decide (Lib.ctz 64 x<j)&&x.testBit j):=by
 obtain ⟨m,hm,hk⟩:=Lib.ctzFrom_spec 64 x (by omega) h
 have e:Lib.ctz 64 x=Lib.ctzFrom 64 x:=by simp [Lib.ctz,h0]
 rw [e]
 generalize Lib.ctzFrom 64 x=k at hm hk
 have hp:0<2 ^ k:=Nat.pow_pos (by decide)
 have hx:∀ j,x.testBit j=(decide (k≤j)&&(2 * m+1).testBit (j-k)):=by
  intro j
  rw [hm,Nat.mul_comm,Nat.testBit_mul_two_pow]
 have hx1:x-1=2 ^ k * (2 * m)+(2 ^ k-1):=by
  rw [hm,Nat.mul_add,Nat.mul_one];omega
 have hx1':∀ j,(x-1).testBit j=if j<k then (2 ^ k-1).testBit j else (2 * m).testBit (j-k):=by
  intro j
  rw [hx1]
  exact Nat.testBit_two_pow_mul_add _ (by omega) _
 refine ⟨hk,?_,fun j hj=>?_,fun j=>?_⟩
 ·rw [hx];simp
 ·rw [hx];simp;omega
 ·rw [Nat.testBit_and,hx,hx1']
  by_cases h1:j<k
  ·have:¬ k≤j:=by omega
   simp [this]
  ·rw [if_neg h1]
   by_cases h2:j=k
   ·subst h2;simp
   ·obtain ⟨d,rfl⟩:∃ d,j=k+(d+1):=⟨j-k-1,by omega⟩
    rw [show k+(d+1)-k=d+1 by omega,Nat.testBit_succ,Nat.testBit_succ,show (2 * m+1) / 2=m by omega,show 2 * m / 2=m by omega]
    have:k≤k+(d+1):=by omega
    have h3:k<k+(d+1):=by omega
    simp [this,h3]
theorem q10c {x:Nat} (h0:x≠0) (h:x<18446744073709551616):bl x=Lib.ctz 64 x :: bl (x &&& (x-1)):=by
 obtain ⟨hk,h1,h2,h3⟩:=qsp h0 h
 generalize Lib.ctz 64 x=k at hk h1 h2 h3
 have hr:List.range 64=List.range k++k :: (List.range (63-k)).map (fun j=>k+1+j):=by
  have e1:(64:Nat)=k+(1+(63-k)):=by omega
  conv=>lhs;rw [e1,List.range_add,List.range_add]
  simp [Function.comp_def,Nat.add_assoc]
 unfold bl
 rw [hr,List.filter_append,List.filter_append,List.filter_cons_of_pos h1,List.filter_cons_of_neg (by rw [h3];simp)]
 have e1:(List.range k).filter x.testBit=[]:=List.filter_eq_nil_iff.2 (by intro j hj;rw [h2 j (by simpa using hj)];simp)
 have e2:(List.range k).filter (x &&& (x-1)).testBit=[]:=List.filter_eq_nil_iff.2 (by
  intro j hj
  have:j<k:=by simpa using hj
  rw [h3]
  simp
  omega)
 rw [e1,e2]
 simp only [List.nil_append,List.cons.injEq,true_and]
 refine List.filter_congr fun j hj=>?_
 simp only [List.mem_map,List.mem_range] at hj
 obtain ⟨d,_,rfl⟩:=hj
 rw [h3]
 have:k<k+1+d:=by omega
 simp [this]
theorem qmo {x:Nat} (h0:x≠0):x &&& (x-1)<x:=Nat.lt_of_le_of_lt Nat.and_le_right (by omega)
def qrb (f:Nat→Bool) (n:Nat):List Int:=((List.range (64 * n)).filter f).map fun j:Nat=>(j:Int)
def qfr (f:Nat→Bool):List Int:=((List.range 256).filter f).map fun j:Nat=>(j:Int)
theorem qsn (f:Nat→Bool) (n:Nat):qrb f (n+1)=qrb f n++(bl (wd f n)).map fun j:Nat=>((64 * n+j:Nat):Int):=by
 unfold qrb
 rw [Nat.mul_add,Nat.mul_one,List.range_add,List.filter_append,List.map_append]
 congr 1
 rw [List.filter_map,List.map_map]
 have:bl (wd f n)=(List.range 64).filter (f ∘ fun x=>64 * n+x):=by
  refine List.filter_congr fun j hj=>?_
  rw [q5g]
  simp [List.mem_range.1 hj]
 rw [this]
 rfl
theorem qt1 (f:Nat→Bool):qrb f 4=qfr f:=rfl
abbrev KT:Nat:=1000000
abbrev DN (d N:Nat):Prop:=d<N∧d<KT
def renv (o:Oper) (env:Env):Env:=(KT,get env KT) :: (KT+1,get env (KT+1)) :: (KT+2,get env (KT+2)) :: (KT+3,get env (KT+3)) :: o.op.operands.toList.filterMap fun | .tmp t=>some (t,get env t) | _=>none
theorem qi6 (l:List Operand) (env:Env) (t:Nat):get (l.filterMap fun | .tmp t=>some (t,get env t) | _=>none) t = .junk∨get (l.filterMap fun | .tmp t=>some (t,get env t) | _=>none) t=get env t:=by
 induction l with
 | nil=>exact .inl rfl
 | cons x l ih =>
  cases x with
  | tmp s =>
   simp only [List.filterMap_cons]
   by_cases e:s=t
   ·subst e;rw [qt];exact .inr rfl
   ·rw [qg _ _ e];exact ih
  | const v=>simpa [List.filterMap_cons] using ih
  | global g=>simpa [List.filterMap_cons] using ih
  | func f=>simpa [List.filterMap_cons] using ih
theorem qyy (o:Oper) (env:Env):Sub (renv o env) env:=fun t=>by
 by_cases hK:KT=t
 ·subst hK;exact .inr (qt _ _ _).symm
 by_cases hK1:KT+1=t
 ·subst hK1;exact .inr rfl
 by_cases hK2:KT+2=t
 ·subst hK2;exact .inr rfl
 by_cases hK3:KT+3=t
 ·subst hK3;exact .inr rfl
 rw [renv,qg _ _ hK,qg _ _ hK1,qg _ _ hK2,qg _ _ hK3]
 rcases qi6 o.op.operands.toList env t with h | h
 ·exact .inl h
 ·exact .inr h.symm
def Eqv (e e':Env):Prop:=∀ t,get e t=get e' t
theorem Eqv.put {e e':Env} (h:Eqv e e') (d:Option Nat) (v:AV):Eqv (Av.put e d v) (Av.put e' d v):=fun t=>by
 cases d with
 | none=>exact h t
 | some d =>
  show get ((d,v) :: e) t=get ((d,v) :: e') t
  by_cases hd:d=t
  ·subst hd;rw [qt,qt]
  ·rw [qg _ _ hd,qg _ _ hd];exact h t
theorem Eqv.comm (e:Env) {a b:Option Nat} (x y:AV) (h:∀ d,a=some d→b≠some d):Eqv (Av.put (Av.put e a x) b y) (Av.put (Av.put e b y) a x):=fun t=>by
 cases a with
 | none=>rfl
 | some a =>
  cases b with
  | none=>rfl
  | some b =>
   have hne:a≠b:=fun he=>h a rfl (he▸rfl)
   show get ((b,y) :: (a,x) :: e) t=get ((a,x) :: (b,y) :: e) t
   by_cases h1:b=t
   ·subst h1;rw [qt,qg _ _ hne,qt]
   ·rw [qg _ _ h1]
    by_cases h2:a=t
    ·subst h2;rw [qt,qt]
    ·rw [qg _ _ h2,qg _ _ h2,qg _ _ h1]
theorem Eqv.renv {e e':Env} (h:Eqv e e') (o:Oper):renv o e=renv o e':=by
 unfold Av.renv
 rw [h KT,h (KT+1),h (KT+2),h (KT+3)]
 congr 5
 funext x
 cases x<;>simp [h _]
theorem qds (ops:Array Oper) (o:Oper) (env:Env) (d:Option Nat) (v:AV) (h:∀ t,d=some t→t∉o.looksAt ops) (hK:∀ t,d=some t→t<KT):renv o (Av.put env d v)=renv o env:=by
 cases d with
 | none=>rfl
 | some d =>
  have hk:=hK d rfl
  have h':=h d rfl
  unfold Oper.looksAt at h'
  rw [List.mem_append,not_or] at h'
  have key:∀ l:List Operand,d∉(l.filterMap fun | .tmp t=>some t | _=>none)→(l.filterMap fun | .tmp t=>some (t,get (Av.put env (some d) v) t) | _=>none)=(l.filterMap fun | .tmp t=>some (t,get env t) | _=>none):=by
   intro l h1
   induction l with
   | nil=>rfl
   | cons x l ih =>
    cases x with
    | tmp s =>
     simp only [List.filterMap_cons,List.mem_cons,not_or] at h1 ⊢
     rw [ih h1.2]
     show (s,get ((d,v) :: env) s) :: _=_
     rw [qg _ _ h1.1]
    | const v=>simpa [List.filterMap_cons] using ih Yv
    | global v=>simpa [List.filterMap_cons] using ih Yv
    | func v=>simpa [List.filterMap_cons] using ih Yv
  have hk0:d≠KT:=Nat.ne_of_lt hk
  have hk1:d≠KT+1:=Nat.ne_of_lt (Nat.lt_of_lt_of_le hk (by decide))
  have hk2:d≠KT+2:=Nat.ne_of_lt (Nat.lt_of_lt_of_le hk (by decide))
  have hk3:d≠KT+3:=Nat.ne_of_lt (Nat.lt_of_lt_of_le hk (by decide))
  show (KT,get ((d,v) :: env) KT) :: (KT+1,get ((d,v) :: env) (KT+1)) :: (KT+2,get ((d,v) :: env) (KT+2)) :: (KT+3,get ((d,v) :: env) (KT+3)) :: _=(KT,get env KT) :: (KT+1,get env (KT+1)) :: (KT+2,get env (KT+2)) :: (KT+3,get env (KT+3)) :: _
  rw [qg _ _ hk0,qg _ _ hk1,qg _ _ hk2,qg _ _ hk3]
  exact congrArg (fun l=>(KT,get env KT) :: (KT+1,get env (KT+1)) :: (KT+2,get env (KT+2)) :: (KT+3,get env (KT+3)) :: l) (key _ h'.1)
section
variable (P : Program) (N : Nat) (B : Base) (ops : Array Oper)
def Asked (o:Oper) (env:Env) (b:Bool):Prop:=match o.guard with
 | none=>b=true
 | some (j,want)=>∃ d,(ops[j]?).bind (·.dst)=some d∧((∃ c,get env d = .bool c∧b=(c == want))∨(get env d = .tup []∧b=false))
def AAt (i:Nat) (env:Env) (H:qf) (K:Env→qf→Prop):Prop :=
 ∃ o,ops[i]?=some o∧(∀ t,o.dst=some t→DN t N) ∧
  ((Asked ops o env true∧∃ V:AV→qf→Prop,AOp P N o (renv o env) H V (fun _ _=>False)∧∀ v H',V v H'→K (put env o.dst v) H')∨(Asked ops o env false∧K (put env o.dst (.tup [])) H))
def Yet (a:Option Nat) (listed:Array Bool):Prop:=match a with
 | none=>True
 | some a=>listed.getD a true=false
def AFin (B:Base) (F:Env→qf→Prop) (env:Env) (H:qf):Prop:=∃ E M,F E M∧Sub E env∧Fit B E H M
theorem AFin.eqv {B:Base} {F:Env→qf→Prop} {e e':Env} {H:qf} (he:Eqv e e') (h:AFin B F e H):AFin B F e' H:=by
 obtain ⟨E,M,h1,h2,h3⟩:=h
 exact ⟨E,M,h1,fun t=>by rw [← he t];exact h2 t,h3⟩
def AAny (a:Option Nat) (C:qf→Prop) (F:Env→qf→Prop):Nat→Array Bool→Env→qf→Prop
 | 0,listed,env,H=>(Yet a listed→C H)∧Region.ready .any ops listed=[]∧AFin B F env H
 | n+1,listed,env,H=>(Yet a listed→C H)∧(Region.ready .any ops listed=[]→AFin B F env H) ∧
  ∀ i∈Region.ready .any ops listed,AAt P N ops i env H (AAny a C F n (listed.setIfInBounds i true))
end
section
variable {P : Program} {N : Nat} {B : Base} {ops : Array Oper} {a : Option Nat} {C : qf → Prop} {F : Env → qf → Prop}
theorem Asked.congr {o:Oper} {e e':Env} {b:Bool} (h:Asked ops o e b) (k:∀ j want d,o.guard=some (j,want)→(ops[j]?).bind (·.dst)=some d→get e' d=get e d):Asked ops o e' b:=by
 unfold Asked at h ⊢
 split at h
 ·exact h
 ·rename_i j want hg
  obtain ⟨d,hd,h⟩:=h
  refine ⟨d,hd,?_⟩
  rw [k j want d hg hd]
  exact h
theorem Asked.put {o:Oper} {e:Env} {b:Bool} {d:Option Nat} {v:AV} (h:Asked ops o (Av.put e d v) b) (k:∀ t,d=some t→t∉o.looksAt ops):Asked ops o e b:=h.congr fun j want g hg hd=>by
 cases d with
 | none=>rfl
 | some d =>
  have hne:d≠g:=fun e=>k d rfl (by subst e;simp [Oper.looksAt,hg,hd])
  exact (qg _ _ hne).symm
theorem Asked.put' {o:Oper} {e:Env} {b:Bool} {d:Option Nat} {v:AV} (h:Asked ops o e b) (k:∀ t,d=some t→t∉o.looksAt ops):Asked ops o (Av.put e d v) b:=h.congr fun j want g hg hd=>by
 cases d with
 | none=>rfl
 | some d =>
  have hne:d≠g:=fun e=>k d rfl (by subst e;simp [Oper.looksAt,hg,hd])
  exact qg _ _ hne
theorem AAt.mono {i:Nat} {env:Env} {H:qf} {K K':Env→qf→Prop} (h:AAt P N ops i env H K) (hk:∀ e H,K e H→K' e H):AAt P N ops i env H K':=by
 obtain ⟨o,ho,hd,h⟩:=h
 refine ⟨o,ho,hd,?_⟩
 rcases h with ⟨h1,V,h2,h3⟩ | ⟨h1,h2⟩
 ·exact .inl ⟨h1,V,h2,fun v H' hv=>hk _ _ (h3 v H' hv)⟩
 ·exact .inr ⟨h1,hk _ _ h2⟩
theorem AAny.eqv:∀ (n:Nat) (listed:Array Bool) (env env':Env) (H:qf),Eqv env env'→AAny P N B ops a C F n listed env H→AAny P N B ops a C F n listed env' H
 | 0,_,_,_,_,he,h=>⟨h.1,h.2.1,h.2.2.eqv he⟩
 | n+1,listed,env,env',H,he,h=>by
  refine ⟨h.1,fun h0=>(h.2.1 h0).eqv he,fun i hi=>?_⟩
  obtain ⟨o,ho,hd,h⟩:=h.2.2 i hi
  refine ⟨o,ho,hd,?_⟩
  rcases h with ⟨h1,V,h2,h3⟩ | ⟨h1,h2⟩
  ·exact .inl ⟨h1.congr fun _ _ d _ _=>(he d).symm,V,(he.renv o)▸h2,fun v H' hv=>AAny.eqv n _ _ _ _ (he.put _ _) (h3 v H' hv)⟩
  ·exact .inr ⟨h1.congr fun _ _ d _ _=>(he d).symm,AAny.eqv n _ _ _ _ (he.put _ _) h2⟩
def Quiet (P:Program) (N:Nat) (ops:Array Oper) (C:qf→Prop) (o:Oper) (env:Env) (v:AV):Prop :=
 (Asked ops o env true∧∀ H,C H→AOp P N o (renv o env) H (fun v' H'=>v'=v∧H'=H) (fun _ _=>False))∨(Asked ops o env false∧v = .tup [])
theorem Quiet.at_ {i:Nat} {o:Oper} {env:Env} {H:qf} {v:AV} {K:Env→qf→Prop} (hi:ops[i]?=some o) (hd:∀ t,o.dst=some t→DN t N) (hq:Quiet P N ops C o env v) (hC:C H) (h:K (Av.put env o.dst v) H):AAt P N ops i env H K:=by
 refine ⟨o,hi,hd,?_⟩
 rcases hq with ⟨h1,h2⟩ | ⟨h1,rfl⟩
 ·exact .inl ⟨h1,_,h2 H hC,by rintro _ _ ⟨rfl,rfl⟩;exact h⟩
 ·exact .inr ⟨h1,h⟩
theorem Quiet.put {o:Oper} {env:Env} {v:AV} {d:Option Nat} {x:AV} (hq:Quiet P N ops C o env v) (k:∀ t,d=some t→t∉o.looksAt ops) (hK:∀ t,d=some t→t<KT):Quiet P N ops C o (Av.put env d x) v:=by
 rcases hq with ⟨h1,h2⟩ | ⟨h1,h2⟩
 ·exact .inl ⟨h1.put' k,by rw [qds ops o env d x k hK];exact h2⟩
 ·exact .inr ⟨h1.put' k,h2⟩
theorem AAny.here {n:Nat} {listed:Array Bool} {env:Env} {H:qf} (h:AAny P N B ops a C F n listed env H):Yet a listed→C H:=by
 cases n<;>exact h.1
theorem qd7 {i:Nat} {oi:Oper} {v:AV} (hi:ops[i]?=some oi) (hdi:∀ t,oi.dst=some t→DN t N) (hai:a≠some i) (hwait:∀ a',a=some a'→∀ oa,ops[a']?=some oa→∃ e∈oa.after,Region.binds .any e=true∧e.on=i) :
  ∀ (fuel:Nat) (listed:Array Bool) (env:Env) (H:qf),listed.size=ops.size →
   (∀ j oj,ops[j]?=some oj→j≠i→listed.getD j true=false→(∀ e∈oj.after,Region.binds .any e=true→e.on≠i)→oi.apart ops oj=true) →
   i∈Region.ready .any ops listed→Yet a listed→Quiet P N ops C oi env v →
   AAny P N B ops a C F fuel (listed.setIfInBounds i true) (Av.put env oi.dst v) H→AAny P N B ops a C F (fuel+1) listed env H:=by
 have q57:∀ (listed:Array Bool) (j:Nat),a≠some j→Yet a (listed.setIfInBounds j true)=Yet a listed:=fun listed j hj=>by
  unfold Yet
  cases a with
  | none=>rfl
  | some a=>simp only;rw [getD_set_ne true (fun e=>hj (by rw [e]))]
 intro fuel
 induction fuel with
 | zero =>
  intro listed env H hsz _ hr ha hq h
  have hC:C H:=h.1 Y19
  refine ⟨fun _=>hC,fun h0=>Y1c,fun j hj=>?_⟩
  by_cases hji:j=i
  ·subst hji;exact hq.at_ hi hdi hC h
  ·have:=ready_mono hj hji
   rw [h.2.1] at this
   cases this
 | succ fuel ih =>
  intro listed env H hsz hfree hr ha hq h
  have hC:C H:=h.1 Y19
  refine ⟨fun _=>hC,fun h0=>Y1c,fun j hj=>?_⟩
  by_cases hji:j=i
  ·subst hji;exact hq.at_ hi hdi hC h
  ·have h1:=h.2.2 j (ready_mono hj hji)
   obtain ⟨hjun,oj,hoj,hall⟩:=mem_ready.1 hj
   have hnot:∀ e∈oj.after,Region.binds .any e=true→e.on≠i:=fun e he hb heq=>by
    have h1:=hall e he hb
    have h0:=(mem_ready.1 hr).1
    rw [heq] at h1
    rcases Nat.lt_or_ge i listed.size with h' | h'
    ·simp [h'] at h0 h1;rw [h0] at h1;cases h1
    ·simp [Array.getElem?_eq_none h'] at h1
   have hja:a≠some j:=by
    rintro rfl
    obtain ⟨e,he,hb,heq⟩:=hwait j rfl oj hoj
    exact hnot e he hb heq
   have hap:=hfree j oj hoj hji hjun hnot
   obtain ⟨p1,p2,p3⟩:=Oper.apart_spec hap
   have hfree':∀ k ok,ops[k]?=some ok→k≠i→(listed.setIfInBounds j true).getD k true=false →
     (∀ e∈ok.after,Region.binds .any e=true→e.on≠i)→oi.apart ops ok=true:=fun k ok hk hki hun hno=>by
    refine hfree k ok hk hki ?_ hno
    by_cases hjk:j=k
    ·subst hjk;exact hjun
    ·rw [getD_set_ne true hjk] at hun;exact hun
   obtain ⟨o,ho,hd,h2⟩:=h1
   rw [hoj] at ho
   obtain rfl:=Option.some.inj ho
   have step:∀ x H',AAny P N B ops a C F fuel ((listed.setIfInBounds i true).setIfInBounds j true) (Av.put (Av.put env oi.dst v) oj.dst x) H'→AAny P N B ops a C F (fuel+1) (listed.setIfInBounds j true) (Av.put env oj.dst x) H':=by
    intro x H' hx
    refine ih (listed.setIfInBounds j true) (Av.put env oj.dst x) H' (by simpa using hsz) hfree' (ready_mono hr (Ne.symm hji)) (by rw [q57 _ _ hja];exact ha) (hq.put p3 fun t ht=>(hd t ht).2) ?_
    rw [Array.setIfInBounds_comm _ _ hji]
    exact AAny.eqv _ _ _ _ _ (Eqv.comm env v x p2) hx
   refine ⟨oj,hoj,hd,?_⟩
   rcases h2 with ⟨k1,V,k2,k3⟩ | ⟨k1,k2⟩
   ·exact .inl ⟨k1.put p1,V,by rw [qds ops oj env oi.dst v p1 fun t ht=>(hdi t ht).2] at k2;exact k2,fun x H' hx=>step x H' (k3 x H' hx)⟩
   ·exact .inr ⟨k1.put p1,step _ _ k2⟩
theorem qhk {i:Nat} {oi:Oper} {v:AV} (hi:ops[i]?=some oi) (hdi:∀ t,oi.dst=some t→DN t N) (hai:a≠some i) :
  ∀ (fuel:Nat) (listed:Array Bool) (env:Env) (H:qf),listed.size=ops.size →
   (∀ j oj,ops[j]?=some oj→j≠i→listed.getD j true=false→(∀ e∈oj.after,Region.binds .any e=true→e.on≠i)→oi.apart ops oj=true) →
   i∈Region.ready .any ops listed→Quiet P N ops (fun _=>True) oi env v →
   AAny P N B ops a C F fuel (listed.setIfInBounds i true) (Av.put env oi.dst v) H→AAny P N B ops a C F (fuel+1) listed env H:=by
 have q57:∀ (listed:Array Bool) (j:Nat),a≠some j→Yet a (listed.setIfInBounds j true)=Yet a listed:=fun listed j hj=>by
  unfold Yet
  cases a with
  | none=>rfl
  | some a=>simp only;rw [getD_set_ne true (fun e=>hj (by rw [e]))]
 intro fuel
 induction fuel with
 | zero =>
  intro listed env H hsz _ hr hq h
  refine ⟨fun ha=>h.1 Y19,fun h0=>Y1c,fun j hj=>?_⟩
  by_cases hji:j=i
  ·subst hji;exact hq.at_ hi hdi trivial h
  ·have:=ready_mono hj hji
   rw [h.2.1] at this
   cases this
 | succ fuel ih =>
  intro listed env H hsz hfree hr hq h
  refine ⟨fun ha=>h.1 Y19,fun h0=>Y1c,fun j hj=>?_⟩
  by_cases hji:j=i
  ·subst hji;exact hq.at_ hi hdi trivial h
  ·have h1:=h.2.2 j (ready_mono hj hji)
   obtain ⟨hjun,oj,hoj,hall⟩:=mem_ready.1 hj
   have hnot:∀ e∈oj.after,Region.binds .any e=true→e.on≠i:=fun e he hb heq=>by
    have h1:=hall e he hb
    have h0:=(mem_ready.1 hr).1
    rw [heq] at h1
    rcases Nat.lt_or_ge i listed.size with h' | h'
    ·simp [h'] at h0 h1;rw [h0] at h1;cases h1
    ·simp [Array.getElem?_eq_none h'] at h1
   have hap:=hfree j oj hoj hji hjun hnot
   obtain ⟨p1,p2,p3⟩:=Oper.apart_spec hap
   have hfree':∀ k ok,ops[k]?=some ok→k≠i→(listed.setIfInBounds j true).getD k true=false →
     (∀ e∈ok.after,Region.binds .any e=true→e.on≠i)→oi.apart ops ok=true:=fun k ok hk hki hun hno=>by
    refine hfree k ok hk hki ?_ hno
    by_cases hjk:j=k
    ·subst hjk;exact hjun
    ·rw [getD_set_ne true hjk] at hun;exact hun
   obtain ⟨o,ho,hd,h2⟩:=h1
   rw [hoj] at ho
   obtain rfl:=Option.some.inj ho
   have step:∀ x H',AAny P N B ops a C F fuel ((listed.setIfInBounds i true).setIfInBounds j true) (Av.put (Av.put env oi.dst v) oj.dst x) H'→AAny P N B ops a C F (fuel+1) (listed.setIfInBounds j true) (Av.put env oj.dst x) H':=by
    intro x H' hx
    refine ih (listed.setIfInBounds j true) (Av.put env oj.dst x) H' (by simpa using hsz) hfree' (ready_mono hr (Ne.symm hji)) (hq.put p3 fun t ht=>(hd t ht).2) ?_
    rw [Array.setIfInBounds_comm _ _ hji]
    exact AAny.eqv _ _ _ _ _ (Eqv.comm env v x p2) hx
   refine ⟨oj,hoj,hd,?_⟩
   rcases h2 with ⟨k1,V,k2,k3⟩ | ⟨k1,k2⟩
   ·exact .inl ⟨k1.put p1,V,by rw [qds ops oj env oi.dst v p1 fun t ht=>(hdi t ht).2] at k2;exact k2,fun x H' hx=>step x H' (k3 x H' hx)⟩
   ·exact .inr ⟨k1.put p1,step _ _ k2⟩
def q8u (ops:Array Oper) (listed:Array Bool) (a:Option Nat) (i:Nat):Bool :=
 (Region.ready .any ops listed).contains i&&Region.free .any ops listed i&&a != some i&&decide (listed.size=ops.size)
theorem q7e {fuel:Nat} {listed:Array Bool} {env:Env} {H:qf} (i:Nat) {oi:Oper} {v:AV} (hi:ops[i]?=some oi) (hB:q8u ops listed a i=true) (hd:∀ t,oi.dst=some t→DN t N) (hq:Quiet P N ops (fun _=>True) oi env v)
  (h:AAny P N B ops a C F fuel (listed.setIfInBounds i true) (Av.put env oi.dst v) H):AAny P N B ops a C F (fuel+1) listed env H:=by
 simp only [q8u,Bool.and_eq_true,bne_iff_ne,decide_eq_true_eq] at hB
 obtain ⟨⟨⟨h1,h2⟩,h3⟩,h5⟩:=hB
 exact qhk hi hd h3 fuel listed env H h5 (Region.free_spec hi h2) (by simpa using h1) hq h
def q6m (ops:Array Oper) (listed:Array Bool) (a:Option Nat) (i:Nat):Bool :=
 (Region.ready .any ops listed).contains i&&Region.free .any ops listed i&&decide (listed.size=ops.size) &&
  match a with
  | none=>true
  | some a=>i != a&&!(listed.getD a true)&&match ops[a]? with
   | some oa=>oa.after.toList.any fun e=>Region.binds .any e&&e.on == i
   | none=>false
theorem qbe {fuel:Nat} {listed:Array Bool} {env:Env} {H:qf} (i:Nat) {oi:Oper} {v:AV} (hi:ops[i]?=some oi) (hB:q6m ops listed a i=true) (hd:∀ t,oi.dst=some t→DN t N) (hq:Quiet P N ops C oi env v)
  (h:AAny P N B ops a C F fuel (listed.setIfInBounds i true) (Av.put env oi.dst v) H):AAny P N B ops a C F (fuel+1) listed env H:=by
 simp only [q6m,Bool.and_eq_true,decide_eq_true_eq] at hB
 obtain ⟨⟨⟨h1,h2⟩,h5⟩,h6⟩:=hB
 cases a with
 | none=>exact qd7 hi hd (by simp) (fun a' h=>by cases h) fuel listed env H h5 (Region.free_spec hi h2) (by simpa using h1) trivial hq h
 | some a =>
  simp only [Bool.and_eq_true,bne_iff_ne,Bool.not_eq_true'] at h6
  obtain ⟨⟨h3,h6⟩,h7⟩:=h6
  refine qd7 hi hd (fun e=>h3 (Option.some.inj e).symm) (fun a' ha oa hoa=>?_) fuel listed env H h5 (Region.free_spec hi h2) (by simpa using h1) h6 hq h
  obtain rfl:=Option.some.inj ha
  rw [hoa] at h7
  simp only [List.any_eq_true,Bool.and_eq_true,beq_iff_eq] at h7
  obtain ⟨e,he,hb,ho⟩:=h7
  exact ⟨e,by simpa using he,hb,ho⟩
theorem q10d {fuel:Nat} {listed:Array Bool} {env:Env} {H:qf} (i:Nat) {oi:Oper} {v:AV} {H':qf} (hi:ops[i]?=some oi) (hr:(Region.ready .any ops listed == [i])=true) (hC:Yet a listed→C H) (hd:∀ t,oi.dst=some t→DN t N)
  (hg:oi.guard=none) (h1:AOp P N oi (renv oi env) H (fun v' h'=>v'=v∧h'=H') (fun _ _=>False))
  (h:AAny P N B ops a C F fuel (listed.setIfInBounds i true) (Av.put env oi.dst v) H'):AAny P N B ops a C F (fuel+1) listed env H:=by
 have hr':Region.ready .any ops listed=[i]:=by simpa using hr
 refine ⟨hC,fun h0=>(by rw [hr'] at h0;cases h0),fun j hj=>?_⟩
 rw [hr'] at hj
 obtain rfl:j=i:=by simpa using hj
 exact ⟨oi,hi,hd,.inl ⟨by unfold Asked;rw [hg],_,h1,by rintro _ _ ⟨rfl,rfl⟩;exact h⟩⟩
theorem qp5 {fuel:Nat} {listed:Array Bool} {env:Env} {H:qf} (l:List Nat) (hr:(Region.ready .any ops listed == l)=true) (hne:l≠[]) (hC:Yet a listed→C H)
  (h:∀ i∈l,AAt P N ops i env H (AAny P N B ops a C F fuel (listed.setIfInBounds i true))):AAny P N B ops a C F (fuel+1) listed env H:=by
 have hr':Region.ready .any ops listed=l:=by simpa using hr
 refine ⟨hC,fun h0=>absurd (hr'.symm.trans h0) hne,fun j hj=>?_⟩
 rw [hr'] at hj
 exact h j hj
theorem q1y {fuel:Nat} {listed:Array Bool} {env:Env} {H:qf} (hr:(Region.ready .any ops listed == [])=true) (hC:Yet a listed→C H) (h:F env H):AAny P N B ops a C F fuel listed env H:=by
 have hr':Region.ready .any ops listed=[]:=by simpa using hr
 have hf:AFin B F env H:=⟨env,H,h,Sub.refl env,Fit.refl _ _⟩
 cases fuel with
 | zero=>exact ⟨hC,hr',hf⟩
 | succ n=>exact ⟨hC,fun _=>hf,fun j hj=>by rw [hr'] at hj;cases hj⟩
theorem Asked.run {S:List Slot} {act:Act} {w:World} {o:Oper} {env:Env} {b:Bool} {H:qf} (hc:CR N env H S act w) (h:Asked ops o env b):Region.wanted o (yielded ops act.tmps)=b:=by
 unfold Asked at h
 unfold Region.wanted
 split at h
 ·rename_i hg;rw [hg];exact h.symm
 ·rename_i j want hg
  rw [hg]
  obtain ⟨d,hd,h⟩:=h
  rcases h with ⟨c,hc',rfl⟩ | ⟨h1,rfl⟩
  ·simp only
   rw [qbm hc hd hc']
   cases c<;>cases want<;>rfl
  ·simp only
   rw [qfb hc hd h1]
   rfl
theorem AAny.sound {Q:q6g}:∀ (fuel:Nat) (listed:Array Bool) (env:Env) (H:qf),AAny P N B ops a C (Q .nrm) fuel listed env H→∀ S act w,CR N env H S act w→Ext B.S B.w S w→wpAny P .any ops (Lift N Q B) fuel listed act w:=by
 have fin:∀ env H,AFin B (Q .nrm) env H→∀ S act w,CR N env H S act w→Ext B.S B.w S w→Lift N Q B .normal act w:=by
  rintro env H ⟨E,M,hQ,hs,hf⟩ S act w hc hb
  obtain ⟨S',c',k'⟩:=(hc.sub hs).fit hb hf
  exact ⟨.nrm,E,M,S',hQ,.nrm,c',k'⟩
 intro fuel
 induction fuel with
 | zero=>intro listed env H h S act w hc hb;exact ⟨h.2.1,fin env H h.2.2 S act w hc hb⟩
 | succ fuel ih =>
  intro listed env H h S act w hc hb
  refine ⟨fun h0=>fin env H (h.2.1 h0) S act w hc hb,fun i hi=>?_⟩
  obtain ⟨o,ho,hd,h2⟩:=h.2.2 i hi
  unfold wpOp
  rw [ho]
  simp only
  rcases h2 with ⟨k1,V,k2,k3⟩ | ⟨k1,k2⟩
  ·rw [if_pos (k1.run hc)]
   left
   refine k2 S act w (hc.sub (qyy o env)) _ _ ?_ (fun _ _ _ _ _ hf=>hf.elim)
   intro v u H' S' w' hv hh hx hvr
   exact ih _ _ _ (k3 v H' hv) S' _ w' (hc.put hx hh (fun t ht=>(hd t ht).1) hvr) (hb.trans hx)
  ·rw [if_neg (by rw [k1.run hc];exact Bool.false_ne_true)]
   exact ih _ _ _ k2 S _ w (hc.put (Ext.refl S w) hc.heap (fun t ht=>(hd t ht).1) qdh) hb
theorem qhi {id:Nat} {l:List Oper} {Q:q6g} {env:Env} {H:qf} (hm:P.follows .mixedOrders=true) (a:Option Nat) (C:qf→Prop)
  (h:AAny P N B l.toArray a C (Q .nrm) l.length (Array.replicate l.length false) env H):AWp P N B (.region id l.toArray true) Q env H:=fun S act w hc hb =>
 wp_region_any hm (by
  have hx:Ext S w S { w with drawn:=w.drawn+1 }:=⟨rfl,rfl,rfl,⟨Nat.le_refl _,fun b _ h=>⟨h,rfl⟩,fun _ arr _ h=>⟨arr,h,rfl⟩⟩,SExt.refl S⟩
  have hh:HRel H S { w with drawn:=w.drawn+1 }:=q8y hc.heap hx (fun _ _=>rfl)
  have:=AAny.sound l.length _ env H h S act { w with drawn:=w.drawn+1 } (hc.step hx hh) (hb.trans hx)
  simpa using this)
variable {fuel : Nat} {listed : Array Bool} {env : Env} {H : qf} {op : Op} {ty : TypeId} {pos : String} {after : Array Edge} {v : AV}
theorem aq1 {d:Nat} (i:Nat) (hi:ops[i]?=some ⟨some d,op,ty,pos,after,none⟩) (hB:q6m ops listed a i=true) (hd:DN d N) (h1:∀ H',C H'→V1 P N op ty (renv ⟨some d,op,ty,pos,after,none⟩ env) H' v)
  (h:AAny P N B ops a C F fuel (listed.setIfInBounds i true) ((d,v) :: env) H):AAny P N B ops a C F (fuel+1) listed env H :=
 qbe i hi hB Y1f (.inl ⟨rfl,fun H hC=>(h1 H hC).toV2 _ _ _ _⟩) h
theorem aq2 {d:Nat} (i:Nat) (hi:ops[i]?=some ⟨some d,op,ty,pos,after,none⟩) (hB:q6m ops listed a i=true) (hd:DN d N) (h1:∀ H',C H'→V2 P N op ty (renv ⟨some d,op,ty,pos,after,none⟩ env) H' v H')
  (h:AAny P N B ops a C F fuel (listed.setIfInBounds i true) ((d,v) :: env) H):AAny P N B ops a C F (fuel+1) listed env H :=
 qbe i hi hB Y1f (.inl ⟨rfl,fun H hC=>h1 H hC _ _ _ _⟩) h
theorem aq0 {d:Nat} (i:Nat) (hi:ops[i]?=some ⟨some d,op,ty,pos,after,none⟩) (hB:q8u ops listed a i=true) (hd:DN d N) (h1:∀ H',V1 P N op ty (renv ⟨some d,op,ty,pos,after,none⟩ env) H' v)
  (h:AAny P N B ops a C F fuel (listed.setIfInBounds i true) ((d,v) :: env) H):AAny P N B ops a C F (fuel+1) listed env H :=
 q7e i hi hB Y1f (.inl ⟨rfl,fun H _=>(h1 H).toV2 _ _ _ _⟩) h
theorem aqy1 {d j g:Nat} {want:Bool} (i:Nat) (hi:ops[i]?=some ⟨some d,op,ty,pos,after,some (j,want)⟩) (hB:q6m ops listed a i=true) (hd:DN d N) (hj:(ops[j]?).bind (·.dst)=some g) (hb:get env g = .bool want)
  (h1:∀ H',C H'→V1 P N op ty (renv ⟨some d,op,ty,pos,after,some (j,want)⟩ env) H' v)
  (h:AAny P N B ops a C F fuel (listed.setIfInBounds i true) ((d,v) :: env) H):AAny P N B ops a C F (fuel+1) listed env H :=
 qbe i hi hB Y1f (.inl ⟨⟨g,hj,.inl ⟨want,hb,by simp⟩⟩,fun H hC=>(h1 H hC).toV2 _ _ _ _⟩) h
theorem aqy2 {d j g:Nat} {want:Bool} (i:Nat) (hi:ops[i]?=some ⟨some d,op,ty,pos,after,some (j,want)⟩) (hB:q6m ops listed a i=true) (hd:DN d N) (hj:(ops[j]?).bind (·.dst)=some g) (hb:get env g = .bool want)
  (h1:∀ H',C H'→V2 P N op ty (renv ⟨some d,op,ty,pos,after,some (j,want)⟩ env) H' v H')
  (h:AAny P N B ops a C F fuel (listed.setIfInBounds i true) ((d,v) :: env) H):AAny P N B ops a C F (fuel+1) listed env H :=
 qbe i hi hB Y1f (.inl ⟨⟨g,hj,.inl ⟨want,hb,by simp⟩⟩,fun H hC=>h1 H hC _ _ _ _⟩) h
theorem q13 {g:Nat} {b:Bool} (hb:get env g = .bool b) (h1:b=true→AAny P N B ops a C F fuel listed ((g,.bool true) :: env) H) (h2:b=false→AAny P N B ops a C F fuel listed ((g,.bool false) :: env) H):AAny P N B ops a C F fuel listed env H:=by
 have key:Eqv ((g,AV.bool b) :: env) env:=fun t=>by
  by_cases e:g=t
  ·subst e;rw [qt,hb]
  ·rw [qg _ _ e]
 cases b
 ·exact AAny.eqv _ _ _ _ _ key (h2 rfl)
 ·exact AAny.eqv _ _ _ _ _ key (h1 rfl)
theorem aqs {dst:Option Nat} {H':qf} (i:Nat) (hi:ops[i]?=some ⟨dst,op,ty,pos,after,none⟩) (hr:(Region.ready .any ops listed == [i])=true) (hC:Yet a listed→C H) (hd:∀ t,dst=some t→DN t N)
  (h1:V2 P N op ty (renv ⟨dst,op,ty,pos,after,none⟩ env) H v H') (h:AAny P N B ops a C F fuel (listed.setIfInBounds i true) (Av.put env dst v) H'):AAny P N B ops a C F (fuel+1) listed env H :=
 q10d i hi hr hC hd rfl (h1 _ _ _ _) h
theorem aat {dst:Option Nat} {H':qf} {i:Nat} {K:Env→qf→Prop} (hi:ops[i]?=some ⟨dst,op,ty,pos,after,none⟩) (hd:∀ t,dst=some t→DN t N)
  (h1:V2 P N op ty (renv ⟨dst,op,ty,pos,after,none⟩ env) H v H') (h:K (Av.put env dst v) H'):AAt P N ops i env H K :=
 ⟨_,hi,hd,.inl ⟨rfl,_,h1 _ _ _ _,by rintro _ _ ⟨rfl,rfl⟩;exact h⟩⟩
end
theorem qo5 (p q:ByteArray):(p.toList == q.toList)=decide (p=q):=by
 rw [ByteArray.toList_eq,ByteArray.toList_eq,Bool.eq_iff_iff]
 simp
 constructor
 ·intro h;cases p;cases q;simp_all
 ·rintro rfl;rfl
theorem q12t {P:Program} {N:Nat} {env:Env} {H:qf} {ty:TypeId} {x y:Operand} {t t':TypeId} {p q:ByteArray} (hx:aev env x = .str p) (hy:aev env y = .str q):V1 P N (.binOp .eql t x y t') ty env H (.bool (decide (p=q))):=qo5 p q▸q14k hx hy
theorem qny {P:Program} {N:Nat} {env:Env} {H:qf} {ty:TypeId} {x y:Operand} {t t':TypeId} {p q:ByteArray} (hx:aev env x = .str p) (hy:aev env y = .str q):V1 P N (.binOp .neq t x y t') ty env H (.bool (!decide (p=q))):=qo5 p q▸q142 hx hy
theorem qdw {α:Type} {xs:List α} {k:Nat} {r:α} (h:xs[k]?=some r):xs[0+k]?=some r:=by rw [Nat.zero_add];exact h
def AV.up1:AV→AV
 | .nsl=>.pl []
 | v=>v
def AV.up:AV→AV
 | .nsl=>.pl []
 | .agg cs=>.agg (cs.map AV.up1)
 | v=>v
theorem VR.up1 {O:Nat→Prop} {w:World} {S:List Slot} {v:AV} {u:Value} (h:VR O w S v u):VR O w S v.up1 u:=by
 cases h with
 | nsl=>exact .pl (xs:=[]) default 0 (fun _ _=>undef) (Nat.zero_le _) (fun h=>absurd rfl h) (fun _ _ h=>by simp at h) (fun _ h=>by simp at h) (fun _ _ _ _ h=>by simp at h) (fun _ _ _ _ h=>by simp at h)
 | sl s hs hg h1 h=>exact .sl s hs hg h1 h
 | pt s hs hg h1 h=>exact .pt s hs hg h1 h
 | pl base sz u hc hb hs hm hl hv=>exact .pl base sz u hc hb hs hm hl hv
 | pp base sz u hb hs hm hl hv=>exact .pp base sz u hb hs hm hl hv
 | agg hn hl h=>exact .agg hn hl h
 | tup hn h=>exact .tup hn h
 | fn hp hq h1 h2=>exact .fn hp hq h1 h2
 | ifc h=>exact .ifc h
 | know h1 h2 h3 h4=>exact .know h1 h2 h3 h4
 | _=>constructor
theorem AV.up1_leaf (v:AV):v.up1.leaf=v.leaf:=by cases v<;>rfl
theorem VR.up {O:Nat→Prop} {w:World} {S:List Slot} {v:AV} {u:Value} (h:VR O w S v u):VR O w S v.up u:=by
 cases h with
 | @agg _ cs vs hn hl h =>
  refine .agg (by simpa using hn) (fun j v hv=>?_) (fun j v u hv hu=>?_)
  ·rw [List.getElem?_map] at hv
   cases hc:cs[j]? with
   | none=>simp [hc] at hv
   | some c=>simp [hc] at hv;subst hv;rw [AV.up1_leaf];exact hl j c hc
  ·rw [List.getElem?_map] at hv
   cases hc:cs[j]? with
   | none=>simp [hc] at hv
   | some c=>simp [hc] at hv;subst hv;exact (h j c u hc hu).up1
 | nsl=>exact VR.nsl.up1
 | sl s hs hg h1 h=>exact .sl s hs hg h1 h
 | pt s hs hg h1 h=>exact .pt s hs hg h1 h
 | pl base sz u hc hb hs hm hl hv=>exact .pl base sz u hc hb hs hm hl hv
 | pp base sz u hb hs hm hl hv=>exact .pp base sz u hb hs hm hl hv
 | tup hn h=>exact .tup hn h
 | fn hp hq h1 h2=>exact .fn hp hq h1 h2
 | ifc h=>exact .ifc h
 | know h1 h2 h3 h4=>exact .know h1 h2 h3 h4
 | _=>constructor
def AObj.up (o:AObj):AObj:={ o with rows:=o.rows.map (·.map AV.up1) }
theorem HRel.up {H:qf} {S:List Slot} {w:World} (h:HRel H S w) {id:Nat} {o:AObj} (hid:H[id]?=some o):HRel (H.set id o.up) S w:=by
 refine ⟨by simpa using h.len,fun id' o' s' ho' hs'=>?_,h.inj⟩
 by_cases e:id=id'
 ·subst e
  rw [List.getElem?_set_self (List.getElem?_eq_some_iff.1 hid).1] at ho'
  obtain rfl:=Option.some.inj ho'
  have ok:=h.obj id o s' hid hs'
  refine ⟨ok.gen,ok.sz,ok.pos,fun hn=>by simp [AObj.up,ok.nope hn],fun b hb=>?_⟩
  obtain ⟨arr,ty,h1,h2,h3⟩:=ok.lies b hb
  refine ⟨arr,ty,h1,by simpa [AObj.up] using h2,fun i r hr=>?_⟩
  simp only [AObj.up,List.getElem?_map] at hr
  cases hc:o.rows[i]? with
  | none=>simp [hc] at hr
  | some r0 =>
   simp [hc] at hr
   subst hr
   obtain ⟨k1,k2⟩:=h3 i r0 hc
   refine ⟨by simpa [AObj.up] using k1,fun j v hv=>?_⟩
   rw [List.getElem?_map] at hv
   cases hc2:r0[j]? with
   | none=>simp [hc2] at hv
   | some c =>
    simp [hc2] at hv
    subst hv
    obtain ⟨k3,u,k4,k5⟩:=k2 j c hc2
    exact ⟨by rw [AV.up1_leaf];exact k3,u,k4,k5.up1⟩
 ·rw [List.getElem?_set_ne e] at ho'
  exact h.obj id' o' s' ho' hs'
theorem V1.up {P:Program} {N:Nat} {op:Op} {ty:TypeId} {env:Env} {H:qf} {v:AV} (h:V1 P N op ty env H v):V1 P N op ty env H v.up:=fun S a w hc =>
 let ⟨u,h1,h2⟩:=h S a w hc
 ⟨u,h1,h2.up⟩
theorem qy8 {S:List Slot} {w:World} (n sz:Nat):∀ (parts:List (Nat×AV)) (us:List (Nat×Value)) (cs cs':List AV) (vs:Array Value),
  parts.length=us.length→(∀ (j:Nat) (x:Nat×AV) (y:Nat×Value),parts[j]?=some x→us[j]?=some y→x.1=y.1∧VR (own S) w S x.2 y.2)→CellsR S w cs vs→q81 ((List.range n).map fun i=>(i * sz,sz)) cs parts=some cs' →
  ∃ vs',Instr.fill (fun i=>some (i * sz,sz)) vs us=some vs'∧CellsR S w cs' vs':=by
 intro parts
 induction parts with
 | nil =>
  intro us cs cs' vs hl _ h he
  cases us with
  | nil=>simp [q81] at he;subst he;exact ⟨vs,rfl,h⟩
  | cons y us=>simp at hl
 | cons x parts ih =>
  intro us cs cs' vs hl hr h he
  cases us with
  | nil=>simp at hl
  | cons y us =>
   obtain ⟨i,v⟩:=x
   obtain ⟨i',u⟩:=y
   obtain ⟨hi,hv⟩:=hr 0 _ _ rfl rfl
   simp only at hi hv
   subst hi
   unfold q81 at he
   cases hpl:((List.range n).map fun i=>(i * sz,sz))[i]? with
   | none=>rw [hpl] at he;cases he
   | some x =>
    have hx:x=(i * sz,sz):=by
     rw [List.getElem?_map] at hpl
     cases hi:(List.range n)[i]? with
     | none=>simp [hi] at hpl
     | some k =>
      have hk:k=i:=by
       have:=List.getElem?_eq_some_iff.1 hi
       obtain ⟨hlt,e⟩:=this
       simpa using e.symm
      rw [hi] at hpl
      subst hk
      exact (Option.some.inj hpl).symm
    subst hx
    rw [hpl] at he
    simp only at he
    split at he
    ·rename_i hcnd
     obtain ⟨c1,c2,c3⟩:=hcnd
     obtain ⟨k1,_,k3⟩:=hv.cells c3
     have hput:=h.put ⟨k1,k3⟩ (off:=i * sz) (by omega)
     rw [c1] at hput
     obtain ⟨vs',e1,e2⟩:=ih us _ cs' _ (by simpa using hl) (fun j x y hx hy=>hr (j+1) x y hx hy) hput he
     refine ⟨vs',?_,e2⟩
     have hif:(decide (u.cells.size≠sz)||decide (i * sz+u.cells.size > vs.size))=false:=by
      have:=h.1
      simp
      omega
     unfold Instr.fill
     simp only [hif,Bool.false_eq_true,if_false]
     exact e1
    ·cases he
theorem qqu {P:Program} {N:Nat} {env:Env} {H:qf} {ty t e:TypeId} {n sz:Nat} {agg:Bool} {parts:Array (Nat×Operand)} {zs cs:List AV} [hz:ZcI P t zs] [ha:ArI P t n e] [TyI P e agg sz] (hf:q81 ((List.range n).map fun i=>(i * sz,sz)) zs (parts.toList.map fun (i,x)=>(i,aev env x))=some cs) :
  V1 P N (.build t parts) ty env H (.agg cs):=by
 intro S a w hc
 obtain ⟨z,hz1,hz2⟩:=ql7 (P:=P) (t:=t) S w
 obtain ⟨h1,h2⟩:=qin hc parts
 obtain ⟨vs',e1,e2⟩:=qy8 (S:=S) (w:=w) n sz _ _ zs cs z.cells h1 h2 hz2 hf
 refine ⟨.agg vs',fun _ _ _ _=>?_,e2.agg⟩
 simp only [execOp,Instr.build,Sem.run_bind,hz1,Result.andThen_ok,q1a ha.ud,q4e (P:=P) (t:=e) (agg:=agg) (sz:=sz),e1,Sem.run_pure]
theorem q123 {H:qf} {S S':List Slot} {w w':World} {o:AObj} {off len cap:Nat} {ys:List (List AV)} {u:Value} (h0:HRel H S w) (hx:Ext S w S' w') (hh:HRel (H++[o]) S' w')
  (hv:VR (own S') w' S' (.sl H.length o.gen off len cap) u) (hys:(o.rows.drop off).take len=ys) (hlen:ys.length=len) (hp:∀ r∈ys,AV.bels 0 r=true) :
  ∃ S'',HRel H S'' w'∧Ext S w S'' w'∧VR (own S'') w' S'' (.pl ys) u:=by
 let a:Act:={ tmps:=#[u],defers:=[] }
 have hc:CR 1 [(0,.sl H.length o.gen off len cap)] (H++[o]) S' a w':=⟨hh,fun t=>by
  cases t with
  | zero=>exact hv
  | succ t=>exact .junk,rfl,rfl⟩
 obtain ⟨S2,h2,x2⟩:=hc.freeze (B:=⟨S,w⟩) (t:=0) (id:=H.length) (cap:=cap) (o:=o) hx rfl (by simp) hys hlen hp
 have h3:=h2.sub (E:=[(0,.pl ys)]) (Sub.cons rfl Sub.nil)
 rw [List.set_append_right _ _ (Nat.le_refl _)] at h3
 simp only [Nat.sub_self,List.set_cons_zero] at h3
 have hb:(AV.pl ys).bel H.length=true:=by
  exact rfl
 obtain ⟨S4,h4,x4⟩:=h3.fit (B:=⟨S,w⟩) (M:=H) x2 (.inr ⟨[⟨o.gen+1,o.sz,[]⟩],rfl,by rw [h0.len];exact Nat.le_refl _,EBel.cons hb EBel.nil,h0.bel⟩)
 exact ⟨S4,h4.heap,x4,h4.env 0⟩
theorem q13t {H:qf} {S S':List Slot} {w w':World} {id len cap m:Nat} (hm:m≤max cap len) {o:AObj} {u:Value} (hx:Ext S w S' w') (hh:HRel H S' w') (hid:H[id]?=some o)
  (hv:VR (own S') w' S' (.sl id o.gen 0 len cap) u) :
  ∃ S'',HRel (H.set id ⟨o.gen+1,o.sz,o.rows.take len⟩) S'' w'∧Ext S w S'' w'∧VR (own S'') w' S'' (.sl id (o.gen+1) 0 len m) u:=by
 obtain ⟨s,hs,ok⟩:=hh.slot hid
 have hlt:id<S'.length:=(List.getElem?_eq_some_iff.1 hs).1
 have hltH:id<H.length:=(List.getElem?_eq_some_iff.1 hid).1
 have hown:∀ b,own (S'.set id ⟨s.gen+1,s.sz,s.place⟩) b↔own S' b:=by
  intro b
  constructor
  ·rintro ⟨i,si,hi,hpi⟩
   by_cases e:id=i
   ·subst e
    rw [List.getElem?_set_self hlt] at hi
    obtain rfl:=Option.some.inj hi
    exact ⟨id,s,hs,hpi⟩
   ·rw [List.getElem?_set_ne e] at hi
    exact ⟨i,si,hi,hpi⟩
  ·rintro ⟨i,si,hi,hpi⟩
   by_cases e:id=i
   ·subst e
    rw [hs] at hi
    obtain rfl:=Option.some.inj hi
    exact ⟨id,_,List.getElem?_set_self hlt,hpi⟩
   ·exact ⟨i,si,by rw [List.getElem?_set_ne e];exact hi,hpi⟩
 have hx2:Ext S' w' (S'.set id ⟨s.gen+1,s.sz,s.place⟩) w':=⟨rfl,rfl,rfl,⟨Nat.le_refl _,fun b _ ho=>⟨fun k=>ho ((hown b).1 k),rfl⟩,fun _ arr _ h=>⟨arr,h,rfl⟩⟩,SExt.bump hs (by simp)⟩
 have hh2:HRel (H.set id ⟨o.gen+1,o.sz,o.rows.take len⟩) (S'.set id ⟨s.gen+1,s.sz,s.place⟩) w':=by
  refine ⟨by simpa using hh.len,fun id' o' s' ho' hs'=>?_,fun i j si sj b hi hj hbi hbj=>?_⟩
  ·by_cases e:id=id'
   ·subst e
    rw [List.getElem?_set_self hlt] at hs'
    rw [List.getElem?_set_self hltH] at ho'
    obtain rfl:=Option.some.inj hs'
    obtain rfl:=Option.some.inj ho'
    refine ⟨by simp [ok.gen],ok.sz,ok.pos,fun hn=>by simp [ok.nope hn],fun b hb=>?_⟩
    obtain ⟨arr,ty',h1,h2⟩:=ok.row hb
    have h2':=h2.mono hx2.stp hx2.slots
    refine ⟨arr,ty',h1,Nat.le_trans (Nat.mul_le_mul_right _ Y1x) h2'.1,fun i r hr=>h2'.2 i r ?_⟩
    rw [List.getElem?_take] at hr
    split at hr
    ·exact hr
    ·cases hr
   ·rw [List.getElem?_set_ne e] at ho' hs'
    have ok':=hh.obj id' o' s' ho' hs'
    refine ⟨ok'.gen,ok'.sz,ok'.pos,ok'.nope,fun b hb=>?_⟩
    obtain ⟨arr,ty',h1,h2⟩:=ok'.row hb
    exact ⟨arr,ty',h1,(h2.mono hx2.stp hx2.slots).1,(h2.mono hx2.stp hx2.slots).2⟩
  ·have key:∀ {i:Nat} {si:Slot},(S'.set id ⟨s.gen+1,s.sz,s.place⟩)[i]?=some si→∃ ti:Slot,S'[i]?=some ti∧ti.place=si.place:=by
    intro i si h
    by_cases e:id=i
    ·subst e
     rw [List.getElem?_set_self hlt] at h
     obtain rfl:=Option.some.inj h
     exact ⟨s,hs,rfl⟩
    ·rw [List.getElem?_set_ne e] at h
     exact ⟨si,h,rfl⟩
   obtain ⟨ti,hti,hpi⟩:=key hi
   obtain ⟨tj,htj,hpj⟩:=key hj
   exact hh.inj i j ti tj b hti htj (hpi.trans hbi) (hpj.trans hbj)
 refine ⟨_,hh2,hx.trans hx2,?_⟩
 cases hv with
 | sl s' hs' hg h1 hsl =>
  rw [hs] at hs'
  obtain rfl:=Option.some.inj hs'
  refine .sl ⟨s.gen+1,s.sz,s.place⟩ (List.getElem?_set_self hlt) (by simp [ok.gen]) h1 fun _=>?_
  obtain ⟨c,hc1,hc2,hsl⟩:=hsl ok.gen.symm
  exact ⟨c,by omega,hc2,hsl⟩
theorem VRs.up {O:Nat→Prop} {w:World} {S:List Slot} {vs:List AV} {us:Array Value} (h:VRs O w S vs us):VRs O w S (vs.map AV.up) us:=by
 refine ⟨by simpa using h.1,fun i v u hv hu=>?_⟩
 rw [List.getElem?_map] at hv
 cases hc:vs[i]? with
 | none=>simp [hc] at hv
 | some c=>simp [hc] at hv;subst hv;exact (h.2 i c u hc hu).up
theorem AC.up {P:Program} {f:FuncId} {vs us:List AV} {H:qf} {R:AOut→qf→Prop} (h:AC P f us H R) (hvs:vs.map AV.up=us):AC P f vs H R:=fun S w cargs hH hv=>h S w cargs hH (hvs▸hv.up)
section
variable {P : Program} {N : Nat} {B : Base} {env : Env} {H H0 L : qf} {op : Op} {ty : TypeId}
theorem V2.freeze {o:AObj} {g off len cap:Nat} {ys:List (List AV)} (h:V2 P N op ty env H (.sl H.length g off len cap) (H++[o])) (hg:o.gen=g) (hys:(o.rows.drop off).take len=ys) (hlen:ys.length=len) (hp:∀ r∈ys,AV.bels 0 r=true) :
  V2 P N op ty env H (.pl ys) H:=by
 subst hg
 intro dst pos after guard S a w hc next Q hn hq
 refine h dst pos after guard S a w hc next Q ?_ (fun _ _ _ _ _ hf=>hf.elim)
 rintro v u H' S' w' ⟨rfl,rfl⟩ hh hx hv
 obtain ⟨S2,h2,x2,v2⟩:=q123 hc.heap hx hh hv hys hlen hp
 exact hn _ _ _ S2 w' ⟨rfl,rfl⟩ h2 x2 v2
theorem V2.freeze1 {o:AObj} {g len cap:Nat} (h:V2 P N op ty env H (.sl H.length g 0 len cap) (H++[o])) (hg:o.gen=g) (hlen:o.rows.length=len) (hp:∀ r∈o.rows,AV.bels 0 r=true) :
  V2 P N op ty env H (.pl o.rows) H:=h.freeze hg Yr hlen hp
theorem V2.freezeL {o:AObj} {g k len cap:Nat} (h:V2 P N op ty env (H0++L) (.sl (Lid H0.length k) g 0 len cap) (H0++(L++[o]))) (hk:L.length=k) (hg:o.gen=g) (hlen:o.rows.length=len) (hp:∀ r∈o.rows,AV.bels 0 r=true) :
  V2 P N op ty env (H0++L) (.pl o.rows) (H0++L):=by
 rw [← qtt hk,← List.append_assoc] at h
 exact V2.freeze1 (g:=g) (len:=len) (cap:=cap) (by simpa [Lid] using h) hg hlen hp
theorem V2.ghost (h:V2 P N op ty env H .nsl H) (sz:Nat) (hp:0<sz):V2 P N op ty env H (.sl H.length 0 0 0 0) (H++[⟨0,sz,[]⟩]):=by
 intro dst pos after guard S a w hc next Q hn hq
 refine h dst pos after guard S a w hc next Q ?_ (fun _ _ _ _ _ hf=>hf.elim)
 rintro v u H' S' w' ⟨rfl,rfl⟩ hh hx hv
 have hc1:CR 1 [(0,.nsl)] H' S' { tmps:=#[u],defers:=[] } w':=⟨hh,fun t=>by
  cases t with
  | zero=>exact hv
  | succ t=>exact .junk,rfl,rfl⟩
 obtain ⟨S2,h2,x2⟩:=hc1.ghost (B:=⟨S,w⟩) (t:=0) hx rfl hp
 exact hn _ _ _ S2 w' ⟨rfl,rfl⟩ h2.heap x2 (h2.env 0)
theorem V2.bump {id len cap m:Nat} {o:AObj} (hm:m≤max cap len) (h:V2 P N op ty env H (.sl id o.gen 0 len cap) H) (hid:H[id]?=some o):V2 P N op ty env H (.sl id (o.gen+1) 0 len m) (H.set id ⟨o.gen+1,o.sz,o.rows.take len⟩):=by
 intro dst pos after guard S a w hc next Q hn hq
 refine h dst pos after guard S a w hc next Q ?_ (fun _ _ _ _ _ hf=>hf.elim)
 rintro v u H' S' w' ⟨rfl,rfl⟩ hh hx hv
 obtain ⟨S2,h2,x2,v2⟩:=q13t hm hx hh hid hv
 exact hn _ _ _ S2 w' ⟨rfl,rfl⟩ h2 x2 v2
theorem q8o {t t' e:TypeId} {x y:Operand} {sz bytes k:Nat} {agg:Bool} {zs:List AV} {ys:List (List AV)} [hu:SlI P t e] [NiI P t'] [TyI P e agg sz] [hz:ZcI P e zs] [ByI P e bytes]
  (hx:aev env x = .nsl) (hy:Src P N env (H0++L) y sz ys) (hn:zs.length=sz) (hp:0<sz) (h63:ys.length≤9223372036854775807) (hb:ys.length * bytes≤140737488355328) (hk:L.length=k) :
  V2 P N (.call { callee:=.builtin .append,args:=#[x,y],argTypes:=#[t,t'] }) ty env (H0++L) (.sl (Lid H0.length k) 0 0 ys.length ys.length) (H0++(L++[⟨0,sz,ys⟩])):=by
 rcases Nat.eq_zero_or_pos ys.length with h0 | h0
 ·have:ys=[]:=List.eq_nil_of_length_eq_zero h0
  subst this
  have:=(qia (P:=P) (N:=N) (env:=env) (H:=H0++L) (ty:=ty) (t:=t) (t':=t') (e:=e) (agg:=agg) (sz:=sz) hx hy).ghost sz hp
  rw [List.length_append,hk,List.append_assoc] at this
  exact this
 ·exact qi7 (agg:=agg) (e:=e) (zs:=zs) hn hp hx hy h0 h63 hb hk
theorem qio {t t' e:TypeId} {x y:Operand} {n k g len cap sz bytes:Nat} {agg:Bool} {zs:List AV} {o:AObj} {ys:List (List AV)} [hu:SlI P t e] [NiI P t'] [TyI P e agg sz] [hz:ZcI P e zs] [ByI P e bytes]
  (hx:aev env x = .sl (Lid n k) g 0 len cap) (hn:H0.length=n) (hk:L[k]?=some o) (hg:o.gen=g) (hsz:o.sz=sz) (hy:Src P N env (H0++L) y sz ys) (hz':zs.length=sz) (hlen:len≤o.rows.length) (h63:len+ys.length≤9223372036854775807) (hb:(len+ys.length) * bytes≤140737488355328) :
  V2 P N (.call { callee:=.builtin .append,args:=#[x,y],argTypes:=#[t,t'] }) ty env (H0++L) (.sl (Lid n k) (g+1) 0 (len+ys.length) (len+ys.length)) (H0++L.set k ⟨g+1,o.sz,o.rows.take len++ys⟩):=by
 rcases Nat.eq_zero_or_pos ys.length with h0 | h0
 ·have:ys=[]:=List.eq_nil_of_length_eq_zero h0
  subst this
  subst hg
  have:=(qjw (P:=P) (N:=N) (env:=env) (H:=H0++L) (ty:=ty) (t:=t) (t':=t') (e:=e) (agg:=agg) (sz:=sz) hx (lk hn hk) hy).bump (m:=len) (by omega) (lk hn hk)
  rw [st hn] at this
  simpa using this
 ·exact q47 (agg:=agg) (e:=e) (zs:=zs) hx hn hk hg hsz hy hz' hlen h0 h63 hb
theorem q117 {t e:TypeId} {x:Operand} {id off len cap sz:Nat} {agg:Bool} {zs:List AV} {o:AObj} [hu:SlI P t e] [TyI P e agg sz] [hz:ZcI P e zs] (hx:aev env x = .sl id o.gen off len cap) (hid:H[id]?=some o) (hsz:o.sz=sz) (hn:zs.length=sz) :
  V2 P N (.call { callee:=.builtin .clear,args:=#[x],argTypes:=#[t] }) ty env H (.tup []) (H.set id { o with rows:=o.rows.take off }):=by
 intro dst pos after guard S a w hc next Q hnext _
 obtain ⟨s,c,hsl,ok,hcc,hlc,h⟩:=hc.slc hx hid
 have hlt:id<S.length:=(List.getElem?_eq_some_iff.1 hsl).1
 obtain ⟨z,hz1,hz2⟩:=ql7 (P:=P) (t:=e) S w
 have key:∀ w1,(Builtin.clear_ #[t] ty #[a.eval x]).run P w = .ok (.tuple #[]) w1→(∃ H',(H'=H.set id { o with rows:=o.rows.take off })∧HRel H' S w1∧Ext S w S w1)→Oper.wp P ⟨dst,.call { callee:=.builtin .clear,args:=#[x],argTypes:=#[t] },ty,pos,after,guard⟩ a w next Q:=by
  rintro w1 hr ⟨H',rfl,hh,hx'⟩
  have hrun:(execOp a.eval ⟨dst,.call { callee:=.builtin .clear,args:=#[x],argTypes:=#[t] },ty,pos,after,guard⟩).run P w = .ok (.value (.tuple #[])) w1:=by
   simp [execOp,resolve,invoke,builtin,hr]
  unfold Oper.wp
  rw [hrun]
  exact hnext _ _ _ _ _ ⟨rfl,rfl⟩ hh hx' qdh
 have take_hrel:∀ (hnil:o.rows.take off=o.rows∨s.place=none∨True),HRel (H.set id { o with rows:=o.rows.take off }) S w:=by
  intro _
  refine ⟨by simpa using hc.heap.len,fun id' o' s' ho' hs'=>?_,hc.heap.inj⟩
  by_cases e:id=id'
  ·subst e
   rw [List.getElem?_set_self (List.getElem?_eq_some_iff.1 hid).1] at ho'
   obtain rfl:=Option.some.inj ho'
   rw [hsl] at hs'
   obtain rfl:=Option.some.inj hs'
   refine ⟨ok.gen,ok.sz,ok.pos,fun hn=>by simp [ok.nope hn],fun b hb=>?_⟩
   obtain ⟨arr,ty',h1,h2⟩:=ok.row hb
   refine ⟨arr,ty',h1,Nat.le_trans (Nat.mul_le_mul_right _ Y1x) h2.1,fun i r hr=>h2.2 i r ?_⟩
   rw [List.getElem?_take] at hr
   split at hr
   ·exact hr
   ·cases hr
  ·rw [List.getElem?_set_ne e] at ho'
   exact hc.heap.obj id' o' s' ho' hs'
 rcases h with ⟨h0,ad,he⟩ | ⟨b,arr,et,hp,he,hbl,hfit,hrow⟩
 ·refine key w ?_ ⟨_,rfl,take_hrel (.inr (.inr trivial)),Ext.refl S w⟩
  rw [he]
  cases ad<;>simp [Builtin.clear_,q1a hu.ud]
 ·rcases Nat.eq_zero_or_pos len with h0 | h0
  ·subst h0
   refine key w ?_ ⟨_,rfl,take_hrel (.inr (.inr trivial)),Ext.refl S w⟩
   rw [he]
   simp [Builtin.clear_,q1a hu.ud]
  ·have hzn:z.cells.size=sz:=by
    have:=hz2.1
    omega
   have hvs:(Builtin.zeroCells z.cells len).toList.length=len * sz:=by rw [Array.length_toList,size_zeroCells,hzn]
   have hfit2:off * o.sz+(Builtin.zeroCells z.cells len).toList.length≤arr.size:=by
    rw [hvs,hsz,← Nat.add_mul]
    rw [hsz] at hfit
    exact Nat.le_trans (Nat.mul_le_mul_right _ (by omega)) hfit
   have hone:∀ v∈(Builtin.zeroCells z.cells len).toList,v.oneCell'=true:=by
    intro v hv
    obtain ⟨i,hi⟩:=List.mem_iff_getElem?.1 hv
    rw [Array.getElem?_toList] at hi
    have hi2:=(Array.getElem?_eq_some_iff.1 hi).1
    have hpos:0<z.cells.size:=by
     rcases Nat.eq_zero_or_pos z.cells.size with e | e
     ·rw [size_zeroCells,e] at hi2;simp at hi2
     ·exact e
    have hm:i % z.cells.size<z.cells.size:=Nat.mod_lt _ hpos
    have hv2:v=z.cells[i % z.cells.size]:=by
     have:=(Array.getElem?_eq_some_iff.1 hi).2
     rw [← this]
     simp [Builtin.zeroCells,hm]
    have hj:i % z.cells.size<zs.length:=by rw [hn,← hzn];exact hm
    obtain ⟨h1,u,h2,h3⟩:=hz2.2 _ _ (List.getElem?_eq_getElem hj)
    rw [Array.getElem?_eq_getElem hm] at h2
    rw [hv2,Option.some.inj h2]
    exact h3.one h1
   have hst:=run_storeCells_at P b (off * o.sz) et (Builtin.zeroCells z.cells len).toList 0 arr w hbl (by simpa using hfit2) hone
   simp only [Nat.add_zero] at hst
   have hw:=hc.heap.write (rows':=o.rows.take off) (arr':=(arr.toList.take (off * o.sz)++(Builtin.zeroCells z.cells len).toList++arr.toList.drop (off * o.sz+(Builtin.zeroCells z.cells len).toList.length)).toArray) hid hsl hp hbl (by simp only [List.size_toArray,List.length_append,List.length_take,List.length_drop,Array.length_toList] at *;omega) ?_
   ·refine key _ ?_ ⟨_,rfl,hw.1,hw.2⟩
    rw [he]
    have hl:∃ m,len=m+1:=⟨len-1,by omega⟩
    obtain ⟨m,rfl⟩:=hl
    simp [Builtin.clear_,q1a hu.ud,hz1,hst]
   ·refine ⟨?_,fun i r hr=>?_⟩
    ·have:=hrow.1
     have h2:(o.rows.take off).length * o.sz≤o.rows.length * o.sz:=Nat.mul_le_mul_right _ Y1x
     simp only [List.size_toArray,List.length_append,List.length_take,List.length_drop,Array.length_toList] at *
     omega
    ·have hi:i<off:=by
      have:=(List.getElem?_eq_some_iff.1 hr).1
      simp at this;omega
     have hr':o.rows[i]?=some r:=by
      rw [List.getElem?_take,if_pos hi] at hr;exact hr
     obtain ⟨k1,k2⟩:=hrow.2 i r hr'
     refine ⟨k1,fun j v hv=>?_⟩
     obtain ⟨k3,u,k4,k5⟩:=k2 j v hv
     have hj:j<o.sz:=by rw [← k1];exact (List.getElem?_eq_some_iff.1 hv).1
     have hlt2:i * o.sz+j<off * o.sz:=by
      have:(i+1) * o.sz≤off * o.sz:=Nat.mul_le_mul_right _ hi
      rw [Nat.succ_mul] at this
      omega
     refine ⟨k3,u,?_,k5⟩
     have hlt3:i * o.sz+j<arr.size:=(Array.getElem?_eq_some_iff.1 k4).1
     rw [List.getElem?_toArray,List.append_assoc,List.getElem?_append_left Y1x,List.getElem?_take,if_pos hlt2,Array.getElem?_toList]
     exact k4
theorem q5e {t e:TypeId} {sz:Nat} {x:Operand} {v:AV} {agg:Bool} {zs cs:List AV} [hu:SlI P t e] [TyI P e agg sz] [hz:ZcI P e zs] (hn:zs.length=sz) (hp:0<sz) (hbig:sz≤16777216) (hx:aev env x=v) (hv:v.cellish=true) (hcs:v.cells=cs) (hl:cs.length=sz) (hb:AV.bels 0 cs=true) :
  V2 P N (.buildSlice t 1 #[(0,x)]) ty env H (.pl [cs]) H:=by
 have h1:=q2c (P:=P) (N:=N) (env:=env) (H0:=H) (L:=[]) (ty:=ty) (t:=t) (e:=e) (agg:=agg) (zs:=zs) hn hp hbig hx hv hcs hl rfl
 have:=V2.freezeL (L:=[]) h1 rfl rfl rfl (by intro r hr;simp only [List.mem_singleton] at hr;subst hr;exact hb)
 simpa using this
theorem qu9 {t e:TypeId} {x hi mx:Operand} {lo:Option Operand} {k k':IntKind} {id g off len cap l h m sz:Nat} {agg:Bool} {o:AObj} [hu:SlI P t e] [TyI P e agg sz] (hx:aev env x = .sl id g off len cap) (hid:H[id]?=some o) (hg:o.gen=g) (hsz:o.sz=sz) (hl:Bd env lo 0 l) (hh:aev env hi = .int k (h:Int)) (hm:aev env mx = .int k' (m:Int)) (h1:l≤h) (h2:h≤m) (h3:m≤max len cap) :
  V1 P N (.slice t x lo (Option.some hi) (Option.some mx)) ty env H (.sl id g (off+l) (h-l) (m-l)):=by
 subst hg
 intro S a w hc
 obtain ⟨s,c,hs,ok,hcc,hlc,hh2⟩:=hc.slc hx hid
 rcases hh2 with ⟨h0,ad,he⟩ | ⟨b,arr,et,hp,he,hb,hfit,hrow⟩
 ·obtain rfl:m=0:=by omega
  obtain rfl:h=0:=by omega
  obtain rfl:l=0:=by omega
  have el:len=0:=by omega
  subst el
  have hb':=q8a (P:=P) hc true (len:=0) (cap:=0) hl hh hm h1 (by omega) (by omega)
  refine ⟨.slice ad 0 0,fun _ _ _ _=>?_,.sl s hs Yz rfl fun _=>⟨0,by omega,by omega,.inl ⟨rfl,ad,rfl⟩⟩⟩
  simp [execOp,he,Instr.sliceAt,Instr.slice,q1a hu.ud,hb',q4e (P:=P) (t:=e) (agg:=agg) (sz:=sz)]
 ·have hb':=q8a (P:=P) hc true (len:=len) (cap:=c) hl hh hm h1 h2 (by omega)
  refine ⟨.slice (if m=l then some ⟨b,off * o.sz,none⟩ else some ⟨b,(off+l) * o.sz,none⟩) (h-l) (m-l),fun _ _ _ _=>?_,.sl s hs Yz rfl fun _=>⟨m-l,by omega,by omega,?_⟩⟩
  ·have e1:(⟨b,off * o.sz,none⟩:Addr).add (l * sz)=⟨b,(off+l) * o.sz,none⟩:=by rw [q3z,hsz,Nat.add_mul]
   simp [execOp,he,Instr.sliceAt,Instr.slice,q1a hu.ud,hb',q4e (P:=P) (t:=e) (agg:=agg) (sz:=sz),e1]
  ·by_cases e1:m=l
   ·left
    refine ⟨by omega,some ⟨b,off * o.sz,none⟩,?_⟩
    rw [if_pos e1,show h-l=0 by omega,show m-l=0 by omega]
   ·right
    refine ⟨b,arr,et,hp,by rw [if_neg e1,ok.sz],hb,?_⟩
    rw [← ok.sz]
    refine Nat.le_trans (Nat.mul_le_mul_right _ ?_) hfit
    omega
theorem qkl {t t' e:TypeId} {x y:Operand} {id g len cap sz bytes:Nat} {agg:Bool} {zs:List AV} {o:AObj} {ys:List (List AV)} (m:Nat) [hu:SlI P t e] [NiI P t'] [TyI P e agg sz] [hz:ZcI P e zs] [ByI P e bytes]
  (hx:aev env x = .sl id g 0 len cap) (hid:H[id]?=some o) (hg:o.gen=g) (hsz:o.sz=sz) (hy:Src P N env H y sz ys) (hz':zs.length=sz) (hlen:len≤o.rows.length) (h63:len+ys.length≤9223372036854775807) (hb:(len+ys.length) * bytes≤140737488355328) (hm:m≤max cap (len+ys.length)) :
  V2 P N (.call { callee:=.builtin .append,args:=#[x,y],argTypes:=#[t,t'] }) ty env H (.sl id (g+1) 0 (len+ys.length) m) (H.set id ⟨g+1,o.sz,o.rows.take len++ys⟩):=by
 subst hg
 rcases Nat.eq_zero_or_pos ys.length with h0 | h0
 ·have:ys=[]:=List.eq_nil_of_length_eq_zero h0
  subst this
  have:=(qjw (P:=P) (N:=N) (env:=env) (H:=H) (ty:=ty) (t:=t) (t':=t') (e:=e) (agg:=agg) (sz:=sz) hx hid hy).bump (m:=m) (by simpa using hm) hid
  simpa using this
 ·exact qjx (agg:=agg) (e:=e) (zs:=zs) hz' hx hid hsz hlen hy h0 h63 hb hm
theorem q5f {t t' e:TypeId} {x y:Operand} {id g len cap sz bytes:Nat} {agg:Bool} {zs:List AV} {o:AObj} {ys:List (List AV)} (m:Nat) [hu:SlI P t e] [NiI P t'] [TyI P e agg sz] [hz:ZcI P e zs] [ByI P e bytes]
  (hx:aev env x = .sl id g 0 len cap) (hid:H0[id]?=some o) (hg:o.gen=g) (hsz:o.sz=sz) (hy:Src P N env (H0++L) y sz ys) (hz':zs.length=sz) (hlen:len≤o.rows.length) (h63:len+ys.length≤9223372036854775807) (hb:(len+ys.length) * bytes≤140737488355328) (hm:m≤max cap (len+ys.length)) :
  V2 P N (.call { callee:=.builtin .append,args:=#[x,y],argTypes:=#[t,t'] }) ty env (H0++L) (.sl id (g+1) 0 (len+ys.length) m) (H0.set id ⟨g+1,o.sz,o.rows.take len++ys⟩++L):=by
 have:=qkl (P:=P) (N:=N) (env:=env) (H:=H0++L) (ty:=ty) (t:=t) (t':=t') (e:=e) (agg:=agg) (zs:=zs) (bytes:=bytes) m hx (lkF hid) hg hsz hy hz' hlen h63 hb hm
 rwa [stF hid] at this
theorem qxr {t e:TypeId} {x:Operand} {id g off len cap sz:Nat} {agg:Bool} {zs:List AV} {o:AObj} [hu:SlI P t e] [TyI P e agg sz] [hz:ZcI P e zs] (hx:aev env x = .sl id g off len cap) (hid:H0[id]?=some o) (hg:o.gen=g) (hsz:o.sz=sz) (hz':zs.length=sz) :
  V2 P N (.call { callee:=.builtin .clear,args:=#[x],argTypes:=#[t] }) ty env (H0++L) (.tup []) (H0.set id { o with rows:=o.rows.take off }++L):=by
 subst hg
 have:=q117 (P:=P) (N:=N) (env:=env) (H:=H0++L) (ty:=ty) (t:=t) (e:=e) (agg:=agg) (zs:=zs) hx (lkF hid) hsz hz'
 rwa [stF hid] at this
theorem q3v {B:Base} {rs:List ResultVar} {vs:List AV} {v:AV} {args:List AV} {M:qf} (hB:Begun B H args) (h:ResVs P env (M++L) rs vs) (hv:qwp vs=v) (hb:v.bel H.length=true) (hl:M.length=H.length) (hM:HBel H.length M):Ends P B rs (Ret v M) .ret env (M++L):=by
 refine ⟨vs,M,h,.inr ⟨L,rfl,by rw [hB.len,hl];exact Nat.le_refl _,by rw [hv,hl];exact hb,by rw [hl];exact hM⟩,by rw [hv],rfl⟩
theorem HBel.set {n:Nat} {M:qf} (h:HBel n M) (id:Nat) (o:AObj) (ho:∀ r∈o.rows,AV.bels n r=true):HBel n (M.set id o):=fun o' ho'=>by
 rcases List.mem_or_eq_of_mem_set ho' with h1 | rfl
 ·exact h o' h1
 ·exact ho
theorem V2.callo3 {f g n c id':Nat} {xs:Array Operand} {ts:Array TypeId} {vs:List AV} {o:AObj} {k:Nat} [FnI P f] (hac:AC P f vs (H0++L) (Ret (.sl id' g 0 n c) ((H0++L).set id' o))) (hvs:xs.toList.map (aev env)=vs) (hk:id'=Lid H0.length k) :
  V2 P N (.call { callee:=.value (.func f),args:=xs,argTypes:=ts }) ty env (H0++L) (.sl (Lid H0.length k) g 0 n c) (H0++L.set k o):=by
 subst hk
 have:=V2.call (N:=N) (ty:=ty) (ts:=ts) hac hvs
 rwa [st rfl] at this
end
def qzg (B:Base) (E:Env) (M:qf) (Q:q6g):q6g
 | .nrm,e,H=>Sub E e∧Fit B E H M
 | x,e,H=>Q x e H
section
variable {P : Program} {N : Nat} {B : Base} {Q : q6g} {env : Env} {H : qf}
theorem q2x {x:Code} (E:Env) (M:qf) (h:AWp P N B x (qzg B E M Q) env H) (k:Q .nrm E M):AWp P N B x Q env H:=by
 intro S a w hc hb
 refine wp_mono (h S a w hc hb) ?_
 rintro e a' w' ⟨ax,env',H',S',hj,r,c',k'⟩
 cases ax with
 | nrm =>
  cases r
  obtain ⟨S2,c2,k2⟩:=(c'.sub hj.1).fit k' hj.2
  exact ⟨.nrm,E,M,S2,k,.nrm,c2,k2⟩
 | brk i=>exact ⟨_,env',H',S',hj,r,c',k'⟩
 | ret=>exact ⟨_,env',H',S',hj,r,c',k'⟩
 | pan v=>exact ⟨_,env',H',S',hj,r,c',k'⟩
theorem q1u {E:Env} {M:qf} (h1:Sub E env) (h2:Fit B E H M):qzg B E M Q .nrm env H:=⟨h1,h2⟩
theorem q7z {E:Env} {M:qf} (h:Q .ret env H):qzg B E M Q .ret env H:=h
theorem q7y {E:Env} {M:qf} {i:Nat} (h:Q (.brk i) env H):qzg B E M Q (.brk i) env H:=h
end
def AtR (H0 L0:qf) (k:Nat) (H:qf):Prop:=∃ G:qf,H=H0++G∧G[k]?=L0[k]?
def Pre (H0 L0 H:qf):Prop:=∃ G,H=H0++(L0++G)
section
variable {P : Program} {N : Nat} {B : Base} {ops : Array Oper} {a : Option Nat} {C : qf → Prop} {F : Env → qf → Prop} {Q : q6g}
variable {fuel : Nat} {listed : Array Bool} {env : Env} {H H0 L : qf} {op : Op} {ty : TypeId} {pos : String} {after : Array Edge} {v : AV} {id : Nat} {l : List Oper}
theorem qz6 {X:Prop} {i:Nat} (h:listed.getD i true=true):Yet (some i) listed→X:=fun k=>by
 have:listed.getD i true=false:=k
 rw [h] at this
 cases this
theorem q3i (hm:P.follows .mixedOrders=true) (a:Option Nat) (k:Nat) (h:AAny P N B l.toArray a (Pre H0 (L.take k)) (Q .nrm) l.length (Array.replicate l.length false) env (H0++L)):AWp P N B (.region id l.toArray true) Q env (H0++L):=qhi hm a _ h
theorem qdq (hm:P.follows .mixedOrders=true) (a:Option Nat) (k:Nat) (h:AAny P N B l.toArray a (AtR H0 L k) (Q .nrm) l.length (Array.replicate l.length false) env (H0++L)):AWp P N B (.region id l.toArray true) Q env (H0++L):=qhi hm a _ h
theorem aqr {d k:Nat} {L0:qf} (i:Nat) (hi:ops[i]?=some ⟨some d,op,ty,pos,after,none⟩) (hB:q6m ops listed a i=true) (hd:DN d N) (h1:∀ G:qf,G[k]?=L0[k]?→V1 P N op ty (renv ⟨some d,op,ty,pos,after,none⟩ env) (H0++G) v)
  (h:AAny P N B ops a (AtR H0 L0 k) F fuel (listed.setIfInBounds i true) ((d,v) :: env) H):AAny P N B ops a (AtR H0 L0 k) F (fuel+1) listed env H :=
 aq1 i hi hB hd (by rintro _ ⟨G,rfl,hG⟩;exact h1 G hG) h
theorem q20 {c:Code} (t:Nat) (v:AV) (h:AWp P N B c (Out B env t v H) env H) (k:Q .nrm ((t,v) :: env) H):AWp P N B c Q env H:=by
 intro S a w hc hb
 refine Code.wp_mono ?_ (h S a w hc hb)
 rintro e a' w' ⟨x,e',H',S',⟨rfl,hv,hs,rfl⟩,r,c',k'⟩
 cases r
 exact ⟨.nrm,_,_,S',k,.nrm,c'.sub (hs.sub hv),k'⟩
theorem q9b {d:Nat} (i:Nat) (hi:ops[i]?=some ⟨some d,op,ty,pos,after,none⟩) (hB:q8u ops listed a i=true) (hd:DN d N) (h1:∀ H',V2 P N op ty (renv ⟨some d,op,ty,pos,after,none⟩ env) H' v H')
  (h:AAny P N B ops a C F fuel (listed.setIfInBounds i true) ((d,v) :: env) H):AAny P N B ops a C F (fuel+1) listed env H :=
 q7e i hi hB Y1f (.inl ⟨rfl,fun H _=>h1 H _ _ _ _⟩) h
theorem q2l {d j g:Nat} {want:Bool} (i:Nat) (hi:ops[i]?=some ⟨some d,op,ty,pos,after,some (j,want)⟩) (hB:q8u ops listed a i=true) (hd:DN d N) (hj:(ops[j]?).bind (·.dst)=some g) (hb:get env g = .bool want)
  (h1:∀ H',V1 P N op ty (renv ⟨some d,op,ty,pos,after,some (j,want)⟩ env) H' v)
  (h:AAny P N B ops a C F fuel (listed.setIfInBounds i true) ((d,v) :: env) H):AAny P N B ops a C F (fuel+1) listed env H :=
 q7e i hi hB Y1f (.inl ⟨⟨g,hj,.inl ⟨want,hb,by simp⟩⟩,fun H hC=>(h1 H).toV2 _ _ _ _⟩) h
theorem qbg {d j g:Nat} {want:Bool} (i:Nat) (hi:ops[i]?=some ⟨some d,op,ty,pos,after,some (j,want)⟩) (hB:q8u ops listed a i=true) (hd:DN d N) (hj:(ops[j]?).bind (·.dst)=some g) (hb:get env g = .bool want)
  (h1:∀ H',V2 P N op ty (renv ⟨some d,op,ty,pos,after,some (j,want)⟩ env) H' v H')
  (h:AAny P N B ops a C F fuel (listed.setIfInBounds i true) ((d,v) :: env) H):AAny P N B ops a C F (fuel+1) listed env H :=
 q7e i hi hB Y1f (.inl ⟨⟨g,hj,.inl ⟨want,hb,by simp⟩⟩,fun H hC=>h1 H _ _ _ _⟩) h
theorem q15 {d j g:Nat} {want c:Bool} (i:Nat) (hi:ops[i]?=some ⟨some d,op,ty,pos,after,some (j,want)⟩) (hB:q8u ops listed a i=true) (hd:DN d N) (hj:(ops[j]?).bind (·.dst)=some g) (hb:get env g = .bool c) (hc:(c == want)=false)
  (h:AAny P N B ops a C F fuel (listed.setIfInBounds i true) ((d,.tup []) :: env) H):AAny P N B ops a C F (fuel+1) listed env H :=
 q7e i hi hB Y1f (.inr ⟨⟨g,hj,.inl ⟨c,hb,hc.symm⟩⟩,rfl⟩) h
theorem q50 {d j g:Nat} {want:Bool} (i:Nat) (hi:ops[i]?=some ⟨some d,op,ty,pos,after,some (j,want)⟩) (hB:q8u ops listed a i=true) (hd:DN d N) (hj:(ops[j]?).bind (·.dst)=some g) (hb:get env g = .tup [])
  (h:AAny P N B ops a C F fuel (listed.setIfInBounds i true) ((d,.tup []) :: env) H):AAny P N B ops a C F (fuel+1) listed env H :=
 q7e i hi hB Y1f (.inr ⟨⟨g,hj,.inr ⟨hb,rfl⟩⟩,rfl⟩) h
theorem aqp {d:Nat} {L0:qf} (i:Nat) (hi:ops[i]?=some ⟨some d,op,ty,pos,after,none⟩) (hB:q6m ops listed a i=true) (hd:DN d N) (h1:∀ G,V1 P N op ty (renv ⟨some d,op,ty,pos,after,none⟩ env) (H0++(L0++G)) v)
  (h:AAny P N B ops a (Pre H0 L0) F fuel (listed.setIfInBounds i true) ((d,v) :: env) H):AAny P N B ops a (Pre H0 L0) F (fuel+1) listed env H :=
 aq1 i hi hB hd Y13 h
theorem q31 {d j g:Nat} {want:Bool} {L0:qf} (i:Nat) (hi:ops[i]?=some ⟨some d,op,ty,pos,after,some (j,want)⟩) (hB:q6m ops listed a i=true) (hd:DN d N) (hj:(ops[j]?).bind (·.dst)=some g) (hb:get env g = .bool want)
  (h1:∀ G,V1 P N op ty (renv ⟨some d,op,ty,pos,after,some (j,want)⟩ env) (H0++(L0++G)) v)
  (h:AAny P N B ops a (Pre H0 L0) F fuel (listed.setIfInBounds i true) ((d,v) :: env) H):AAny P N B ops a (Pre H0 L0) F (fuel+1) listed env H :=
 aqy1 i hi hB hd hj hb Y13 h
end
def AV.flat:AV→Bool
 | .int .. | .bool _ | .str _ | .flt .. | .nptr | .nifc | .nfn | .nsl | .junk=>true
 | _=>false
theorem VR.flat {O O':Nat→Prop} {w w':World} {S S':List Slot} {v:AV} {u:Value} (h:VR O w S v u) (hf:v.flat=true):VR O' w' S' v u:=by
 cases h<;>first | (simp [AV.flat] at hf;done) | constructor
theorem VR.free {O:Nat→Prop} {w:World} {S:List Slot} {v:AV} {u:Value} (h:VR O w S v u) (hb:v.bel 0=true):VR (own []) w [] v u :=
 (h.pur hb).mono ⟨Nat.le_refl _,fun b _ _=>⟨by rintro ⟨i,s,hs,_⟩;simp at hs,rfl⟩,fun _ arr _ h=>⟨arr,h,rfl⟩⟩ (SExt.refl _)
inductive Lend1 (H : qf) : AV → AV → Prop where
 | sl {id off len cap:Nat} {o:AObj} {ys:List (List AV)} (hid:H[id]?=some o) (hp:∀ r∈ys,AV.bels 0 r=true) (hys:(o.rows.drop off).take len=ys) (hlen:ys.length=len):Lend1 H (.sl id o.gen off len cap) (.pl ys)
 | same {v:AV} (hb:v.bel 0=true) (hl:v.leaf=true):Lend1 H v v
inductive Lends (H : qf) : List AV → List AV → Prop where
 | nil:Lends H [] []
 | cons {a b:AV} {as1 bs:List AV} (h:Lend1 H a b) (k:Lends H as1 bs):Lends H (a :: as1) (b :: bs)
inductive Lend (H : qf) : AV → AV → Prop where
 | one {a b:AV} (h:Lend1 H a b):Lend H a b
 | agg {cs ds:List AV} (h:Lends H cs ds):Lend H (.agg cs) (.agg ds)
 | pure {v:AV} (hb:v.bel 0=true):Lend H v v
inductive LendAll (H : qf) : List AV → List AV → Prop where
 | nil:LendAll H [] []
 | cons {a b:AV} {as1 bs:List AV} (h:Lend H a b) (k:LendAll H as1 bs):LendAll H (a :: as1) (b :: bs)
theorem Lend1.leaf {H:qf} {a b:AV} (h:Lend1 H a b):b.leaf=true:=by cases h<;>first | rfl | assumption
theorem Lends.get {H:qf}:∀ {as1 bs:List AV},Lends H as1 bs→as1.length=bs.length∧∀ (j:Nat) (b:AV),bs[j]?=some b→∃ a,as1[j]?=some a∧Lend1 H a b
 | _,_,.nil=>⟨rfl,fun j b h=>by simp at h⟩
 | _,_,.cons h k=>by
  obtain ⟨h1,h2⟩:=k.get
  refine ⟨by simp [h1],fun j b hb=>?_⟩
  cases j with
  | zero=>simp at hb;subst hb;exact ⟨_,rfl,h⟩
  | succ j=>simpa using h2 j b Y1r
theorem LendAll.get {H:qf}:∀ {as1 bs:List AV},LendAll H as1 bs→as1.length=bs.length∧∀ (j:Nat) (b:AV),bs[j]?=some b→∃ a,as1[j]?=some a∧Lend H a b
 | _,_,.nil=>⟨rfl,fun j b h=>by simp at h⟩
 | _,_,.cons h k=>by
  obtain ⟨h1,h2⟩:=k.get
  refine ⟨by simp [h1],fun j b hb=>?_⟩
  cases j with
  | zero=>simp at hb;subst hb;exact ⟨_,rfl,h⟩
  | succ j=>simpa using h2 j b Y1r
theorem Lend1.vr {H:qf} {S:List Slot} {w:World} (hh:HRel H S w) {a b:AV} {u:Value} (h:Lend1 H a b) (hv:VR (own S) w S a u):VR (own []) w [] b u:=by
 cases h with
 | same hb _=>exact hv.free hb
 | @sl id off len cap o ys hid hp hys hlen =>
  obtain ⟨s,hs,ok⟩:=hh.slot hid
  have hc:CR 1 [(0,.sl id o.gen off len cap)] H S { tmps:=#[u],defers:=[] } w:=⟨hh,fun t=>by
   cases t with
   | zero=>exact hv
   | succ t=>exact .junk,rfl,rfl⟩
  obtain ⟨S',hc',_⟩:=hc.freeze (B:=⟨S,w⟩) (t:=0) (id:=id) (cap:=cap) (o:=o) (Ext.refl S w) rfl hid hys hlen hp
  have:=hc'.env 0
  rw [qt] at this
  exact this.free rfl
theorem Lend.vr {H:qf} {S:List Slot} {w:World} (hh:HRel H S w) {a b:AV} {u:Value} (h:Lend H a b) (hv:VR (own S) w S a u):VR (own []) w [] b u:=by
 cases h with
 | one h=>exact h.vr hh hv
 | pure hb=>exact hv.free hb
 | agg h =>
  obtain ⟨h1,h2⟩:=h.get
  cases hv with
  | agg hn hl hvr =>
   refine .agg (h1.symm.trans hn) (fun j v hj=>?_) (fun j v u hj hu=>?_)
   ·obtain ⟨a,_,ha⟩:=h2 j v hj
    exact ha.leaf
   ·obtain ⟨a,haj,ha⟩:=h2 j v hj
    exact ha.vr hh (hvr j a u haj hu)
section
variable {P : Program} {N : Nat} {env : Env} {H : qf} {ty : TypeId}
theorem V2.lend {f:Nat} {xs:Array Operand} {ts:Array TypeId} {v:AV} {us:List AV} [FnI P f] (hac:AC P f us [] (Ret v [])) (hl:LendAll H (xs.toList.map (aev env)) us) (hf:v.flat=true) :
  V2 P N (.call { callee:=.value (.func f),args:=xs,argTypes:=ts }) ty env H v H:=by
 refine V2.call (vs:=xs.toList.map (aev env)) ?_ rfl
 intro S w cargs hH hv
 obtain ⟨h1,h2⟩:=hl.get
 have hv':VRs (own []) w [] us cargs:=⟨h1.symm.trans hv.1,fun i b u hb hu=>by
  obtain ⟨a,ha,hab⟩:=h2 i b hb
  exact hab.vr hH (hv.2 i a u ha hu)⟩
 refine (hac [] w cargs ⟨rfl,fun _ _ _ h=>by simp at h,fun _ _ _ _ _ h=>by simp at h⟩ hv').mono ?_
 rintro e w' ⟨o,H',S',⟨rfl,rfl⟩,ho,hh,hx⟩
 have hno:∀ b,¬ own [] b:=by rintro b ⟨i,s,hs,_⟩;simp at hs
 have hold:∀ b,b<w.heap.size→w'.heap[b]?=w.heap[b]?:=fun b hb=>(hx.stp.old b hb (hno b)).2
 have hx':Ext S w S w':=⟨hx.os,hx.tape,hx.output,⟨hx.stp.size,fun b hb ho=>⟨ho,hold b hb⟩,hx.stp.cells⟩,SExt.refl S⟩
 refine ⟨.ret v,H,S,⟨rfl,rfl⟩,?_,q8y hH hx' hold,hx'⟩
 cases ho with
 | ret hvr=>exact .ret (hvr.flat hf)
theorem HRel.retell {H:qf} {S:List Slot} {w:World} (h:HRel H S w) {k i j b:Nat} {o:AObj} {s:Slot} {r:List AV} {v2:AV} {arr:Array Value} {ty:TypeId} {u:Value} (hk:H[k]?=some o) (hs:S[k]?=some s) (hp:s.place=some b) (hb:w.heap[b]?=some (Obj.cells arr ty (0,0)))
  (hr:o.rows[i]?=some r) (hj:j<r.length) (hu:arr[i * o.sz+j]?=some u) (hl:v2.leaf=true) (hv:VR (own S) w S v2 u):HRel (H.set k { o with rows:=o.rows.set i (r.set j v2) }) S w:=by
 refine ⟨by simpa using h.len,fun id' o' s' ho' hs'=>?_,h.inj⟩
 by_cases e:k=id'
 ·subst e
  rw [List.getElem?_set_self (List.getElem?_eq_some_iff.1 hk).1] at ho'
  obtain rfl:=Option.some.inj ho'
  rw [hs] at hs'
  obtain rfl:=Option.some.inj hs'
  have ok:=h.obj k o s hk hs
  refine ⟨ok.gen,ok.sz,ok.pos,fun hn=>(by rw [hp] at hn;cases hn),fun b' hb'=>?_⟩
  obtain ⟨arr',ty',h1,h2,h3⟩:=ok.lies b' hb'
  rw [hp] at hb'
  obtain rfl:=Option.some.inj hb'
  rw [hb] at h1
  injection h1 with h1
  injection h1 with h1 h1'
  subst h1
  refine ⟨arr,ty,hb,by simpa using h2,fun i' r' hr'=>?_⟩
  by_cases ei:i=i'
  ·subst ei
   have hil:i<o.rows.length:=(List.getElem?_eq_some_iff.1 hr).1
   rw [List.getElem?_set_self hil] at hr'
   obtain rfl:=Option.some.inj hr'
   obtain ⟨k1,k2⟩:=h3 i r hr
   refine ⟨by simpa using k1,fun j' v' hv'=>?_⟩
   by_cases ej:j=j'
   ·subst ej
    rw [List.getElem?_set_self hj] at hv'
    obtain rfl:=Option.some.inj hv'
    exact ⟨hl,u,hu,hv⟩
   ·rw [List.getElem?_set_ne ej] at hv'
    exact k2 j' v' hv'
  ·rw [List.getElem?_set_ne ei] at hr'
   exact h3 i' r' hr'
 ·rw [List.getElem?_set_ne e] at ho'
  exact h.obj id' o' s' ho' hs'
theorem CR.freezeC {B:Base} {S:List Slot} {a:Act} {w:World} {k i j id off len cap:Nat} {o q:AObj} {r:List AV} {ys:List (List AV)} (h:CR N env H S a w) (hx:Ext B.S B.w S w) (hk:H[k]?=some q) (hr:q.rows[i]?=some r) (hj:r[j]?=some (.sl id o.gen off len cap)) (hne:id≠k)
  (hid:H[id]?=some o) (hys:(o.rows.drop off).take len=ys) (hlen:ys.length=len) (hp:∀ r∈ys,AV.bels 0 r=true) :
  ∃ S',CR N env ((H.set id ⟨o.gen+1,o.sz,[]⟩).set k { q with rows:=q.rows.set i (r.set j (.pl ys)) }) S' a w∧Ext B.S B.w S' w:=by
 obtain ⟨s,hs,ok⟩:=h.heap.slot hk
 have hil:=(List.getElem?_eq_some_iff.1 hr).1
 cases hpl:s.place with
 | none=>rw [ok.nope hpl] at hil;simp at hil
 | some b =>
  obtain ⟨arr,ty,h1,h2,h3⟩:=ok.lies b hpl
  obtain ⟨k1,k2⟩:=h3 i r hr
  obtain ⟨_,u,hu,hv⟩:=k2 j _ hj
  have hc:CR 1 [(0,.sl id o.gen off len cap)] H S { tmps:=#[u],defers:=[] } w:=⟨h.heap,fun t=>by
   cases t with
   | zero=>exact hv
   | succ t=>exact .junk,rfl,rfl⟩
  obtain ⟨S',hc',hx'⟩:=hc.freeze (B:=⟨S,w⟩) (t:=0) (id:=id) (cap:=cap) (o:=o) (Ext.refl S w) rfl hid hys hlen hp
  have hv2:=hc'.env 0
  rw [qt] at hv2
  have hk':(H.set id ⟨o.gen+1,o.sz,[]⟩)[k]?=some q:=by rw [List.getElem?_set_ne hne];exact hk
  obtain ⟨s',hs',ok'⟩:=hc'.heap.slot hk'
  obtain ⟨s2,hs2,hg,he⟩:=hx'.slots k s hs
  rw [hs'] at hs2
  obtain rfl:=Option.some.inj hs2
  have hpl':s'.place=some b:=(he (by rw [← ok'.gen,ok.gen])).2.trans hpl
  have hh:=hc'.heap.retell (v2:=.pl ys) hk' hs' hpl' h1 hr (List.getElem?_eq_some_iff.1 hj).1 hu rfl hv2
  exact ⟨S',⟨hh,fun t=>(h.env t).ext hx',h.size,h.defers⟩,hx.trans hx'⟩
theorem q6v {B:Base} {Q:q6g} {c:Code} {L:qf} {H0:qf} {n k i j kid g off len cap:Nat} {o q:AObj} {r:List AV} {ys:List (List AV)} (k':Nat) (hk':k'=k) (hk:L[k]?=some q) (hr:q.rows[i]?=some r) (hj:r[j]?=some (.sl (Lid n kid) g off len cap)) (hn:H0.length=n) (hne:kid≠k)
  (hid:L[kid]?=some o) (hg:o.gen=g) (hys:(o.rows.drop off).take len=ys) (hlen:ys.length=len) (hp:∀ r∈ys,AV.bels 0 r=true)
  (h:AWp P N B c Q env (H0++(L.set kid ⟨g+1,o.sz,[]⟩).set k { q with rows:=q.rows.set i (r.set j (.pl ys)) })):AWp P N B c Q env (H0++L):=fun S a w hc hb=>by
 subst hg
 obtain ⟨S',hc',hb'⟩:=hc.freezeC (id:=Lid n kid) (k:=Lid n k) hb (lk hn hk) hr hj Y1n (lk hn hid) hys hlen hp
 rw [st hn,st hn] at hc'
 exact h S' a w hc' hb'
end
section
variable {P : Program} {N : Nat} {B : Base} {env : Env} {H H0 L : qf} {op : Op} {ty : TypeId}
theorem q5i {t t' e:TypeId} {x y:Operand} {sz bytes:Nat} {agg:Bool} {zs:List AV} {ys:List (List AV)} [hu:SlI P t e] [NiI P t'] [TyI P e agg sz] [hz:ZcI P e zs] [ByI P e bytes]
  (hx:aev env x = .nsl) (hy:Src P N env H y sz ys) (hn:zs.length=sz) (hp:0<sz) (h63:ys.length≤9223372036854775807) (hb:ys.length * bytes≤140737488355328) (hbel:∀ r∈ys,AV.bels 0 r=true) :
  V2 P N (.call { callee:=.builtin .append,args:=#[x,y],argTypes:=#[t,t'] }) ty env H (.pl ys) H:=by
 have h1:=q8o (P:=P) (N:=N) (ty:=ty) (t:=t) (t':=t') (e:=e) (agg:=agg) (zs:=zs) (bytes:=bytes) (H0:=H) (L:=[]) (k:=0) hx (by rw [List.append_nil];exact hy) hn hp h63 hb rfl
 have h2:=V2.freezeL (o:=⟨0,sz,ys⟩) (k:=0) h1 rfl rfl rfl hbel
 rw [List.append_nil] at h2
 exact h2
theorem q2q {t:TypeId} {x y:Operand} {n k g i sz:Nat} {agg:Bool} {o:AObj} {r cs:List AV} [TyI P t agg sz] (hx:aev env x = .pt (Lid n k) g i 0) (hn:H0.length=n) (hk:L[k]?=some o) (hg:o.gen=g) (hr:o.rows[i]?=some r)
  (hy:aev env y = .agg cs) (hl:cs.length=sz) (hrl:r.length=sz) (hj:sz≤o.sz) :
  V2 P N (.store t x y) ty env (H0++L) .junk (H0++L.set k { o with rows:=o.rows.set i cs }) :=
 q1k (v:=.agg cs) (r':=cs) (agg:=agg) hx hn hk hg hr hy rfl hl (by omega) (by
  show r.take 0++cs++r.drop (0+sz)=cs
  rw [List.take_zero,List.nil_append,Nat.zero_add,List.drop_of_length_le (by omega),List.append_nil])
end
structure But (r : Nat) (w w' : World) : Prop where
 os:w'.os=w.os
 tape:w'.tape=w.tape
 output:w'.output=w.output
 size:w'.heap.size=w.heap.size
 other:∀ j,j≠r→w'.heap[j]?=w.heap[j]?
 none:∀ arr ty fz,w.heap[r]?≠some (Obj.cells arr ty fz)
theorem But.cells {r:Nat} {w w':World} (h:But r w w') {b:Nat} {arr:Array Value} {ty:TypeId} {fz:Nat×Nat} (hb:w.heap[b]?=some (Obj.cells arr ty fz)):w'.heap[b]?=some (Obj.cells arr ty fz):=by
 by_cases e:b=r
 ·subst e;exact absurd hb (h.none _ _ _)
 ·rw [h.other b e];exact hb
theorem But.cell {r:Nat} {w w':World} (h:But r w w') {a:Addr} {v:Value} (hc:w.cell? a=some v):w'.cell? a=some v:=by
 by_cases e:a.block=r
 ·unfold World.cell? at hc
  split at hc
  ·rename_i c x y hq;rw [e] at hq;exact absurd hq (h.none _ _ _)
  ·cases hc
 ·exact (World.cell?_of_block (h.other a.block e)).trans hc
theorem VR.but {r:Nat} {w w':World} (hw:But r w w') {O:Nat→Prop} {S:List Slot} {v:AV} {u:Value} (h:VR O w S v u):VR O w' S v u:=by
 induction h with
 | junk=>exact .junk
 | int=>exact .int
 | bool=>exact .bool
 | str=>exact .str
 | flt=>exact .flt
 | nsl=>exact .nsl
 | nptr=>exact .nptr
 | nfn=>exact .nfn
 | nifc=>exact .nifc
 | raw=>exact .raw
 | know ho hg h hx=>exact .know ho (by rw [hw.size];exact hg) (fun j v hv=>hw.cell (h j v hv)) (by obtain ⟨ty,fz,e⟩:=hx;exact ⟨ty,fz,hw.cells e⟩)
 | ifc _ ih=>exact .ifc ih
 | pl base sz u hc hb hs hm hl _ ih =>
  exact .pl base sz u hc (fun hx=>⟨(hb hx).1,(hb hx).2.1,by rw [hw.size];exact (hb hx).2.2⟩) hs (fun i hi j hj=>hw.cell (hm i hi j hj)) hl ih
 | pp base sz u hb hs hm hl _ ih =>
  exact .pp base sz u ⟨hb.1,by rw [hw.size];exact hb.2⟩ hs (fun i hi j hj=>hw.cell (hm i hi j hj)) hl ih
 | sl s hs hg h1 h =>
  refine .sl s hs hg h1 fun e=>?_
  obtain ⟨c,hc,hl,h⟩:=h e
  refine ⟨c,hc,hl,?_⟩
  rcases h with h | ⟨b,arr,ty,hp,hu,hb,hsz⟩
  ·exact .inl h
  ·exact .inr ⟨b,arr,ty,hp,hu,hw.cells hb,hsz⟩
 | pt s hs hg h1 h=>exact .pt s hs hg h1 h
 | agg hn hl _ ih=>exact .agg hn hl ih
 | tup hn _ ih=>exact .tup hn ih
 | fn hp hq _ _ ih1 ih2=>exact .fn hp hq ih1 ih2
theorem HRel.but {r:Nat} {H:qf} {S:List Slot} {w w':World} (hh:HRel H S w) (hw:But r w w'):HRel H S w':=by
 refine ⟨hh.len,fun id o s ho hs=>?_,hh.inj⟩
 have ok:=hh.obj id o s ho hs
 refine ⟨ok.gen,ok.sz,ok.pos,ok.nope,fun b hb=>?_⟩
 obtain ⟨arr,ty,h1,h2,h3⟩:=ok.lies b hb
 refine ⟨arr,ty,hw.cells h1,h2,fun i r hr=>?_⟩
 obtain ⟨k1,k2⟩:=h3 i r hr
 refine ⟨k1,fun j v hv=>?_⟩
 obtain ⟨k3,u,k4,k5⟩:=k2 j v hv
 exact ⟨k3,u,k4,k5.but hw⟩
theorem HRel.notOwn {H:qf} {S:List Slot} {w:World} (hh:HRel H S w) {r:Nat} (hn:∀ arr ty fz,w.heap[r]?≠some (Obj.cells arr ty fz)):¬ own S r:=by
 rintro ⟨i,s,hs,hp⟩
 have hlt:i<H.length:=by rw [hh.len];exact (List.getElem?_eq_some_iff.1 hs).1
 have ok:=hh.obj i H[i] s (List.getElem?_eq_getElem hlt) hs
 obtain ⟨arr,ty,h1,_⟩:=ok.lies r hp
 exact hn _ _ _ h1
section
variable {P : Program} {N : Nat} {B : Base} {Q : q6g} {env : Env} {H : qf}
abbrev itv (r:Nat):Value:=.pointer (some ⟨r,0,none⟩)
structure ItAt (N : Nat) (B : Base) (it r : Nat) (s : ByteArray) (pos : Nat) (E : Env) (H : qf) (a : Act) (w : World) (S : List Slot) : Prop where
 cr:CR N ((it,.raw (itv r)) :: E) H S a w
 ext:Ext B.S B.w S w
 obj:w.heap[r]?=some (.stringIter s pos)
 new:B.w.heap.size≤r
theorem ItAt.next {it r pos pos':Nat} {s:ByteArray} {E:Env} {S:List Slot} {a:Act} {w:World} (h:ItAt N B it r s pos E H a w S):ItAt N B it r s pos' E H a (w.iterAt r s pos') S:=by
 have hn:∀ arr ty fz,w.heap[r]?≠some (Obj.cells arr ty fz):=by intro arr ty fz e;rw [h.obj] at e;cases e
 have hb:But r w (w.iterAt r s pos'):=⟨rfl,rfl,rfl,Lib.iterAt_size w r s pos',fun j hj=>Lib.iterAt_other w r j s pos' hj,hn⟩
 have hno:=h.cr.heap.notOwn hn
 refine ⟨⟨h.cr.heap.but hb,fun t=>(h.cr.env t).but hb,h.cr.size,h.cr.defers⟩,?_,Lib.iterAt_heap w r s pos pos' h.obj,h.new⟩
 have hx:=h.ext
 refine ⟨hx.os,hx.tape,hx.output,⟨by rw [hb.size];exact hx.stp.size,fun b hbs ho=>?_,fun b arr ty hc=>?_⟩,hx.slots⟩
 ·obtain ⟨k1,k2⟩:=hx.stp.old b hbs ho
  exact ⟨k1,by rw [hb.other b (by have:=h.new;omega)];exact k2⟩
 ·obtain ⟨arr',k1,k2⟩:=hx.stp.cells b arr ty hc
  exact ⟨arr',hb.cells k1,k2⟩
theorem qqa (s:ByteArray) (i:Nat):1≤(Utf8.decode s i).2:=by
 unfold Utf8.decode
 simp only
 repeat' split
 all_goals simp
theorem qf2 {k1 k2 b t it nx okt:Nat} {x:Operand} {tx ty1 ty2 ty3 ty4:TypeId} {p1 p2 p3 p4:String} {f1 f2 f3 f4:Array Edge} {body:Code} {s:ByteArray} [hu:UdI P tx .string]
  (hx:aev env x = .str s) (ht:t<N) (hit:it<N) (hnx:nx<N) (hok:okt<N) (hne:it≠t) (hne2:nx≠it) (hne3:okt≠it)
  (I:Nat→Prop) (E:Nat→Env) (h0:I 0) (hE:Sub (E 0) ((t,.str s) :: env))
  (round:∀ (pos r:Nat) (B':Base),pos<s.size→I pos→B'.S.length=H.length→AWp P N B' body (AX.andThen (fun e H'=>I (pos+(Utf8.decode s pos).2)∧Sub ((it,.raw (itv r)) :: E (pos+(Utf8.decode s pos).2)) e∧H'=H) (AX.inBlock b Q))
   ((okt,.bool true) :: (nx,.tup [.bool true,.int .i64 (pos:Int),.int .i32 ((Utf8.decode s pos).1:Int)]) :: (it,.raw (itv r)) :: E pos) H)
  (fin:∀ (pos r:Nat),¬ pos<s.size→I pos→Q .nrm ((okt,.bool false) :: (nx,.tup [.bool false]) :: (it,.raw (itv r)) :: E pos) H) :
  AWp P N B (.seq (.region k1 [⟨some t,.move x,ty1,p1,f1,none⟩,⟨some it,.range tx (.tmp t),ty2,p2,f2,none⟩].toArray false)
   (.block b (.loop (.seq (.region k2 [⟨some nx,.next (.tmp it) true,ty3,p3,f3,none⟩,⟨some okt,.extract (.tmp nx) 0,ty4,p4,f4,none⟩].toArray false) (.seq (.cond (.tmp okt) .skip (.exit b)) body))))) Q env H:=by
 intro S a w hc hb
 refine wp_seq (wp_region_lit ?_)
 refine wpList_plain rfl fun next hnext=>?_
 have hv:=hc.ev x
 rw [hx] at hv
 unfold Oper.wp
 rw [show ∀ pos after guard,(execOp a.eval ⟨some t,.move x,ty1,pos,after,guard⟩).run P w = .ok (.value (a.eval x)) w from fun _ _ _=>rfl]
 refine hnext _ _ ?_
 have c1:=hc.put (d:=some t) (Ext.refl S w) hc.heap (by rintro _ ⟨⟩;exact ht) hv
 generalize a.eval x=u at hv c1 ⊢
 cases hv
 refine wpList_plain rfl fun next2 hnext2=>?_
 have hev:(a.put (some t) (.string s)).eval (.tmp t) = .string s:=by simp [Act.eval,Act.put,hc.size,ht]
 have hr2:∀ pos after guard,(execOp (a.put (some t) (.string s)).eval ⟨some it,.range tx (.tmp t),ty2,pos,after,guard⟩).run P w = .ok (.value (itv w.heap.size)) (w.iter s 0):=by
  intro pos after guard
  simp only [execOp,hev,Sem.run_bind,run_range_string w tx s hu.ud,Result.andThen_ok,Sem.run_pure]
 unfold Oper.wp
 rw [hr2]
 refine hnext2 _ _ ?_
 have hold:∀ b,b<w.heap.size→(w.iter s 0).heap[b]?=w.heap[b]?:=fun b hb=>(by first | exact heap_alloc_old w _ b hb | exact heap_alloc_old w _ hb)
 have hx':Ext S w S (w.iter s 0):=⟨rfl,rfl,rfl,⟨by simp [World.iter],fun b hb ho=>⟨ho,hold b hb⟩,fun b arr ty hb'=>⟨arr,by rw [hold b (Array.getElem?_eq_some_iff.1 hb').1];exact hb',rfl⟩⟩,SExt.refl S⟩
 have hh:=q8y hc.heap hx' hold
 have c2:=c1.put (d:=some it) (v:=.raw (itv w.heap.size)) (u:=itv w.heap.size) hx' hh (by rintro _ ⟨⟩;exact hit) .raw
 have hsub:Sub ((it,.raw (itv w.heap.size)) :: E 0) ((it,.raw (itv w.heap.size)) :: (t,.str s) :: env):=fun t'=>by
  by_cases e:it=t'
  ·subst e;rw [qt,qt];exact .inr rfl
  ·rw [qg _ _ e,qg _ _ e];exact hE t'
 refine wpList_nil ?_
 refine wp_block (wp_loop_ghost (fun n a' w'=>∃ pos S',n=s.size-pos∧I pos∧ItAt N B it w.heap.size s pos (E pos) H a' w' S') (s.size-0) ⟨0,S,rfl,h0,⟨c2.sub hsub,hb.trans hx',World.iter_heap w s 0,hb.stp.size⟩⟩ ?_)
 rintro n a1 w1 ⟨pos,S1,rfl,hI,h1⟩
 refine wp_seq (wp_region_lit ?_)
 refine wpList_plain rfl fun next hnext=>?_
 have hevit:a1.eval (.tmp it)=itv w.heap.size:=by
  have:=h1.cr.ev (.tmp it)
  rw [show aev ((it,AV.raw (itv w.heap.size)) :: E pos) (.tmp it) = .raw (itv w.heap.size) from qt _ _ _] at this
  generalize a1.eval (.tmp it)=u at this
  cases this
  rfl
 by_cases hp:pos<s.size
 ·have hrn:∀ pos' after guard,(execOp a1.eval ⟨some nx,.next (.tmp it) true,ty3,pos',after,guard⟩).run P w1 = .ok (.value (.tuple #[.bool true,.int .i64 pos,.int .i32 (Utf8.decode s pos).1])) (w1.iterAt w.heap.size s (pos+(Utf8.decode s pos).2)):=by
   intro pos' after guard
   simp only [execOp,hevit,Sem.run_bind,Lib.run_next_any_at w1 w.heap.size s pos ty3 h1.obj hp,Result.andThen_ok,Sem.run_pure]
  unfold Oper.wp
  rw [hrn]
  refine hnext _ _ ?_
  have h2:=h1.next (pos':=pos+(Utf8.decode s pos).2)
  have c3:=h2.cr.put (d:=some nx) (v:=.tup [.bool true,.int .i64 (pos:Int),.int .i32 ((Utf8.decode s pos).1:Int)]) (Ext.refl S1 _) h2.cr.heap (by rintro _ ⟨⟩;exact hnx) (.tup (vs:=#[.bool true,.int .i64 pos,.int .i32 (Utf8.decode s pos).1]) rfl fun j v u hv hu=>by
   match j,hv,hu with
   | 0,hv,hu=>simp at hv hu;subst hv;subst hu;exact .bool
   | 1,hv,hu=>simp at hv hu;subst hv;subst hu;exact .int
   | 2,hv,hu=>simp at hv hu;subst hv;subst hu;exact .int
   | j+3,hv,hu=>simp at hv)
  refine wpList_plain rfl fun next2 hnext2=>?_
  obtain ⟨u,hru,hvu⟩:=(q2f (P:=P) (N:=N) (env:=(nx,.tup [.bool true,.int .i64 (pos:Int),.int .i32 ((Utf8.decode s pos).1:Int)]) :: (it,.raw (itv w.heap.size)) :: E pos) (H:=H) (ty:=ty4) (x:=.tmp nx) (i:=0) (v:=.bool true) (qt ((it,.raw (itv w.heap.size)) :: E pos) nx (.tup [.bool true,.int .i64 (pos:Int),.int .i32 ((Utf8.decode s pos).1:Int)])) rfl) S1 _ _ c3
  unfold Oper.wp
  rw [hru]
  refine hnext2 _ _ ?_
  have c4:=c3.put (d:=some okt) (Ext.refl S1 _) c3.heap (by rintro _ ⟨⟩;exact hok) hvu
  refine wpList_nil ?_
  have hevok:=c4.ev (.tmp okt)
  rw [show ∀ e:Env,aev (Av.put e (some okt) (.bool true)) (.tmp okt) = .bool true from fun e=>qt _ _ _] at hevok
  generalize hu2:Act.eval _ (.tmp okt)=u2 at hevok
  cases hevok
  refine wp_seq (wp_cond_true hu2 (wp_skip ?_))
  refine wp_mono (round pos w.heap.size ⟨S1,w1.iterAt w.heap.size s (pos+(Utf8.decode s pos).2)⟩ hp hI (by rw [← h2.cr.heap.len]) S1 _ _ c4 (Ext.refl _ _)) ?_
  intro e a' w' ⟨x',env',H',S',q,r,c,k⟩
  have kx:Ext B.S B.w S' w':=h2.ext.trans k
  cases r with
  | nrm =>
   obtain ⟨hI',hs,rfl⟩:=q
   have hr:w.heap.size<(w1.iterAt w.heap.size s (pos+(Utf8.decode s pos).2)).heap.size:=(Array.getElem?_eq_some_iff.1 h2.obj).1
   have hno:=h2.cr.heap.notOwn (r:=w.heap.size) (by intro arr ty fz e;rw [h2.obj] at e;cases e)
   refine ⟨s.size-(pos+(Utf8.decode s pos).2),by have:=qqa s pos;omega,pos+(Utf8.decode s pos).2,S',rfl,hI',c.sub hs,kx,?_,h1.new⟩
   rw [(k.stp.old _ hr hno).2]
   exact h2.obj
  | @brk i =>
   simp only [AX.andThen,AX.inBlock] at q
   simp only [Exit.then,Exit.inBlock]
   split at q
   ·rename_i e;rw [if_pos e];exact ⟨_,env',H',S',q,.nrm,c,kx⟩
   ·rename_i e;rw [if_neg e];exact ⟨_,env',H',S',q,.brk,c,kx⟩
  | ret=>exact ⟨_,env',H',S',q,.ret,c,kx⟩
  | pan hv=>exact ⟨_,env',H',S',q,.pan hv,c,kx⟩
 ·have hrn:∀ pos' after guard,(execOp a1.eval ⟨some nx,.next (.tmp it) true,ty3,pos',after,guard⟩).run P w1 = .ok (.value (.tuple #[.bool false])) w1:=by
   intro pos' after guard
   simp only [execOp,hevit,Sem.run_bind,Lib.run_next_end_at w1 w.heap.size s pos ty3 h1.obj hp,Result.andThen_ok,Sem.run_pure]
  unfold Oper.wp
  rw [hrn]
  refine hnext _ _ ?_
  have c3:=h1.cr.put (d:=some nx) (v:=.tup [.bool false]) (Ext.refl S1 _) h1.cr.heap (by rintro _ ⟨⟩;exact hnx) (.tup (vs:=#[.bool false]) rfl fun j v u hv hu=>by
   match j,hv,hu with
   | 0,hv,hu=>simp at hv hu;subst hv;subst hu;exact .bool
   | j+1,hv,hu=>simp at hv)
  refine wpList_plain rfl fun next2 hnext2=>?_
  obtain ⟨u,hru,hvu⟩:=(q2f (P:=P) (N:=N) (env:=(nx,.tup [.bool false]) :: (it,.raw (itv w.heap.size)) :: E pos) (H:=H) (ty:=ty4) (x:=.tmp nx) (i:=0) (v:=.bool false) (qt ((it,.raw (itv w.heap.size)) :: E pos) nx (.tup [.bool false])) rfl) S1 _ _ c3
  unfold Oper.wp
  rw [hru]
  refine hnext2 _ _ ?_
  have c4:=c3.put (d:=some okt) (Ext.refl S1 _) c3.heap (by rintro _ ⟨⟩;exact hok) hvu
  refine wpList_nil ?_
  have hevok:=c4.ev (.tmp okt)
  rw [show ∀ e:Env,aev (Av.put e (some okt) (.bool false)) (.tmp okt) = .bool false from fun e=>qt _ _ _] at hevok
  generalize hu2:Act.eval _ (.tmp okt)=u2 at hevok
  cases hevok
  refine wp_seq (wp_cond_false hu2 (wp_exit ?_))
  simp only [Exit.then,Exit.inBlock,if_true]
  exact ⟨.nrm,_,H,S1,fin pos w.heap.size hp hI,.nrm,c4,h1.ext⟩
theorem q7k {c:Code} (h:AWp P N B c Q env H):AWp P N B (.scope c) Q env H:=by
 intro S a w hc hb
 refine wp_scope_straight (wp_mono (h S a w hc hb) ?_)
 intro e a' w' ⟨x,env',H',S',q,r,c,k⟩
 cases r with
 | nrm=>exact ⟨_,env',H',S',q,.nrm,c,k⟩
 | brk=>exact ⟨_,env',H',S',q,.brk,c,k⟩
 | ret=>exact ⟨_,env',H',S',q,.ret,c,k⟩
 | pan hv=>exact ⟨_,env',H',S',q,.pan hv,c,k⟩
end
section
variable {P : Program} {N : Nat} {B : Base} {Q : q6g} {env : Env} {H : qf} {ty : TypeId}
theorem qpd {f : FuncId} {fn : Func} {e : Array Value → Sem Value} {xs : Array Operand} {ts : Array TypeId} {v : AV} (hf : P.funcs[f]? = some fn) (hname : (fn.name == "runtime.NumGoroutine") = false) (hb : fn.body.isNone = true) (hn : Extern.findNext fn = none) (he : Extern.find fn = some e)
  (h:∀ S a w,CR N env H S a w→∃ u,(e (xs.map a.eval)).run P w = .ok u w∧VR (own S) w S v u) :
  V1 P N (.call { callee:=.value (.func f),args:=xs,argTypes:=ts }) ty env H v:=by
 intro S a w hc
 obtain ⟨u,h1,h2⟩:=h S a w hc
 refine ⟨u,fun dst pos after guard=>?_,h2⟩
 simp [execOp,resolve,Act.eval,Deferred.ofValue,invoke,run_callFunc_extern hf hname hb hn he,h1,Result.andThen]
theorem qg2 {f : FuncId} {fn : Func} {x y : Operand} {ts : Array TypeId} {s : ByteArray} {c : Int} (hf : P.funcs[f]? = some fn) (hname : (fn.name == "runtime.NumGoroutine") = false) (hb : fn.body.isNone = true) (hn : Extern.findNext fn = none) (he : Extern.find fn = some Extern.BytealgIndexByte.indexByte)
  (hx:aev env x = .str s) (hy:aev env y = .int .u8 c):V1 P N (.call { callee:=.value (.func f),args:=#[x,y],argTypes:=ts }) ty env H (.int .i64 (Lib.indexByte s.data.toList c.toNat.toUInt8)):=by
 refine qpd hf hname hb hn he fun S a w hc=>?_
 have h1:=hc.ev x
 have h2:=hc.ev y
 rw [hx] at h1
 rw [hy] at h2
 refine ⟨.int .i64 (Lib.indexByte s.data.toList c.toNat.toUInt8),?_,.int⟩
 have e:(#[x,y]:Array Operand).map a.eval = #[a.eval x,a.eval y]:=by simp
 rw [e]
 generalize a.eval x=u at h1
 generalize a.eval y=u2 at h2
 cases h1
 cases h2
 exact Lib.run_indexByteString s c w
theorem qsf {x:Operand} {s d:TypeId} {k:IntKind} {n:Int} [hs:UdI P s (.int k)] [hd:UdI P d .string] (hx:aev env x = .int k n):V1 P N (.convert s d x) ty env H (.str (Utf8.encode n)):=by
 intro S a w hc
 have h1:=hc.ev x
 rw [hx] at h1
 refine ⟨.string (Utf8.encode n),fun dst pos after guard=>?_,.str⟩
 generalize hu:a.eval x=u at h1
 cases h1
 simp [execOp,hu,convert,q1a hs.ud,q1a hd.ud,Conv.intToString]
theorem qpb {t e:TypeId} {n sz:Nat} {parts:Array (Nat×Operand)} {agg:Bool} {zs cs:List AV} (rows:List (List AV)) [hu:SlI P t e] [TyI P e agg sz] [hz:ZcI P e zs] (hn:zs.length=sz) (hp:0<sz) (h0:0<n) (hbig:n * sz≤16777216)
  (hf:q81 ((List.range n).map fun i=>(i * sz,sz)) (List.replicate n zs).flatten (parts.toList.map fun (i,x)=>(i,aev env x))=some cs) (hrows:rows.flatten=cs) (hw:∀ r∈rows,r.length=sz) (hlen:rows.length=n) (hb:∀ r∈rows,AV.bels 0 r=true) :
  V2 P N (.buildSlice t n parts) ty env H (.pl rows) H:=by
 have h1:=q7t (P:=P) (N:=N) (env:=env) (H0:=H) (L:=[]) (ty:=ty) (t:=t) (e:=e) (agg:=agg) (zs:=zs) hn hp h0 hbig hf hrows hw rfl
 have:=V2.freezeL (L:=[]) h1 rfl rfl hlen hb
 simpa using this
theorem V2.callv {f:Nat} {x:Operand} {xs:Array Operand} {ts:Array TypeId} {v:AV} {ps qs vs:List AV} {M:qf} [FnI P f] (hac:AC P f vs H (Ret v M)) (hx:aev env x = .fn (.func f) ps qs) (hvs:ps++xs.toList.map (aev env)++qs=vs) :
  V2 P N (.call { callee:=.value x,args:=xs,argTypes:=ts }) ty env H v M:=by
 subst hvs
 intro dst pos after guard S a w hc next Q hn hp
 refine AOp.call (P:=P) (N:=N) (o:=⟨dst,.call { callee:=.value x,args:=xs,argTypes:=ts },ty,pos,after,guard⟩) (f:=f) (fun S a w hc=>?_) hac S a w hc next Q ?_ ?_
 ·have hv:=hc.ev x
  rw [hx] at hv
  generalize he:a.eval x=u at hv
  cases hv with
  | @fn _ _ _ _ p' q' hp hq h1 h2 =>
   refine ⟨p'++xs.map a.eval++q',?_,(VRs.append (VRs.append ⟨hp,h1⟩ (qgf hc xs)) ⟨hq,h2⟩)⟩
   simp [execOp,resolve,he,Deferred.ofValue,invoke,q4o (P:=P) (f:=f)]
 ·rintro v' u H' S' w' ⟨e,rfl⟩
  injection e with e
  subst e
  exact hn _ u _ S' w' ⟨rfl,rfl⟩
 ·rintro v' u H' S' w' ⟨e,_⟩
  cases e
end
theorem qmw {n:Int} (h:128≤n) (hv:Utf8.valid n=true):2≤(Utf8.encode n).data.toList.length∧(Utf8.encode n).data.toList.length≤4∧∀ b∈(Utf8.encode n).data.toList,128≤b.toNat:=by
 have hn:n.toNat<1114112∧128≤n.toNat:=by
  simp [Utf8.valid] at hv
  omega
 unfold Utf8.encode
 rw [if_pos hv]
 generalize n.toNat=c at hn
 simp only
 rw [if_neg (by omega)]
 split
 ·refine ⟨by simp,by simp,fun b hb=>?_⟩
  simp only [List.mem_cons,List.not_mem_nil,or_false] at hb
  rcases hb with rfl | rfl<;>simp<;>omega
 ·split
  ·refine ⟨by simp,by simp,fun b hb=>?_⟩
   simp only [List.mem_cons,List.not_mem_nil,or_false] at hb
   rcases hb with rfl | rfl | rfl<;>simp<;>omega
  ·refine ⟨by simp,by simp,fun b hb=>?_⟩
   simp only [List.mem_cons,List.not_mem_nil,or_false] at hb
   rcases hb with rfl | rfl | rfl | rfl<;>simp<;>omega
theorem qms (s:ByteArray) (i:Nat) (h:128≤(s.get! i).toNat):128≤(Utf8.decode s i).1∧(Utf8.decode s i).1≤1114111:=by
 unfold Utf8.decode
 simp only [Nat.add_zero]
 rw [if_neg (by omega)]
 have hre:Utf8.runeError=65533:=rfl
 repeat' split
 all_goals simp_all [Utf8.valid]
 all_goals omega
theorem qgt (s:ByteArray) (i:Nat) (h:(s.get! i).toNat<128):Utf8.decode s i=((s.get! i).toNat,1):=by
 unfold Utf8.decode
 simp only [Nat.add_zero]
 rw [if_pos h]
theorem q8w (x:Nat) (h:x<18446744073709551616):(BitVec.ofInt IntKind.u64.bits (x:Int)).toNat=x:=by
 show (BitVec.ofInt 64 (x:Int)).toNat=x
 rw [BitVec.ofInt_natCast,BitVec.toNat_ofNat];exact Nat.mod_eq_of_lt (by omega)
theorem q34 (x:Nat) (h:x<18446744073709551616):IntKind.u64.wrap (x:Int)=(x:Int):=by rw [IntKind.wrap_u64];omega
theorem qor (x y:Nat) (hx:x<18446744073709551616) (hy:y<18446744073709551616):IntKind.u64.wrap (BitVec.ofInt IntKind.u64.bits (x:Int) ||| BitVec.ofInt IntKind.u64.bits (y:Int)).toNat=((x ||| y:Nat):Int):=by
 rw [BitVec.toNat_or,q8w x hx,q8w y hy]
 exact q34 _ (Nat.or_lt_two_pow (n:=64) hx hy)
theorem qig (x y:Nat) (hx:x<18446744073709551616) (hy:y<18446744073709551616):IntKind.u64.wrap (BitVec.ofInt IntKind.u64.bits (x:Int) &&& BitVec.ofInt IntKind.u64.bits (y:Int)).toNat=((x &&& y:Nat):Int):=by
 rw [BitVec.toNat_and,q8w x hx,q8w y hy]
 exact q34 _ (Nat.and_lt_two_pow (n:=64) _ hy)
theorem qgz (f g:Nat→Bool) (i:Nat):IntKind.u64.wrap (BitVec.ofInt IntKind.u64.bits (wd f i:Int) &&& ~~~ (BitVec.ofInt IntKind.u64.bits (wd g i:Int))).toNat=((wd (fun n=>f n&&!g n) i:Nat):Int):=by
 have e:(BitVec.ofInt IntKind.u64.bits (wd f i:Int) &&& ~~~ (BitVec.ofInt IntKind.u64.bits (wd g i:Int))).toNat=wd (fun n=>f n&&!g n) i:=by
  rw [BitVec.toNat_and,BitVec.toNat_not,q8w _ (qdb f i),q8w _ (qdb g i)]
  apply Nat.eq_of_testBit_eq;intro j
  rw [Nat.testBit_and,show (2:Nat) ^ IntKind.u64.bits-1-wd g i=2 ^ 64-(wd g i+1) by show 2 ^ 64-1-wd g i=_;omega,Nat.testBit_two_pow_sub_succ (qdb g i),q5g,q5g,q5g]
  cases decide (j<64)<;>simp
 rw [e]
 exact q34 _ (qdb _ _)
theorem qxe (x:Nat) (h0:x≠0) (h:x<18446744073709551616):IntKind.u64.wrap ((x:Int)-1)=((x-1:Nat):Int):=by rw [IntKind.wrap_u64];omega
def okB (l:List Int) (i:Nat):Bool:=match l[i]? with
 | none=>true
 | some n=>decide (0≤n)&&decide (n<256)&&(i == 0||match l[i-1]? with
  | some m=>decide (m<n)
  | none=>true)
def sok (l:List Int):Bool:=(List.range l.length).all (okB l)
theorem qkk {l:List Int} {k:Nat} (hk:k<l.length) (h:okB l k=false):sok l=false:=by
 cases hs:sok l with
 | false=>rfl
 | true =>
  have:=List.all_eq_true.1 hs k Y1s
  rw [h] at this;cases this
theorem qhu {l:List Int} (h:∀ k,k<l.length→okB l k=true):sok l=true:=List.all_eq_true.2 fun k hk=>h k Y1s
theorem q6t {l:List Int} (h:sok l=true) {k:Nat} (hk:k<l.length):okB l k=true:=List.all_eq_true.1 h k Y1s
theorem qcn {l:List Int} {k:Nat} {n:Int} (hn:l[k]?=some n):okB l k=(decide (0≤n)&&decide (n<256)&&(k == 0||match l[k-1]? with
  | some m=>decide (m<n)
  | none=>true)):=by rw [okB,hn]
theorem q8q {l:List Int} {k:Nat} {n:Int} (hn:l[k]?=some n) (h:okB l k=true):0≤n∧n<256:=by
 rw [qcn hn] at h
 simp only [Bool.and_eq_true,decide_eq_true_eq] at h
 exact h.1
def inl (l:List Int) (j:Nat):Bool:=l.any fun n=>n == (j:Int)
def okn (l:List Int):Nat:=((List.range l.length).takeWhile (okB l)).length
theorem q8n {p:Nat→Bool} {n k:Nat} (hk:k≤n) (h:∀ i,i<k→p i=true) (h2:k<n→p k=false):((List.range n).takeWhile p).length=k:=by
 obtain ⟨d,rfl⟩:∃ d,n=k+d:=⟨n-k,by omega⟩
 rw [List.range_add,List.takeWhile_append_of_pos (by intro i hi;exact h i (by simpa using hi))]
 cases d with
 | zero=>simp
 | succ d =>
  have:(List.map (fun x=>k+x) (List.range (d+1))).takeWhile p=[]:=by
   rw [List.range_succ_eq_map,List.map_cons,Nat.add_zero,List.takeWhile_cons_of_neg (by rw [h2 (by omega)];simp)]
  rw [this];simp
theorem q135 {l:List Int} {k:Nat} (hk:k<l.length) (h:∀ i,i<k→okB l i=true) (h2:okB l k=false):okn l=k:=q8n (Nat.le_of_lt hk) h fun _=>h2
theorem qbx {l:List Int} (h:∀ i,i<l.length→okB l i=true):okn l=l.length:=q8n (Nat.le_refl _) h fun h=>absurd h (Nat.lt_irrefl _)
def qv1 (l:List Int) (k:Nat):Int:=if k=0 then -1 else (l[k-1]?).getD 0
theorem qwu {l:List Int} {k:Nat} {n:Int} (hn:l[k]?=some n) (h:∀ i,i<k→okB l i=true):okB l k = !(decide (n≤qv1 l k)||decide (256≤n)):=by
 rw [qcn hn,qv1]
 cases k with
 | zero=>simp;rw [Bool.eq_iff_iff];simp;omega
 | succ k =>
  have hk:k<l.length:=by have:=(List.getElem?_eq_some_iff.1 hn).1;omega
  have hm:l[k]?=some l[k]:=List.getElem?_eq_getElem hk
  have:=q8q hm (h k (by omega))
  simp only [Nat.add_sub_cancel,hm,Option.getD_some]
  rw [Bool.eq_iff_iff]
  simp
  omega
def q52 (l:List Int) (k:Nat):Nat→Bool:=inl (l.take k)
theorem qvx {l:List Int} {k:Nat} {n:Nat} (hn:l[k]?=some (n:Int)):q52 l (k+1)=fun m=>q52 l k m||m == n:=by
 funext m
 rw [q52,q52,ql hn,inl,inl,List.any_append]
 congr 1
 rw [List.any_cons,List.any_nil,Bool.or_false,Bool.eq_iff_iff]
 simp
 omega
theorem qta (l:List Int):q52 l 0=fun _=>false:=rfl
theorem qb2 (l:List Int):q52 l l.length=inl l:=by rw [q52,List.take_length]
def eWn (w:Nat→Nat):List AV:=(List.range 4).map fun j=>.int .u64 ((w j:Nat):Int)
theorem q8h (w:Nat→Nat) {k:Nat} (h:k<4):(eWn w)[k]?=some (.int .u64 ((w k:Nat):Int)):=by simp [eWn,List.getElem?_map,List.getElem?_range h]
theorem qt6 (w:Nat→Nat) {k:Nat} (h:k<4) (x:Nat):(eWn w).take k++[AV.int .u64 (x:Int)]++(eWn w).drop (k+1)=eWn fun j=>if j=k then x else w j:=by
 match k,h with
 | 0,_=>rfl
 | 1,_=>rfl
 | 2,_=>rfl
 | 3,_=>rfl
theorem qev {w v:Nat→Nat} (h:∀ j,j<4→w j=v j):eWn w=eWn v:=List.map_congr_left fun j hj=>by rw [h j (by simpa using hj)]
end Go.Av
