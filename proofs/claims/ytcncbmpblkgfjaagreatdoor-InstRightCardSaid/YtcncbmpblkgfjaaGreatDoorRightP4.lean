/- Parts of the proof: rules for an abstract memory, plain laws, and walks through the program. -/
import Derived.Test.YtcncbmpblkgfjaaGreatDoorRightP0
import Derived.Test.YtcncbmpblkgfjaaGreatDoorRightP3
import Derived.Test.YtcncbmpblkgfjaaGreatDoorRightP1
import Derived.Lib.Overlaps
import Derived.Sort.Grow
import Derived.Ground.SlgnProg
import Derived.Shelf.SlicesG.CompactI
import Derived.Ground.SlgmProg
import Derived.Shelf.SortM.Plain
import Derived.Shelf.SortM.SortNone
import Derived.Test.YtcncbmpblkgfjaaGreatDoorProg
import Derived.Lib.SlicesCompact
import Derived.Test.YtcncbmpblkgfjaaGreatDoorRightP2
import Derived.ChangeKeysEq
set_option maxRecDepth 10000
set_option linter.unusedVariables false
set_option linter.unusedSimpArgs false
namespace Go.Av
open Go
section
variable {P : Program} {N : Nat} {B : Base} {Q : q77} {env : Env} {H H0 L : qj} {ty : TypeId} {ops : Array Oper} {rest : List Oper}
structure SrcRN (P : Program) (S : List Slot) (w : World) (sz full : Nat) (ys : List (List AV)) (x : Value) (news : Array Value) : Prop where
 len:∀ w',(Builtin.lenOf x).run P w' = .ok full w'
 first:∀ w',w'.heap=w.heap→(Builtin.firstCells sz ys.length x).run P w' = .ok news w'
 cells:CellsR S w ys.flatten news
 one:∀ u∈news.toList,u.oneCell'=true
 wide:∀ r∈ys,r.length=sz
def SrcN (P:Program) (N:Nat) (env:Env) (H:qj) (x:Operand) (sz full:Nat) (ys:List (List AV)):Prop:=∀ S a w,CR N env H S a w→∃ news,SrcRN P S w sz full ys (a.eval x) news
theorem SrcN.sl {x:Operand} {id g off len cap n sz:Nat} {o:AObj} {ys:List (List AV)} (hx:aev env x = .sl id g off len cap) (hid:H[id]?=some o) (hg:o.gen=g) (hsz:o.sz=sz) (hn:n≤len) (hys:(o.rows.drop off).take n=ys) (hlen:ys.length=n):SrcN P N env H x sz len ys:=by
 subst hg
 intro S a w hc
 obtain ⟨s,c,hs,ok,hcc,hlc,h⟩:=hc.slc hx hid
 rcases h with ⟨h0,ad,he⟩ | ⟨b,arr,et,hp,he,hb,hfit,hrow⟩
 ·have hc1:CR 1 [(0,.nsl)] H S { tmps:=#[.slice ad 0 0],defers:=[] } w:=⟨hc.heap,fun t=>by
   cases t with
   | zero=>exact .nsl
   | succ t=>exact .junk,rfl,rfl⟩
  obtain ⟨news,hr⟩:=qro (P:=P) (sz:=sz) hc1 (x:=.tmp 0) rfl
  have e0:ys=[]:=List.eq_nil_of_length_eq_zero (by omega)
  subst e0
  rw [he]
  have e1:len=0:=by omega
  subst e1
  exact ⟨news,⟨fun w'=>rfl,hr.first,hr.cells,hr.one,hr.wide⟩⟩
 ·have hc1:CR 1 [(0,.sl id o.gen off n n)] H S { tmps:=#[.slice (some ⟨b,off * o.sz,none⟩) n c],defers:=[] } w:=⟨hc.heap,fun t=>by
   cases t with
   | zero=>exact .sl s hs Yn rfl fun _=>⟨c,by omega,by omega,.inr ⟨b,arr,et,hp,by rw [ok.sz];rfl,hb,by rw [← ok.sz];exact hfit⟩⟩
   | succ t=>exact .junk,rfl,rfl⟩
  obtain ⟨news,hr⟩:=qrk (P:=P) hc1 (x:=.tmp 0) rfl hid hys hlen
  rw [he]
  subst hsz
  exact ⟨news,⟨fun w'=>rfl,fun w' hw'=>hr.first w' hw',hr.cells,hr.one,hr.wide⟩⟩
theorem qvt {t t' e:TypeId} {x y:Operand} {id off len cap sz full:Nat} {agg:Bool} {o:AObj} {ys:List (List AV)} [hu:SlI P t e] [TyI P e agg sz] (hx:aev env x = .sl id o.gen off len cap) (hid:H[id]?=some o) (hsz:o.sz=sz) (hoff:off≤o.rows.length)
  (hy:SrcN P N env H y sz full ys) (hmin:Nat.min full len=ys.length) :
  V2 P N (.call { callee:=.builtin .copy,args:=#[x,y],argTypes:=#[t,t'] }) ty env H (.int .i64 (ys.length:Int)) (H.set id { o with rows:=o.rows.take off++ys++o.rows.drop (off+ys.length) }):=by
 intro dst pos after guard S a w hc next Q hnext _
 obtain ⟨news,hs⟩:=hy S a w hc
 obtain ⟨s,c,hsl,ok,hcc,hlc,h⟩:=hc.slc hx hid
 have hnl:=hs.cells.1
 rw [q39 hs.wide] at hnl
 have hyl:ys.length≤len:=by rw [← hmin];exact Nat.min_le_right _ _
 have key:∀ (w':World) (ad:Option Addr),a.eval x = .slice ad len c→(match ad with | some b=>(storeCells b news.toList).run P w | none=>.ok () w) = .ok () w' →
   HRel (H.set id { o with rows:=o.rows.take off++ys++o.rows.drop (off+ys.length) }) S w'→Ext S w S w'→Oper.wp P ⟨dst,.call { callee:=.builtin .copy,args:=#[x,y],argTypes:=#[t,t'] },ty,pos,after,guard⟩ a w next Q:=by
  intro w' ad he hst hh hxx
  have hrun:(execOp a.eval ⟨dst,.call { callee:=.builtin .copy,args:=#[x,y],argTypes:=#[t,t'] },ty,pos,after,guard⟩).run P w = .ok (.value (.int .i64 (ys.length:Int))) w':=by
   have hm':min full len=ys.length:=hmin
   have hf:=hs.first w rfl
   cases ad with
   | none =>
    simp only at hst
    injection hst with _ e1
    subst e1
    simp [execOp,resolve,invoke,builtin,Builtin.copy_,he,q1t hu.ud,q3o (P:=P) (t:=e) (agg:=agg) (sz:=sz),hs.len,hm',hf,goInt,Nat.min_def]
    simp_all [Nat.min_def]
   | some ad =>
    simp only at hst
    simp [execOp,resolve,invoke,builtin,Builtin.copy_,he,q1t hu.ud,q3o (P:=P) (t:=e) (agg:=agg) (sz:=sz),hs.len,hf,goInt,hmin,hst]
  unfold Oper.wp
  rw [hrun]
  exact hnext _ _ _ S w' ⟨rfl,rfl⟩ hh hxx .int
 rcases h with ⟨h0,ad,he⟩ | ⟨b,arr,et,hp,he,hbl,hfit,hrow⟩
 ·have el:len=0:=by omega
  subst el
  have e0:ys=[]:=List.eq_nil_of_length_eq_zero (by omega)
  subst e0
  have en:news = #[]:=by
   have:news.size=0:=by rw [← hnl];simp
   exact Array.eq_empty_of_size_eq_zero this
  subst en
  refine key w ad (by rw [he,h0]) ?_ ?_ (Ext.refl S w)
  ·cases ad<;>simp [storeCells]
  ·have e:(o.rows.take off++[]++o.rows.drop (off+([]:List (List AV)).length))=o.rows:=by simp
   rw [e]
   have:H.set id { o with rows:=o.rows } = H:=by
    apply List.ext_getElem?
    intro i
    by_cases ei:id=i
    ·subst ei
     rw [List.getElem?_set_self (List.getElem?_eq_some_iff.1 hid).1,hid]
    ·rw [List.getElem?_set_ne ei]
   rw [this]
   exact hc.heap
 ·have hfit2:off * o.sz+news.size≤arr.size:=by
   rw [← hnl,hsz,← Nat.add_mul]
   rw [hsz] at hfit
   exact Nat.le_trans (Nat.mul_le_mul_right _ (by omega)) hfit
  have hst:=run_storeCells_at P b (off * o.sz) et news.toList 0 arr w hbl (by simpa using hfit2) hs.one
  simp only [Nat.add_zero,Array.length_toList] at hst
  have hsize:(arr.toList.take (off * o.sz)++news.toList++arr.toList.drop (off * o.sz+news.size)).toArray.size=arr.size:=by
   simp
   omega
  have hwa:∀ r∈o.rows,r.length=sz:=by
   intro r hr
   obtain ⟨i,hi⟩:=List.mem_iff_getElem?.1 hr
   rw [← hsz]
   exact (hrow.2 i r hi).1
  have hnew:RowOK (own S) S w o.sz (arr.toList.take (off * o.sz)++news.toList++arr.toList.drop (off * o.sz+news.size)).toArray (o.rows.take off++ys++o.rows.drop (off+ys.length)):=by
   have hin:RowOK (own S) S w o.sz news ys:=by rw [hsz];exact q5x hs.wide hs.cells
   refine ⟨?_,fun i r hr=>?_⟩
   ·rw [hsize]
    have h1:=hrow.1
    have h2:(off+ys.length) * o.sz≤arr.size:=by rw [Nat.add_mul,hsz,hnl,← hsz];exact hfit2
    have h3:(o.rows.take off++ys++o.rows.drop (off+ys.length)).length=max o.rows.length (off+ys.length):=by simp;omega
    rw [h3]
    rcases Nat.le_total o.rows.length (off+ys.length) with hle | hle
    ·rw [Nat.max_eq_right hle];exact h2
    ·rw [Nat.max_eq_left hle];exact h1
   ·have htl:(o.rows.take off).length=off:=by simp;omega
    have hal:(arr.toList.take (off * o.sz)).length=off * o.sz:=by simp;omega
    have hyz:ys.length * o.sz=news.size:=by rw [hsz];exact hnl
    by_cases c1:i<off
    ·rw [List.append_assoc,List.getElem?_append_left (by omega),List.getElem?_take,if_pos c1] at hr
     obtain ⟨k1,k2⟩:=hrow.2 i r hr
     refine ⟨k1,fun j v hv=>?_⟩
     obtain ⟨k3,u,k4,k5⟩:=k2 j v hv
     have hj:j<o.sz:=by rw [← k1];exact (List.getElem?_eq_some_iff.1 hv).1
     have hlt:i * o.sz+j<off * o.sz:=by
      have:(i+1) * o.sz≤off * o.sz:=Nat.mul_le_mul_right _ c1
      rw [Nat.succ_mul] at this
      omega
     refine ⟨k3,u,?_,k5⟩
     rw [List.getElem?_toArray,List.append_assoc,List.getElem?_append_left (by omega),List.getElem?_take,if_pos hlt,Array.getElem?_toList]
     exact k4
    ·by_cases c2:i<off+ys.length
     ·rw [List.append_assoc,List.getElem?_append_right (by omega),htl,List.getElem?_append_left (by omega)] at hr
      obtain ⟨k1,k2⟩:=hin.2 (i-off) r hr
      refine ⟨k1,fun j v hv=>?_⟩
      obtain ⟨k3,u,k4,k5⟩:=k2 j v hv
      have hlt:=(Array.getElem?_eq_some_iff.1 k4).1
      refine ⟨k3,u,?_,k5⟩
      have e1:i * o.sz+j-off * o.sz=(i-off) * o.sz+j:=by
       rw [Nat.sub_mul]
       have:off * o.sz≤i * o.sz:=Nat.mul_le_mul_right _ (by omega)
       omega
      have hge:off * o.sz≤i * o.sz:=Nat.mul_le_mul_right _ (by omega)
      rw [List.getElem?_toArray,List.append_assoc,List.getElem?_append_right (by omega),hal,e1,List.getElem?_append_left (by simpa using hlt),Array.getElem?_toList]
      exact k4
     ·rw [List.getElem?_append_right Y1c] at hr
      have e2:i-(o.rows.take off++ys).length=i-(off+ys.length):=by simp;omega
      rw [e2,List.getElem?_drop,show off+ys.length+(i-(off+ys.length))=i by omega] at hr
      obtain ⟨k1,k2⟩:=hrow.2 i r hr
      refine ⟨k1,fun j v hv=>?_⟩
      obtain ⟨k3,u,k4,k5⟩:=k2 j v hv
      refine ⟨k3,u,?_,k5⟩
      have hge:(off+ys.length) * o.sz≤i * o.sz:=Nat.mul_le_mul_right _ (by omega)
      rw [Nat.add_mul,hyz] at hge
      have hl2:(arr.toList.take (off * o.sz)++news.toList).length=off * o.sz+news.size:=by simp;omega
      rw [List.getElem?_toArray,List.getElem?_append_right (by omega),hl2,List.getElem?_drop,show off * o.sz+news.size+(i * o.sz+j-(off * o.sz+news.size))=i * o.sz+j by omega,Array.getElem?_toList]
      exact k4
  have hw:=hc.heap.write (rows':=o.rows.take off++ys++o.rows.drop (off+ys.length)) hid hsl hp hbl hsize hnew
  exact key _ (some ⟨b,off * o.sz,none⟩) he hst hw.1 hw.2
theorem qol {f:FuncId} {fn:Func} {x y:Operand} {ts:Array TypeId} {tS tR e:TypeId} {id g off len cap id' g' off' len' cap' sz:Nat} {agg:Bool} {o o':AObj} [hu:SlI P tS e] [TyI P e agg sz]
  (hf : P.funcs[f]? = some fn) (hname : (fn.name == "runtime.NumGoroutine") = false) (hb : fn.body.isNone = true) (hn : Extern.findNext fn = none) (he : Extern.find fn = some (Extern.SlicesOverlaps.overlaps #[tS, tS] #[tR]))
  (hx:aev env x = .sl id g off len cap) (hid:H[id]?=some o) (hg:o.gen=g) (hy:aev env y = .sl id' g' off' len' cap') (hid':H[id']?=some o') (hg':o'.gen=g') (hne:id≠id') (h0:0<len) (h0':0<len') (hz:o'.sz=sz) :
  V1 P N (.call { callee:=.value (.func f),args:=#[x,y],argTypes:=ts }) ty env H (.bool false):=by
 subst hg;subst hg'
 refine qn4 hf hname hb hn he fun S a w hc=>?_
 obtain ⟨s,c,hsl,ok,hcc,hlc,h⟩:=hc.slc hx hid
 obtain ⟨s',c',hsl',ok',hcc',hlc',h'⟩:=hc.slc hy hid'
 rcases h with ⟨q0,ad,hx1⟩ | ⟨b,arr,et,hp,hx1,hbl,hfit,hrow⟩
 ·omega
 rcases h' with ⟨q0,ad,hy1⟩ | ⟨b',arr',et',hp',hy1,hbl',hfit',hrow'⟩
 ·omega
 have hbb:b≠b':=fun e1=>hne (hc.heap.inj id id' s s' b hsl hsl' hp (e1▸hp'))
 refine ⟨.bool false,?_,.bool⟩
 have e1:(#[x,y]:Array Operand).map a.eval = #[a.eval x,a.eval y]:=by simp
 rw [e1,hx1,hy1]
 have hpos:=ok'.pos
 have hpos1:=ok.pos
 refine Lib.run_overlaps_apart w tS tR e hu.ud sz (fun w=>q3o (P:=P) (t:=e) (agg:=agg) (sz:=sz) w) ⟨b,off * o.sz,none⟩ ⟨b',off' * o'.sz,none⟩ len c len' c' hbb et et' arr.size arr'.size ?_ ?_ ?_ ?_ ?_
 ·simp [World.shape?,hbl]
 ·simp [World.shape?,hbl']
 ·have:1 * 1≤(off'+c') * o'.sz:=Nat.mul_le_mul (by omega) hpos
  omega
 ·simp [World.frozen?,hbl]
 ·simp [World.frozen?,hbl]
theorem CR.raw0 {S:List Slot} {a:Act} {w:World} (hc:CR N env H S a w) (t:Nat):CR N ((t,.raw (a.tmps.getD t undef)) :: env) H S a w :=
 ⟨hc.heap,fun t'=>by
  by_cases e:t=t'
  ·subst e;rw [qv];exact .raw
  ·rw [qk _ _ e];exact hc.env t',hc.size,hc.defers⟩
theorem lo1 {S:List Slot} {a:Act} {w:World} {QQ:Exit→Act→World→Prop} {d:Nat} {op:Op} {pos:String} {after:Array Edge} {v:AV} (hc:CR N env H S a w) (hd:d<N) (h1:V1 P N op ty env H v) (k:∀ a',CR N ((d,v) :: env) H S a' w→wpList P ops QQ rest a' w):wpList P ops QQ (⟨some d,op,ty,pos,after,none⟩ :: rest) a w:=by
 refine wpList_plain rfl fun next hnext=>?_
 obtain ⟨u,hr,hv⟩:=h1 S a w hc
 unfold Oper.wp
 rw [hr]
 exact hnext _ _ (k _ (CR.put (d:=some d) hc (Ext.refl S w) hc.heap Yx hv))
theorem qiy {S:List Slot} {a:Act} {w:World} (hc:CR N env H S a w) {x:Operand} {u:Value} (h:aev env x = .raw u):a.eval x=u:=by
 have:=hc.ev x
 rw [h] at this
 generalize a.eval x=u' at this
 cases this
 rfl
theorem qt9 {t e:TypeId} {x:Operand} {ad:Option Addr} {l c:Nat} [hu:SlI P t e] (hx:aev env x = .raw (.slice ad l c)):V1 P N (.call { callee:=.builtin .cap,args:=#[x],argTypes:=#[t] }) ty env H (.int .i64 (c:Int)):=by
 intro S a w hc
 refine ⟨.int .i64 c,fun _ _ _ _=>?_,.int⟩
 simp [execOp,resolve,invoke,builtin,Builtin.cap_,qiy hc hx,q1t hu.ud,goInt]
theorem qna {t e:TypeId} {x y:Operand} {b off n c i sz:Nat} {k:IntKind} {agg:Bool} [hu:SlI P t e] [TyI P e agg sz] (hx:aev env x = .raw (.slice (some ⟨b,off,none⟩) n c)) (hy:aev env y = .int k (i:Int)) (hi:i≤c) (hc0:0<c) :
  V1 P N (.slice t x none (some y) none) ty env H (.raw (.slice (some ⟨b,off,none⟩) i c)):=by
 intro S a w hc
 have hb':=q3g (P:=P) (lo:=none) (hi:=some y) (l:=0) (h:=i) (len:=n) hc true (cap:=c) rfl (.some hy rfl) (Nat.zero_le _) hi
 simp only [Option.map_none,Option.map_some] at hb'
 refine ⟨_,fun _ _ _ _=>?_,.raw⟩
 have e1:(⟨b,off,none⟩:Addr).add (0 * sz)=⟨b,off,none⟩:=by rw [q3v,Nat.zero_mul,Nat.add_zero]
 have e2:¬ c=0:=by omega
 simp [execOp,qiy hc hx,Instr.sliceAt,Instr.slice,q1t hu.ud,hb',q3o (P:=P) (t:=e) (agg:=agg) (sz:=sz),e2,q3v]
end
section
variable {P : Program} {N : Nat} {B : Base} {Q : q77} {env : Env} {H H0 L : qj} {ty : TypeId} {ops : Array Oper} {rest : List Oper}
theorem qbh {t t' e:TypeId} {sz bytes:Nat} {agg:Bool} {zs:List AV} [hu:SlI P t e] [hni:UdI P t' (.int .i64)] [ht:TyI P e agg sz] [hz:ZcI P e zs] [hby:ByI P e bytes] (S:List Slot) {w:World} {olds:Array Value} {ad:Addr} {i k c:Nat} (hzs:zs.length=sz) (hpos:0<sz)
  (hold:(Builtin.firstCells sz i (.slice (some ad) i c)).run P w.drew = .ok olds w.drew) (hk:0<k) (hroom:c<i+k) (h63:i+k≤9223372036854775807) (hb:(i+k) * bytes≤140737488355328) :
  ∃ cap' more rest,i+k≤cap'∧rest.size=(cap'-(i+k)) * sz∧CellsR S w (List.replicate k zs).flatten more∧(Builtin.append_ #[t,t'] ty #[.slice (some ad) i c,.int .i64 (k:Int)]).run P w = .ok (.slice (some ⟨w.heap.size,0,none⟩) (i+k) cap') (w.drew.alloc (.cells (olds++more++rest) e)):=by
 obtain ⟨z,hz0,hz1,hz2⟩:=hz.ze
 have hzr:CellsR S w zs z.cells:=.of_val hz1 hz2
 have htb:=hby.by_
 cases hi:P.info? e with
 | none=>simp [hi] at htb
 | some q =>
  simp [hi] at htb hz0
  have hfit:=growslice_fits (bytes:=q.bytes) hroom (by rw [htb];exact hb)
  have hzl:z.cells.size=sz:=by rw [← hzs,← hz1];simp
  have n0:¬ ((k:Int)<0):=by omega
  have nw:IntKind.i64.wrap (k:Int)=k:=by rw [IntKind.wrap_i64];omega
  have n1:¬ (i+k≤c):=by omega
  have n2:¬ ((9223372036854775807:Int)<((i:Int)+(k:Int))):=by omega
  have n3:¬ (281474976710656<Builtin.nextslicecap (i+k) c * q.bytes):=by omega
  have n4:¬ ((281474976710656:Int)<(k:Int) * (q.bytes:Int)):=by
   rw [← Int.natCast_mul]
   rw [← htb,Nat.add_mul] at hb
   omega
  have n5:¬ (k * sz=0):=Nat.mul_ne_zero (by omega) (by omega)
  have n6:k≠0:=by omega
  have n7:sz≠0:=by omega
  have hrep:=hzr.rep (by omega) k
  rw [hzs,← hzl] at hrep
  refine ⟨grownCap w (i+k) c e,Builtin.zeroCells z.cells k,Builtin.zeroCells z.cells (grownCap w (i+k) c e-(i+k)),grownCap_ge _ _ _ _,?_,hrep,?_⟩
  ·rw [size_zeroCells,hzl]
  ·have hiz:q.zero=some z:=hz0
   simp [Builtin.append_,q1t hu.ud,q1t hni.ud,q3o (P:=P) (t:=e) (agg:=agg) (sz:=sz),typeInfo,zeroValue,hi,hiz,asInt,asIntOf,nw,n0,n1,n2,n3,n4,n6,n7,Question.forced,hold,newRow,grownCap]
   intro hh;exact absurd hh n5
theorem qnw {t t' e:TypeId} {sz bytes:Nat} {agg:Bool} {zs:List AV} [hu:SlI P t e] [hni:UdI P t' (.int .i64)] [ht:TyI P e agg sz] [hz:ZcI P e zs] [hby:ByI P e bytes] {S:List Slot} {a:Act} {w:World} {QQ:Exit→Act→World→Prop} {d:Nat} {pos:String} {after:Array Edge} {x y:Operand} {b i k c id:Nat} {o:AObj} {s:Slot} {arr:Array Value} {et:TypeId}
  (hzs:zs.length=sz) (hc:CR N env H S a w) (hd:d<N) (hx:aev env x = .raw (.slice (some ⟨b,0,none⟩) i c)) (hy:aev env y = .int .i64 (k:Int)) (hid:H[id]?=some o) (hs:S[id]?=some s) (hp:s.place=some b) (hsz:o.sz=sz)
  (hb:w.heap[b]?=some (Obj.cells arr et (0,0))) (hfit:c * o.sz≤arr.size) (hic:i≤c) (hi:i≤o.rows.length) (hk:0<k) (hroom:c<i+k) (h63:i+k≤9223372036854775807) (hby':(i+k) * bytes≤140737488355328)
  (next:∀ a' S' w',CR N ((d,.sl H.length 0 0 (i+k) (i+k)) :: env) (H++[⟨0,sz,o.rows.take i++List.replicate k zs⟩]) S' a' w'→Ext S w S' w'→wpList P ops QQ rest a' w') :
  wpList P ops QQ (⟨some d,.call { callee:=.builtin .append,args:=#[x,y],argTypes:=#[t,t'] },ty,pos,after,none⟩ :: rest) a w:=by
 have ok:=hc.heap.obj id o s hid hs
 have hpos:=ok.pos
 have hc1:CR 1 [(0,.sl id o.gen 0 i i)] H S { tmps:=#[.slice (some ⟨b,0,none⟩) i c],defers:=[] } w:=⟨hc.heap,fun t=>by
   cases t with
   | zero=>exact .sl s hs Yn rfl fun _=>⟨c,by omega,by omega,.inr ⟨b,arr,et,hp,by rw [Nat.zero_mul];rfl,hb,by rw [← ok.sz,Nat.zero_add];exact hfit⟩⟩
   | succ t=>exact .junk,rfl,rfl⟩
 obtain ⟨olds,hr⟩:=qrk (P:=P) hc1 (x:=.tmp 0) rfl hid (ys:=o.rows.take i) (by rw [List.drop_zero]) Y1c
 have hlen:(o.rows.take i).length=i:=by simp;omega
 have hold:=hr.first w.drew rfl
 rw [hlen,hsz] at hold
 obtain ⟨cap',more,rest',g1,g2,g3,g4⟩:=qbh (P:=P) (t:=t) (t':=t') (e:=e) (ty:=ty) (sz:=sz) (bytes:=bytes) (agg:=agg) (zs:=zs) S (w:=w) (ad:=⟨b,0,none⟩) hzs (by omega) hold hk hroom h63 hby'
 have hm:=Made.drew_alloc w (olds++more++rest') e
 have hwide:∀ r∈o.rows.take i++List.replicate k zs,r.length=sz:=by
  intro r hr'
  rcases List.mem_append.1 hr' with h | h
  ·rw [← hsz];exact hr.wide r h
  ·rw [List.eq_of_mem_replicate h];exact hzs
 have hrow0:RowOK (own S) S w sz (olds++more++rest') (o.rows.take i++List.replicate k zs):=RowOK.of_cells hwide (by rw [List.flatten_append];exact hr.cells.append g3)
 obtain ⟨hh,hx'⟩:=hc.heap.made hm (by omega) hrow0
 refine wpList_plain rfl fun nx hnx=>?_
 have hrun:(execOp a.eval ⟨some d,.call { callee:=.builtin .append,args:=#[x,y],argTypes:=#[t,t'] },ty,pos,after,none⟩).run P w = .ok (.value (.slice (some ⟨w.heap.size,0,none⟩) (i+k) cap')) (w.drew.alloc (.cells (olds++more++rest') e)):=by
  simp [execOp,resolve,invoke,builtin,qiy hc hx,q1v hc hy,g4]
 unfold Oper.wp
 rw [hrun]
 refine hnx _ _ (next _ _ _ (CR.put (d:=some d) hc hx' hh Yx ?_) hx')
 refine .sl ⟨0,sz,some w.heap.size⟩ (by rw [hc.heap.len];exact SExt.last S _) (Nat.le_refl _) rfl fun _=>⟨cap',g1,g1,.inr ⟨w.heap.size,_,_,rfl,by simp,hm.new,?_⟩⟩
 have h1:=hr.cells.1
 have h2:=g3.1
 rw [q39 hr.wide,hlen,hsz] at h1
 rw [q39 (sz:=sz) (fun r h=>by rw [List.eq_of_mem_replicate h];exact hzs),List.length_replicate] at h2
 simp only [Array.size_append,← h1,← h2,g2,Nat.zero_add,← Nat.add_mul]
 exact Nat.mul_le_mul_right _ (by omega)
theorem qpn {tS t' e:TypeId} {sz bytes n m i id g cap r8 r9:Nat} {agg:Bool} {zs:List AV} [hu:SlI P tS e] [hni:UdI P t' (.int .i64)] [ht:TyI P e agg sz] [hz:ZcI P e zs] [hby:ByI P e bytes] {Y:Code} {o:AObj} {v:AV}
  {y1 y2 y3 y4 y5 y6 z1 z2 z3 z4 z5 z6 z7 z8 z9 z10:TypeId} {p1 p2 p3 p4 p5 p6 q1 q2 q3 q4 q5 q6 q7 q8 q9 q10:String} {a1 a2 a3 a4 a5 a6 b1 b2 b3 b4 b5 b6 b7 b8 b9 b10:Array Edge}
  {k1 k2 k3 k4 k5 k6 k7 k8:TypeId}
  (hN:41≤N) (h0:get env 0 = .sl id g 0 n cap) (h1:get env 1 = .int .i64 (i:Int)) (h2:get env 2=v) (h7:get env 7 = .int .i64 (m:Int)) (h8:get env 8 = .int .i64 (n:Int)) (hid:H[id]?=some o) (hg:o.gen=g) (hsz:o.sz=sz) (hzs:zs.length=sz)
  (hnr:n≤o.rows.length) (hi:i<n) (hm:0<m) (hbig:n+m≤1000000) (hbb:bytes≤1000000)
  (hroom:Q .nrm [(0,.sl id g 0 n (n+m)),(1,.int .i64 (i:Int)),(2,v),(7,.int .i64 (m:Int)),(8,.int .i64 (n:Int))] H)
  (hgrow:AWp P N B Y Q [(9,.sl H.length 0 0 (n+m) (n+m)),(0,.sl id g 0 n n),(1,.int .i64 (i:Int)),(2,v),(7,.int .i64 (m:Int)),(8,.int .i64 (n:Int))] (H++[⟨0,sz,o.rows.take i++List.replicate (n+m-i) zs⟩])) :
  AWp P N B (.seq (.region r8 #[⟨some 26,.move (.tmp 8),y1,p1,a1,none⟩,⟨some 27,.move (.tmp 7),y2,p2,a2,none⟩,⟨some 28,.binOp .add k1 (.tmp 26) (.tmp 27) k2,y3,p3,a3,none⟩,⟨some 29,.move (.tmp 0),y4,p4,a4,none⟩,
    ⟨some 30,.call { callee:=.builtin .cap,args:=#[.tmp 29],argTypes:=#[tS] },y5,p5,a5,none⟩,⟨some 31,.binOp .gtr k3 (.tmp 28) (.tmp 30) k4,y6,p6,a6,none⟩] false)
   (.cond (.tmp 31) (.seq (.region r9 #[⟨some 32,.move (.tmp 0),z1,q1,b1,none⟩,⟨some 33,.move (.tmp 1),z2,q2,b2,none⟩,⟨some 34,.slice tS (.tmp 32) none (some (.tmp 33)) none,z3,q3,b3,none⟩,⟨some 35,.move (.tmp 8),z4,q4,b4,none⟩,⟨some 36,.move (.tmp 7),z5,q5,b5,none⟩,
    ⟨some 37,.binOp .add k5 (.tmp 35) (.tmp 36) k6,z6,q6,b6,none⟩,⟨some 38,.move (.tmp 1),z7,q7,b7,none⟩,⟨some 39,.binOp .sub k7 (.tmp 37) (.tmp 38) k8,z8,q8,b8,none⟩,⟨some 40,.call { callee:=.builtin .append,args:=#[.tmp 34,.tmp 39],argTypes:=#[tS,t'] },z9,q9,b9,none⟩,⟨some 9,.assign (.tmp 40),z10,q10,b10,none⟩] false) Y) .skip)) Q env H:=by
 intro S a w hc hb
 subst hg
 obtain ⟨s,c,hs,ok,hcc,hlc,h⟩:=hc.slc (x:=.tmp 0) h0 hid
 rcases h with ⟨q0,ad,he⟩ | ⟨b,arr,et,hp,he,hbl,hfit,hrow⟩
 ·omega
 have he':a.tmps.getD 0 undef = .slice (some ⟨b,0 * o.sz,none⟩) n c:=he
 rw [Nat.zero_mul] at he'
 have hc0:=hc.raw0 0
 rw [he'] at hc0
 rw [Nat.zero_add] at hfit
 have w1:IntKind.i64.wrap ((n:Int)+(m:Int))=((n+m:Nat):Int):=by rw [IntKind.wrap_i64];omega
 have w2:IntKind.i64.wrap (((n+m:Nat):Int)-(i:Int))=((n+m-i:Nat):Int):=by rw [IntKind.wrap_i64];omega
 refine wp_seq (wp_region_lit ?_)
 refine lo1 hc0 (by omega) (qd (v:=.int .i64 (n:Int)) h8) fun a hc=>?_
 refine lo1 hc (by omega) (qd (v:=.int .i64 (m:Int)) h7) fun a hc=>?_
 refine lo1 hc (by omega) (q5y rfl rfl w1) fun a hc=>?_
 refine lo1 hc (by omega) (qd (v:=.raw (.slice (some ⟨b,0,none⟩) n c)) rfl) fun a hc=>?_
 refine lo1 hc (by omega) (qt9 (e:=e) rfl) fun a hc=>?_
 refine lo1 hc (by omega) (qjz rfl rfl) fun a hc=>?_
 refine wpList_nil ?_
 have hsl:∀ k,k≤c→VR (own S) w S (.sl id o.gen 0 n k) (.slice (some ⟨b,0,none⟩) n c):=fun k hk=>.sl s hs Yn rfl fun _=>⟨c,hk,hlc,.inr ⟨b,arr,et,hp,by rw [Nat.zero_mul],hbl,by rw [Nat.zero_add,← ok.sz];exact hfit⟩⟩
 by_cases hr:n+m≤c
 ·have e31:a.eval (.tmp 31) = .bool false:=qak hc (x:=.tmp 31) (by show AV.bool _=_;congr 1;simp;omega)
  refine wp_cond_false e31 ?_
  refine qdr hroom S a w ⟨hc.heap,fun t=>?_,hc.size,hc.defers⟩ hb
  have hv0:a.tmps.getD 0 undef = .slice (some ⟨b,0,none⟩) n c:=qiy hc (x:=.tmp 0) rfl
  have hv:=hc.env t
  by_cases e0:t=0
  ·subst e0
   rw [hv0]
   exact hsl _ hr
  by_cases e1:t=1
  ·subst e1;have:=hv;simp only [get,Nat.beq] at this ⊢;rw [h1] at this;exact this
  by_cases e2:t=2
  ·subst e2;have:=hv;simp only [get,Nat.beq] at this ⊢;rw [h2] at this;exact this
  by_cases e7:t=7
  ·subst e7;have:=hv;simp only [get,Nat.beq] at this ⊢;rw [h7] at this;exact this
  by_cases e8:t=8
  ·subst e8;have:=hv;simp only [get,Nat.beq] at this ⊢;rw [h8] at this;exact this
  ·rw [qk _ _ (Ne.symm e0),qk _ _ (Ne.symm e1),qk _ _ (Ne.symm e2),qk _ _ (Ne.symm e7),qk _ _ (Ne.symm e8)]
   exact .junk
 ·have e31:a.eval (.tmp 31) = .bool true:=qak hc (x:=.tmp 31) (by show AV.bool _=_;congr 1;simp;omega)
  refine wp_cond_true e31 ?_
  refine wp_seq (wp_region_lit ?_)
  refine lo1 hc (by omega) (qd (v:=.raw (.slice (some ⟨b,0,none⟩) n c)) rfl) fun a hc=>?_
  refine lo1 hc (by omega) (qd (v:=.int .i64 (i:Int)) h1) fun a hc=>?_
  refine lo1 hc (by omega) (qna (e:=e) (agg:=agg) (sz:=sz) rfl rfl (by omega) (by omega)) fun a hc=>?_
  refine lo1 hc (by omega) (qd (v:=.int .i64 (n:Int)) h8) fun a hc=>?_
  refine lo1 hc (by omega) (qd (v:=.int .i64 (m:Int)) h7) fun a hc=>?_
  refine lo1 hc (by omega) (q5y rfl rfl w1) fun a hc=>?_
  refine lo1 hc (by omega) (qd (v:=.int .i64 (i:Int)) h1) fun a hc=>?_
  refine lo1 hc (by omega) (q5p rfl rfl w2) fun a hc=>?_
  have e9:i+(n+m-i)=n+m:=by omega
  have hbb':(i+(n+m-i)) * bytes≤140737488355328:=by
   rw [e9]
   exact Nat.le_trans (Nat.mul_le_mul hbig hbb) (by decide)
  refine qnw (e:=e) (agg:=agg) (bytes:=bytes) hzs hc (by omega) rfl rfl hid hs hp hsz hbl hfit (by omega) (by omega) (by omega) (by omega) (by omega) hbb' fun a S' w' hc hx'=>?_
  rw [e9] at hc
  refine lo1 hc (by omega) (q14 (v:=.sl H.length 0 0 (n+m) (n+m)) rfl) fun a hc=>?_
  refine wpList_nil ?_
  refine hgrow S' a w' ⟨hc.heap,fun t=>?_,hc.size,hc.defers⟩ (hb.trans hx')
  have hv0:a.tmps.getD 0 undef = .slice (some ⟨b,0,none⟩) n c:=qiy hc (x:=.tmp 0) rfl
  have hv:=hc.env t
  by_cases e9:t=9
  ·subst e9;exact hv
  by_cases e0:t=0
  ·subst e0
   rw [hv0]
   exact (hsl n hlc).ext hx'
  by_cases e1:t=1
  ·subst e1;have:=hv;simp only [get,Nat.beq] at this ⊢;rw [h1] at this;exact this
  by_cases e2:t=2
  ·subst e2;have:=hv;simp only [get,Nat.beq] at this ⊢;rw [h2] at this;exact this
  by_cases e7:t=7
  ·subst e7;have:=hv;simp only [get,Nat.beq] at this ⊢;rw [h7] at this;exact this
  by_cases e8:t=8
  ·subst e8;have:=hv;simp only [get,Nat.beq] at this ⊢;rw [h8] at this;exact this
  ·rw [qk _ _ (Ne.symm e9),qk _ _ (Ne.symm e0),qk _ _ (Ne.symm e1),qk _ _ (Ne.symm e2),qk _ _ (Ne.symm e7),qk _ _ (Ne.symm e8)]
   exact .junk
end
end Go.Av
namespace Go.Av
open Go.Proofs
theorem qs1 {P:Program} {N:Nat} {env:Env} {H0 L:qj} {ty:TypeId} {t t' e:TypeId} {x y:Operand} {n k g off len cap sz full:Nat} {agg:Bool} {o:AObj} (ys:List (List AV)) [hu:SlI P t e] [TyI P e agg sz] (hx:aev env x = .sl (Lid n k) g off len cap) (hn:H0.length=n) (hk:L[k]?=some o) (hg:o.gen=g) (hsz:o.sz=sz) (hoff:off≤o.rows.length)
  (hy:SrcN P N env (H0++L) y sz full ys) (hmin:Nat.min full len=ys.length) :
  V2 P N (.call { callee:=.builtin .copy,args:=#[x,y],argTypes:=#[t,t'] }) ty env (H0++L) (.int .i64 (ys.length:Int)) (H0++L.set k { o with rows:=o.rows.take off++ys++o.rows.drop (off+ys.length) }):=by
 subst hg
 have:=qvt (P:=P) (N:=N) (ty:=ty) (t:=t) (t':=t') (e:=e) (agg:=agg) hx (lk hn hk) hsz hoff hy hmin
 rwa [st hn] at this
theorem qsy {P:Program} {N:Nat} {env:Env} {H0 L:qj} {ty:TypeId} {t t' e:TypeId} {x y:Operand} {id g off len cap sz full:Nat} {agg:Bool} {o:AObj} (ys:List (List AV)) [hu:SlI P t e] [TyI P e agg sz] (hx:aev env x = .sl id g off len cap) (hid:H0[id]?=some o) (hg:o.gen=g) (hsz:o.sz=sz) (hoff:off≤o.rows.length)
  (hy:SrcN P N env (H0++L) y sz full ys) (hmin:Nat.min full len=ys.length) :
  V2 P N (.call { callee:=.builtin .copy,args:=#[x,y],argTypes:=#[t,t'] }) ty env (H0++L) (.int .i64 (ys.length:Int)) (H0.set id { o with rows:=o.rows.take off++ys++o.rows.drop (off+ys.length) }++L):=by
 subst hg
 have:=qvt (P:=P) (N:=N) (ty:=ty) (t:=t) (t':=t') (e:=e) (agg:=agg) hx (lkF hid) hsz hoff hy hmin
 rwa [stF hid] at this
theorem qkz {P:Program} {B:Base} {rs:List ResultVar} {env:Env} {H M:qj} {v:AV} {R:AOut→qj→Prop} (h:Ends P B rs (Ret v M) .ret env H) (hr:R (.ret v) M):Ends P B rs R .ret env H:=by
 obtain ⟨vs,M',h1,h2,h3,h4⟩:=h
 exact ⟨vs,M',h1,h2,by rw [h3,h4];exact hr⟩
def InsR (v:AV) (H:qj) (id:Nat):AOut→qj→Prop:=fun o H'=>∃ q:AObj,o = .ret v∧H'=H.set id q
theorem qnq (x y:Held) (ia:Nat) (H:qj) (hx:x.things.length≤1000000) (hy:y.things.length≤1000000) (ha:H[ia]?=some ⟨0,4,[qg y]⟩):AC Tryz.prog 204 [.agg (qg x),.pt ia 0 0 0] H (Ret (.bool (q3p x y)) H):=by
 have hF:=ha
 refine AC.body (N:=7) [.tmp 3] Tryz.func204 rfl rfl rfl (Nat.le_of_ble_eq_true rfl) fun B hB=>?_
 refine Zf8 ?_
 refine Z34 ?_
 refine Z4c ?_
 refine Zff ?_
 refine Zfg ?_
 exact Z1t
theorem qap (F:Nat) [FnI Tryz.prog F] (caps:List AV) (p:Held→Bool) (l:List Held) (H:qj) (hl1:l.length≤1000000) (hF:∀ x∈l,∀ L',AC Tryz.prog F (.agg (qg x) :: caps) (H++L') (Ret (.bool (p x)) (H++L'))) :
  AC Tryz.prog 165 [.pl (l.map qg),.fn (.func F) [] caps] H (Ret (.int .i64 (ixf p l)) H):=by
 refine AC.body (N:=19) [.tmp 4] Tryz.func165 rfl rfl rfl (Nat.le_of_ble_eq_true rfl) fun B hB=>?_
 refine Z9i ?_
 refine qm (G:=Nat) (fun k=>k≤l.length∧∀ y∈l.take k,p y=false) (fun k=>[(0,.pl (l.map qg)),(1,.fn (.func F) [] caps),(7,.int .i64 (l.length:Int)),(8,.int .i64 (k:Int))]) (fun _=>H++[]) (fun k=>l.length-k) 0 ⟨Nat.zero_le _,by simp⟩ Y6 (Fit.refl _ _) ?_
 rintro k ⟨hk,hno⟩
 refine Z5a ?_
 refine qa rfl (fun hc=>?_) (fun hc=>?_)
 ·have hlt:k<l.length:=by simp at hc;omega
  obtain ⟨x,hx,hxl⟩:=qo hlt
  have hr:=qh qg hx
  have hcall:=hF x hxl
  refine Z1c ?_
  refine Z1v ?_
  refine Zfh ?_
  refine Zsd ?_
  refine Z4r ?_
  refine qa rfl (fun hc=>?_) (fun hc=>?_)
  ·refine Z1w ?_
   rw [q9k (p:=p) hx hc hno]
   exact Zb
  ·refine Z5l ?_
   refine ⟨k+1,by omega,⟨by omega,?_⟩,Y6,.refl _ _⟩
   rw [ql hx]
   intro y hy
   rcases List.mem_append.1 hy with h | h
   ·exact hno y h
   ·simp only [List.mem_singleton] at h
    subst h
    exact hc
 ·have:k=l.length:=by simp at hc;omega
  subst this
  rw [List.take_length] at hno
  rw [q9z hno]
  exact Z19
theorem q8f (F:Nat) [FnI Tryz.prog F] (caps:List AV) (p:Held→Bool) (l:List Held) (H:qj) (hl1:l.length≤1000000) (hF:∀ x∈l,∀ L',AC Tryz.prog F (.agg (qg x) :: caps) (H++L') (Ret (.bool (p x)) (H++L'))) :
  AC Tryz.prog 126 [.pl (l.map qg),.fn (.func F) [] caps] H (Ret (.bool (l.any p)) H):=by
 refine AC.body (N:=9) [.tmp 4] Tryz.func126 rfl rfl rfl (Nat.le_of_ble_eq_true rfl) fun B hB=>?_
 refine Z1r ?_
 refine Z4o ?_
 refine Z1u ?_
 refine ao2 Y11 (V2.call (qap F caps p l _ hl1 (fun x hx L'=>by rw [List.append_assoc];exact hF x hx _)) rfl) ?_
 refine Z1s ?_
 refine Z1q ?_
 try dsimp only [put]
 refine Z1 ?_
 rw [← q6g]
 exact Zb
set_option maxHeartbeats 0 in
theorem qe1 (l:List Held) (h:Held) (i id g iv gv:Nat) (H:qj) (hid:H[id]?=some ⟨g,4,l.map qg⟩) (hiv:H[iv]?=some ⟨gv,4,[qg h]⟩) (hne:iv≠id) (hi:i≤l.length) (hl:l.length≤1000) :
  AC Tryz.prog 205 [.sl id g 0 l.length l.length,.int .i64 (i:Int),.sl iv gv 0 1 1] H (InsR (.pl ((l.take i++h :: l.drop i).map qg)) H id):=by
 have hF:=hid
 have hlm:(l.map qg).length=l.length:=by simp
 refine AC.body (N:=95) [.tmp 6] Tryz.func205 rfl rfl rfl (Nat.le_of_ble_eq_true rfl) fun B hB=>?_
 refine Z4m ?_
 refine Zb2 ?_
 refine Zst ?_
 refine qf ?_
 refine Zb1 ?_
 refine ao1 (by decide) (qfk rfl (lkF hiv) rfl) ?_
 refine Z4 ?_
 refine Z18 ?_
 refine qa rfl (fun hc=>?_) (fun hc=>?_)
 ·simp at hc
 clear hc
 refine Zb1 ?_
 refine Zp2 ?_
 refine Z4 ?_
 refine Z2t ?_
 refine Z17 ?_
 refine qa rfl (fun hc=>?_) (fun hc=>?_)
 ·obtain rfl:i=l.length:=by simp at hc;omega
  refine Zp3 ?_
  refine ao2 Y11 (qcx (l.length+1) rfl hF rfl rfl (Src.sl (o:=⟨gv,4,[qg h]⟩) rfl (lkF hiv) rfl rfl rfl) rfl (by simp) Y1c Y1c (by simp)) ?_
  refine Zb5 ?_
  try dsimp only [put]
  have hF2:(H.set id ⟨g+1,4,(l.map qg).take l.length++List.take 1 (List.drop 0 [qg h])⟩)[id]?=some ⟨g+1,4,(l.map qg).take l.length++List.take 1 (List.drop 0 [qg h])⟩:=List.getElem?_set_self (List.getElem?_eq_some_iff.1 hid).1
  refine Z1d ?_
  refine qdd (o:=⟨g+1,4,(l.map qg).take l.length++List.take 1 (List.drop 0 [qg h])⟩) (ys:=(l.take l.length++h :: l.drop l.length).map qg) 6 rfl (lkF hF2) ?_ (by simp) (q1e 0 _) ?_
  ·rw [List.take_of_length_le (by simp),List.drop_length,List.map_append,List.take_of_length_le (by simp),List.take_of_length_le (by simp)]
   simp
  rw [stF hF2,List.set_set]
  refine q33 ?_
  refine qkz (M:=H.set id ⟨g+1+1,4,[]⟩) ?_ ⟨_,rfl,rfl⟩
  exact q5d hB (q3t rfl .nil) rfl rfl (by simp) (hB.heap.set _ _ (by simp))
 have hil:i<l.length:=by simp at hc;omega
 clear hc
 refine qdr ?_
 refine q95 ?_
 refine qen ?_
 refine qpn (N:=95) (v:=.sl iv gv 0 1 1) (n:=l.length) (m:=1) (i:=i) (e:=60) (sz:=4) (bytes:=48) (by decide) (by rfl) (by rfl) (by rfl) (by rfl) (by rfl) (lkF hF) (by rfl) (by rfl) (by rfl) (by simp) hil (by omega) (by omega) (by omega) ?_ ?_
 ·
  refine Zb1 ?_
  refine Z30 ?_
  refine ao1 (by decide) (q5y (r:=((l.length+1:Nat):Int)) rfl rfl (by rw [show (l.length:Int)+((1:Nat):Int)=((l.length+1:Nat):Int) by omega];exact q1b (by omega) (by omega))) ?_
  refine ao1 (by decide) (q4z rfl (lkF hF) rfl rfl .none (.some rfl rfl) (by omega) (by omega)) ?_
  refine Zb5 ?_
  refine Z4f ?_
  refine Zp3 ?_
  refine Z30 ?_
  refine ao1 (by decide) (q5y (r:=((i+1:Nat):Int)) rfl rfl (by rw [show (i:Int)+((1:Nat):Int)=((i+1:Nat):Int) by omega];exact q1b (by omega) (by omega))) ?_
  refine Zst ?_
  refine ao1 (by decide) (qol (tS:=25) (tR:=4) Tryz.func220 Y1e Y1e Y1e Y1e rfl (lkF hiv) rfl rfl (lkF hF) rfl hne (by omega) (by omega) rfl) ?_
  refine Z4d ?_
  refine qa rfl (fun hc=>?_) (fun hc=>?_)
  ·clear hc
   have e1:((l.map qg).take (0+(i+1))).length=i+1:=by simp;omega
   have e2:((l.map qg).drop (0+i)).take (l.length-i)=(l.drop i).map qg:=by
    rw [Nat.zero_add,List.map_drop,List.take_of_length_le (by simp)]
   have e3:((l.drop i).map qg).length=l.length-i:=by simp
   refine Z1 ?_
   refine Zsu ?_
   refine Zex ?_
   refine Z6j ?_
   refine Zsv ?_
   refine aqp 4 rfl Y17 (by decide) (fun G=>q4z rfl (lkF hF) rfl rfl (.some rfl rfl) .none (by omega) (by omega)) ?_
   refine Zso ?_
   refine Zsp ?_
   refine Zsw ?_
   refine aqs 8 rfl Y17 Yv Y11 (qsy ((l.drop i).map qg) rfl hF rfl rfl Y1c (SrcN.sl (n:=l.length-i) (o:=⟨g,4,l.map qg⟩) rfl (lkF hF) rfl rfl (by omega) e2 e3) (by rw [e3];simp [Nat.min_def]<;>omega)) ?_
   refine Z9q ?_
   try dsimp only [put]
   have e4:(l.map qg).take (0+(i+1))++(l.drop i).map qg++(l.map qg).drop (0+(i+1)+((l.drop i).map qg).length)=(l.take i++[(l[i]'hil)]++l.drop i).map qg:=by
    have h1:(l.map qg).take (0+(i+1))=(l.take i++[(l[i]'hil)]).map qg:=by rw [Nat.zero_add,← List.map_take,List.take_succ_eq_append_getElem hil]
    rw [h1,show (l.map qg).drop (0+(i+1)+((l.drop i).map qg).length)=[] from List.drop_eq_nil_of_le Y1c,List.append_nil]
    exact List.map_append.symm
   rw [e4]
   have hl2:(l.take i++[(l[i]'hil)]++l.drop i).length=l.length+1:=by simp;omega
   have e7:(l.take i++[(l[i]'hil)]++l.drop i).take i=l.take i:=by rw [List.append_assoc,List.take_append_of_le_length Y1c,List.take_take,Nat.min_self]
   have e8:(l.take i++[(l[i]'hil)]++l.drop i).drop (i+1)=l.drop i:=by
    have:(l.take i++[(l[i]'hil)]).length=i+1:=by simp;omega
    rw [← this,List.drop_left]
   generalize l.take i++[(l[i]'hil)]++l.drop i=m at *
   have hF2:(H.set id ⟨g,4,m.map qg⟩)[id]?=some ⟨g,4,m.map qg⟩:=List.getElem?_set_self (List.getElem?_eq_some_iff.1 hid).1
   have hiv2:(H.set id ⟨g,4,m.map qg⟩)[iv]?=some ⟨gv,4,[qg h]⟩:=by rw [List.getElem?_set_ne (Ne.symm hne)];exact hiv
   refine Zb2 ?_
   refine ao1 (by decide) (q4z rfl (lkF hF2) rfl rfl (.some rfl rfl) .none (by omega) (by omega)) ?_
   refine Zb0 ?_
   refine ao2 Y11 (qsy [qg h] rfl hF2 rfl rfl Y1c (SrcN.sl (n:=1) (o:=⟨gv,4,[qg h]⟩) rfl (lkF hiv2) rfl rfl (Nat.le_refl _) rfl rfl) (by simp [Nat.min_def]<;>omega)) ?_
   refine qf ?_
   try dsimp only [put,List.length_cons,List.length_nil,Nat.reduceAdd]
   rw [List.set_set]
   have e9:(m.map qg).take (0+i)++[qg h]++(m.map qg).drop (0+i+1)=(l.take i++h :: l.drop i).map qg:=by
    rw [Nat.zero_add,← List.map_take,e7,← List.map_drop,e8]
    simp
   rw [e9]
   generalize hy:l.take i++h :: l.drop i=y at *
   have hyl:y.length=l.length+1:=by rw [← hy];simp;omega
   have hF3:(H.set id ⟨g,4,y.map qg⟩)[id]?=some ⟨g,4,y.map qg⟩:=List.getElem?_set_self (List.getElem?_eq_some_iff.1 hid).1
   refine Zba ?_
   refine qdd (o:=⟨g,4,y.map qg⟩) (ys:=y.map qg) 6 rfl (lkF hF3) Ye Y1c (q1e 0 _) ?_
   rw [stF hF3,List.set_set]
   refine q33 ?_
   refine qkz (M:=H.set id ⟨g+1,4,[]⟩) ?_ ⟨_,rfl,rfl⟩
   exact q5d hB (q3t rfl .nil) rfl rfl (by simp) (hB.heap.set _ _ (by simp))
  ·simp at hc
 ·rw [show (H++([]:qj)).length=Lid H.length 0 by simp [Lid],List.append_nil]
  have e1:((l.map qg).take i).length=i:=by simp;omega
  refine Zb2 ?_
  refine ao1 (by decide) (q4z rfl (lk rfl rfl) rfl rfl (.some rfl rfl) .none (by omega) (by omega)) ?_
  refine Zb0 ?_
  refine ao2 Y11 (qs1 [qg h] rfl rfl rfl rfl rfl Y1c (SrcN.sl (n:=1) (o:=⟨gv,4,[qg h]⟩) rfl (lkF hiv) rfl rfl (Nat.le_refl _) rfl rfl) (by simp [Nat.min_def];omega)) ?_
  refine qf ?_
  try dsimp only [put,List.length_cons,List.length_nil,Nat.reduceAdd,List.set_cons_zero]
  have e2:((l.map qg).drop (0+i)).take (l.length-i)=(l.drop i).map qg:=by
   rw [Nat.zero_add,List.map_drop,List.take_of_length_le (by simp)]
  have e3:((l.drop i).map qg).length=l.length-i:=by simp
  rw [show ∀ zs:List AV,((l.map qg).take i++List.replicate (l.length+1-i) zs).take (0+i)++[qg h]++((l.map qg).take i++List.replicate (l.length+1-i) zs).drop (0+i+1)=(l.map qg).take i++[qg h]++List.replicate (l.length-i) zs from fun zs=>by
   rw [Nat.zero_add,List.take_append_of_le_length (by omega),List.take_of_length_le (by omega),List.drop_append,List.drop_eq_nil_of_le (by omega),List.nil_append,List.drop_replicate,e1,show l.length+1-i-(i+1-i)=l.length-i by omega]]
  refine Z1 ?_
  refine Zsu ?_
  refine Z6g ?_
  refine Zex ?_
  refine Z6j ?_
  refine Zsv ?_
  refine aqp 4 rfl Y17 (by decide) (fun G=>q4z rfl (lk rfl rfl) rfl rfl (.some rfl rfl) .none (by omega) (by omega)) ?_
  refine Zso ?_
  refine Zsp ?_
  refine Zsw ?_
  refine aqs 8 rfl Y17 Yv Y11 (qs1 ((l.drop i).map qg) rfl rfl rfl rfl rfl Y1c (SrcN.sl (n:=l.length-i) (o:=⟨g,4,l.map qg⟩) rfl (lkF hF) rfl rfl (by omega) e2 e3) (by rw [e3];simp [Nat.min_def]<;>omega)) ?_
  refine Z9q ?_
  refine Z9n ?_
  rw [show ∀ zs:List AV,((l.map qg).take i++[qg h]++List.replicate (l.length-i) zs).take (0+(i+1))++(l.drop i).map qg++((l.map qg).take i++[qg h]++List.replicate (l.length-i) zs).drop (0+(i+1)+((l.drop i).map qg).length)=(l.take i++h :: l.drop i).map qg from fun zs=>by
   have h1:((l.map qg).take i++[qg h]).length=i+1:=by simp;omega
   rw [Nat.zero_add,show ((l.map qg).take i++[qg h]++List.replicate (l.length-i) zs).drop (i+1+((l.drop i).map qg).length)=[] from List.drop_eq_nil_of_le Y1c,List.append_nil,show ((l.map qg).take i++[qg h]++List.replicate (l.length-i) zs).take (i+1)=(l.map qg).take i++[qg h] by rw [← h1,List.take_left]]
   simp]
  generalize hy:l.take i++h :: l.drop i=y at *
  have hyl:y.length=l.length+1:=by rw [← hy];simp;omega
  refine Zba ?_
  refine qu (ys:=y.map qg) 6 rfl rfl rfl rfl Ye Y1c (q1e 0 _) ?_
  refine q33 ?_
  refine qkz (M:=H) ?_ ⟨⟨g,4,l.map qg⟩,rfl,(q86 hid).symm⟩
  exact Zb
set_option maxHeartbeats 0 in
theorem qmw (l:List Held) (h:Held) (H:qj) (hw:HW l) (hh:h.things.length≤1000000):AC Tryz.prog 178 [.pl (l.map qg),.agg (qg h)] H (Ret (.tup [.pl ((q1f l h).1.map qg),.int .i64 (q1f l h).2]) H):=by
 have hw1:=hw.1
 refine AC.body (N:=46) [.tmp 4,.tmp 5] Tryz.func178 rfl rfl rfl (Nat.le_of_ble_eq_true rfl) fun B hB=>?_
 refine Zf8 ?_
 refine Zsx ?_
 refine Z33 ?_
 refine Z4o ?_
 refine Zp4 ?_
 refine Zb5 ?_
 refine Zp5 ?_
 refine Z1 ?_
 refine qn 18 (.bool (!(q1s l&&hmay h))) ?_ ?_
 ·refine Z4n ?_
  refine Zhy ?_
  refine Z26 ?_
  refine qb rfl rfl (fun hg3=>?_) (fun hg3=>?_)
  ·exact Zgv
  ·refine Z5x ?_
   refine q5b rfl rfl (by decide) (V2.call (qm3 _ _ Y1d) rfl) ?_
   refine Z6c ?_
   exact Zgu
 refine Z1 ?_
 refine qa rfl (fun hc=>?_) (fun hc=>?_)
 ·have he:q1f l h=(l,1):=by rw [q1f,if_pos hc]
  rw [he]
  refine Zov ?_
  try dsimp only
  refine Z1d ?_
  refine Zp6 ?_
  exact Zox
 have hyes:q1s l=true∧hmay h=true:=by simpa only [Bool.not_eq_false',Bool.and_eq_true] using hc
 have hs:=q4a hyes.1
 have hc1:=hc
 clear hc
 refine Z4o ?_
 refine Z37 ?_
 refine Zi4 ?_
 refine Z8i ?_
 refine Z4f ?_
 refine Z2w ?_
 refine Ze ?_
 refine qa rfl (fun hc=>?_) (fun hc=>?_)
 ·have he:q1f l h=(l,7):=by rw [q1f,if_neg Y15,if_pos hc]
  rw [he]
  refine Zov ?_
  try dsimp only
  refine Z1d ?_
  refine Zp6 ?_
  exact Zox
 have hc2:=hc
 clear hc
 refine Z1 ?_
 refine qn 30 (.bool (decide (l.length=256)||l.any (fun x=>q3p x h))) ?_ ?_
 ·refine Z8w ?_
  refine Z44 ?_
  refine qb rfl rfl (fun hg3=>?_) (fun hg3=>?_)
  ·refine Z3k ?_
   refine Zn ?_
   exact Zgw
  ·refine Zc3 ?_
   refine Zsj ?_
   refine q5b rfl rfl (by decide) (V2.call (q8f 204 [.pt (Lid H.length 0) 0 0 0] (fun x=>q3p x h) l _ hw1 (fun x hx L'=>qnq x h (Lid H.length 0) _ (hw.2 x hx) hh (lkF (lk rfl rfl)))) rfl) ?_
   refine Zs ?_
   exact Zgw
 refine Z1 ?_
 refine qa rfl (fun hc=>?_) (fun hc=>?_)
 ·have he:q1f l h=(l,5):=by rw [q1f,if_neg Y15,if_neg (by rw [hc2];decide),if_pos hc]
  rw [he]
  refine Zov ?_
  try dsimp only
  refine Z1d ?_
  refine Zp6 ?_
  exact Zox
 have he:q1f l h=(l.take (qw l h.id)++h :: l.drop (qw l h.id),0):=by rw [q1f,if_neg Y15,if_neg (by rw [hc2];decide),if_neg Y16]
 rw [he]
 have h256:l.length≤256:=by have:=hyes.1;simp only [q1s,Bool.and_eq_true,decide_eq_true_eq] at this;exact this.1
 have hpos:qw l h.id≤l.length:=by unfold qw;exact (List.takeWhile_prefix _).length_le
 generalize qw l h.id=k at *
 generalize hy:l.take k++h :: l.drop k=y at *
 clear hc he hc1 hc2
 refine Z2 ?_
 refine ao1 (by decide) (qd (v:=.sl (Lid H.length 1) l.length 0 l.length l.length) rfl) ?_
 refine ao1 (by decide) (qd (v:=.int .i64 (k:Int)) rfl) ?_
 refine Z4b ?_
 refine ao2 Y11 (V2.call (qce h _ hh) rfl) ?_
 refine ao2 Y11 (q30 (sz:=4) (k:=2) rfl (by decide) (by decide) rfl rfl rfl rfl rfl) ?_
 refine qt2 rfl (by decide) (qe1 l h k (Lid H.length 1) l.length (Lid H.length 2) 0 _ (lk rfl rfl) (lk rfl rfl) Y14 hpos (by omega)) ?_ ?_
 ·rintro v H' ⟨q,e,rfl⟩
  injection e with e
  subst e
  rw [st rfl,hy]
  refine ao1 (by decide) (q14 (v:=.pl (y.map qg)) rfl) ?_
  refine ao1 (by decide) (q14 (v:=.int .i64 0) rfl) ?_
  refine qf ?_
  try dsimp only [put,AV.cells,List.cons_append,List.nil_append,List.set_cons_succ,List.set_cons_zero]
  exact Zox
 ·rintro v H' ⟨q,e,_⟩
  cases e
end Go.Av
namespace Go.Av
open Go
section
variable {P : Program}
theorem qrx {f:FuncId} {zs ds:List Int} {id g cap:Nat} {H:qj} {v:AV} (val:Option Addr→Nat→Value)
  (hid:H[id]?=some ⟨g,1,zs.map fun z=>[.int .i64 z]⟩) (hl:ds.length=zs.length)
  (h1:∀ blk off c w,Sort.Holds (Value.int .i64) w blk off zs.toArray→blk<w.heap.size→zs.length≤c→Calls P f #[.slice (some ⟨blk,off,none⟩) zs.length c] w fun e w'=>e = .returned (val (some ⟨blk,off,none⟩) c)∧∃ n os,w'=Sort.grow (Sort.putRow (Value.int .i64) (Sort.ahead w n) blk off ds.toArray) os)
  (h0:zs=[]→∀ a c w,Calls P f #[.slice a 0 c] w fun e w'=>e = .returned (val a c)∧w'=w)
  (hv:∀ S w ad c,VR (own S) w S (.sl id g 0 zs.length zs.length) (.slice ad zs.length c)→VR (own S) w S v (val ad c)) :
  AC P f [.sl id g 0 zs.length cap] H (Ret v (H.set id ⟨g,1,ds.map fun z=>[.int .i64 z]⟩)):=by
 intro S w cargs hH hargs
 obtain ⟨hal,hag⟩:=hargs
 have hsz:cargs.size=1:=by simpa using hal.symm
 obtain ⟨u,rfl⟩:∃ u,cargs = #[u]:=by
  match cargs,hsz with
  | ⟨[u]⟩,_=>exact ⟨u,rfl⟩
 have hu:=hag 0 _ u rfl rfl
 obtain ⟨s,hs,ok⟩:=hH.slot hid
 have hgen:s.gen=g:=ok.gen.symm
 have hssz:s.sz=1:=ok.sz.symm
 cases hu with
 | sl s' hs' hg' h1c hok =>
  rw [hs] at hs'
  obtain rfl:=Option.some.inj hs'
  obtain ⟨c,hcc,hlc,hcase⟩:=hok hgen
  rcases hcase with ⟨hc0,a,rfl⟩ | ⟨b,arr,ty,hp,rfl,hb,hfit⟩
  ·have hz:zs=[]:=List.eq_nil_of_length_eq_zero (by omega)
   subst hz
   have hd:ds=[]:=List.eq_nil_of_length_eq_zero (by simpa using hl)
   subst hd
   refine (h0 rfl a 0 w).mono ?_
   rintro e w' ⟨rfl,rfl⟩
   refine ⟨.ret v,_,S,⟨rfl,rfl⟩,.ret (hv S w' a 0 ?_),?_,Ext.refl S w'⟩
   ·exact .sl s hs (by omega) rfl fun _=>⟨0,Nat.le_refl _,Nat.le_refl _,.inl ⟨rfl,a,rfl⟩⟩
   ·have:H.set id ⟨g,1,List.map (fun z=>[AV.int .i64 z]) []⟩=H:=by
     apply List.ext_getElem?
     intro i
     by_cases ei:id=i
     ·subst ei
      rw [List.getElem?_set_self (List.getElem?_eq_some_iff.1 hid).1,hid]
     ·rw [List.getElem?_set_ne ei]
    rw [this]
    exact hH
  ·rw [Nat.zero_mul]
   rw [Nat.zero_mul] at h1c
   obtain ⟨arr',ty',h2,hrow⟩:=ok.row hp
   rw [hb] at h2
   injection h2 with h2
   injection h2 with e1 e2
   subst e1
   have hfit':zs.length≤arr.size:=by rw [hssz,Nat.zero_add,Nat.mul_one] at hfit;omega
   have hget:∀ j,(hj:j<zs.length)→arr[j]?=some (.int .i64 zs[j]):=by
    intro j hj
    have hr:((⟨g,1,zs.map fun z=>[.int .i64 z]⟩:AObj).rows)[j]?=some [.int .i64 zs[j]]:=by simp [hj]
    obtain ⟨k1,k2⟩:=hrow.2 j _ hr
    obtain ⟨_,u,k3,k4⟩:=k2 0 _ rfl
    simp only [Nat.mul_one,Nat.add_zero] at k3
    rw [k3]
    cases k4
    rfl
   have hholds:Sort.Holds (Value.int .i64) w b 0 zs.toArray:=by
    intro j hj
    have hj':j<zs.length:=by simpa using hj
    refine ⟨?_,by simp [World.frozen?,hb]⟩
    rw [cell_of_row w b (0+j) arr _ _ hb,Nat.zero_add,hget j hj']
    simp [hj']
   have hlt:b<w.heap.size:=qma hH ⟨id,s,hs,hp⟩
   refine (h1 b 0 c w hholds hlt hlc).mono ?_
   rintro e w' ⟨rfl,n,os,rfl⟩
   have hrowsz:(Sort.putCells (Value.int .i64) 0 ds.toArray arr).size=arr.size:=by simp [Sort.putCells]
   have hw:=hH.write (rows':=ds.map fun z=>[.int .i64 z]) (arr':=Sort.putCells (Value.int .i64) 0 ds.toArray arr) hid hs hp hb hrowsz (by
    refine ⟨by rw [hrowsz];simp only [List.length_map,Nat.mul_one];omega,fun i r hr=>?_⟩
    rw [List.getElem?_map] at hr
    cases hd:ds[i]? with
    | none=>simp [hd] at hr
    | some z =>
     rw [hd] at hr
     obtain rfl:=Option.some.inj hr
     refine ⟨rfl,fun j v hv'=>?_⟩
     have hi:i<ds.length:=(List.getElem?_eq_some_iff.1 hd).1
     have hz:ds[i]=z:=(List.getElem?_eq_some_iff.1 hd).2
     have hj:j=0:=by
      have:=(List.getElem?_eq_some_iff.1 hv').1
      simpa using this
     subst hj
     obtain rfl:=Option.some.inj hv'
     refine ⟨rfl,.int .i64 z,?_,.int⟩
     have hi2:i<arr.size:=by omega
     simp [Sort.putCells,hi2,hi,hz])
   have hheap:∀ k,k<w.heap.size→(Sort.grow (Sort.putRow (Value.int .i64) (Sort.ahead w n) b 0 ds.toArray) os).heap[k]?=(w.setRow b (Sort.putCells (Value.int .i64) 0 ds.toArray arr)).heap[k]?:=by
    intro k hk
    rw [Sort.heap_grow_old _ _ (by simpa [Sort.ahead] using hk)]
    by_cases e:k=b
    ·subst e
     rw [setRow_heap w k arr _ ty (0,0) hb]
     simp [Sort.putRow,Sort.mapBlock,Sort.ahead,Array.getElem?_modify,hb,Sort.onCells]
    ·rw [setRow_other w b k _ e]
     simp [Sort.putRow,Sort.mapBlock,Sort.ahead,Array.getElem?_modify,Ne.symm e]
   have hx2:Ext S (w.setRow b (Sort.putCells (Value.int .i64) 0 ds.toArray arr)) S (Sort.grow (Sort.putRow (Value.int .i64) (Sort.ahead w n) b 0 ds.toArray) os):=by
    refine ⟨rfl,rfl,rfl,⟨by simp [Sort.grow,Sort.putRow,Sort.mapBlock,Sort.ahead],fun k hk ho=>⟨ho,?_⟩,fun k a t hk=>?_⟩,SExt.refl S⟩
    ·exact hheap k Y18
    ·have hk':k<w.heap.size:=by have:=(Array.getElem?_eq_some_iff.1 hk).1;simpa using this
     exact ⟨a,by rw [hheap k hk'];exact hk,rfl⟩
   have hh:=q9l hw.1 hx2 (fun k hk=>hheap k Y18)
   refine ⟨.ret v,_,S,⟨rfl,rfl⟩,.ret (hv S _ _ c ?_),hh,hw.2.trans hx2⟩
   have hvr:VR (own S) w S (.sl id g 0 zs.length zs.length) (.slice (some ⟨b,0,none⟩) zs.length c):=.sl s hs (by omega) rfl fun _=>⟨c,hlc,hlc,.inr ⟨b,arr,ty,hp,by rw [Nat.zero_mul],hb,hfit⟩⟩
   exact (hvr.ext hw.2).ext hx2
end
end Go.Av
namespace Go.Proofs
open Go.Shelf
def Tryz.laysSlN43_f227_ren:Go.Shelf.Ren:=⟨fun | 43=>227 | n=>n,fun | 22=>227 | 23=>2 | 3=>3 | 4=>4 | 0=>0 | n=>n,fun | n=>n⟩
theorem Tryz.laysSlN43_f227:Go.Proofs.SlLaysN.n43 Tryz.prog Tryz.laysSlN43_f227_ren:={
 mixed:=by kernel_rfl
 f43:=⟨Tryz.f227.name,by decide,Tryz.func227.trans (congrArg some (by kernel_rfl))⟩
 t0:=Tryz.underlying0
 a0:=Tryz.isAgg0
 z0:=Tryz.sizeOf0
 v0:=Tryz.zeroValue0
 t3:=Tryz.underlying3
 a3:=Tryz.isAgg3
 z3:=Tryz.sizeOf3
 v3:=Tryz.zeroValue3
 t4:=Tryz.underlying4
 a4:=Tryz.isAgg4
 z4:=Tryz.sizeOf4
 v4:=Tryz.zeroValue4
 t22:=Tryz.underlying227
 a22:=Tryz.isAgg227
 z22:=Tryz.sizeOf227
 v22:=Tryz.zeroValue227
 t23:=Tryz.underlying2
 a23:=Tryz.isAgg2
 z23:=Tryz.sizeOf2
 v23:=Tryz.zeroValue2
 i23:=by kernel_rfl }
open Go.RowKit Go.Lib Go.Sort in
theorem Tryz.slices_Compact_int (blk off cap:Nat) (zs:List Int) (w:World) (hH:Holds (Value.int .i64) w blk off zs.toArray) (hsz:zs.length≤9223372036854775807) (hcap:zs.length≤cap) :
  Calls Tryz.prog 227 #[.slice (some ⟨blk,off,none⟩) zs.length cap] w fun e w'=>e = .returned (.slice (some ⟨blk,off,none⟩) (Lib.compact zs).length cap)∧∃ q,w'=putRow (Value.int .i64) (Sort.ahead w q) blk off (Lib.compact zs++List.replicate (zs.length-(Lib.compact zs).length) 0).toArray:=AnyG.slices_Compact_int Tryz.laysSlN43_f227 blk off cap zs w hH hsz hcap
open Go.RowKit Go.Lib Go.Sort in
theorem Tryz.slices_Compact_int_empty (a:Option Addr) (cap:Nat) (w:World) :
  Calls Tryz.prog 227 #[.slice a 0 cap] w fun e w'=>e = .returned (.slice a 0 cap)∧w'=w:=AnyG.slices_Compact_int_empty Tryz.laysSlN43_f227 a cap w
def Tryz.laysSlM5_f226_ren:Go.Shelf.Ren:=⟨fun | 5=>226 | 8=>233 | 7=>232 | 19=>245 | 20=>246 | 10=>236 | 11=>237 | 12=>238 | 13=>239 | 14=>240 | 15=>241 | 16=>242 | 17=>243 | 18=>244 | 30=>247 | 31=>248 | 32=>249 | 33=>250 | 34=>251 | 35=>252 | 40=>253 | n=>n,fun | 23=>227 | 25=>2 | 3=>3 | 32=>191 | 22=>227 | 0=>0 | 44=>250 | 46=>109 | 4=>4 | 36=>243 | 35=>242 | 41=>115 | 5=>5 | 9=>9 | 53=>251 | 57=>78 | 63=>256 | 64=>257 | n=>n,fun | n=>n⟩
theorem Tryz.laysSlM5_f226:Go.Proofs.SlLaysM.n5 Tryz.prog Tryz.laysSlM5_f226_ren:={
 mixed:=by kernel_rfl
 f5:=⟨Tryz.f226.name,by decide,Tryz.func226.trans (congrArg some (by kernel_rfl))⟩
 f7:=⟨Tryz.f232.name,by decide,Tryz.func232.trans (congrArg some (by kernel_rfl))⟩
 f8:=Tryz.func233.trans (congrArg some (by kernel_rfl))
 f10:=⟨Tryz.f236.name,by decide,Tryz.func236.trans (congrArg some (by kernel_rfl))⟩
 f11:=⟨Tryz.f237.name,by decide,Tryz.func237.trans (congrArg some (by kernel_rfl))⟩
 f12:=⟨Tryz.f238.name,by decide,Tryz.func238.trans (congrArg some (by kernel_rfl))⟩
 f13:=⟨Tryz.f239.name,by decide,Tryz.func239.trans (congrArg some (by kernel_rfl))⟩
 f14:=⟨Tryz.f240.name,by decide,Tryz.func240.trans (congrArg some (by kernel_rfl))⟩
 f15:=⟨Tryz.f241.name,by decide,Tryz.func241.trans (congrArg some (by kernel_rfl))⟩
 f16:=⟨Tryz.f242.name,by decide,Tryz.func242.trans (congrArg some (by kernel_rfl))⟩
 f17:=⟨Tryz.f243.name,by decide,Tryz.func243.trans (congrArg some (by kernel_rfl))⟩
 f18:=⟨Tryz.f244.name,by decide,Tryz.func244.trans (congrArg some (by kernel_rfl))⟩
 f19:=Tryz.func245.trans (congrArg some (by kernel_rfl))
 f20:=Tryz.func246.trans (congrArg some (by kernel_rfl))
 f30:=⟨Tryz.f247.name,by decide,Tryz.func247.trans (congrArg some (by kernel_rfl))⟩
 f31:=Tryz.func248.trans (congrArg some (by kernel_rfl))
 f32:=Tryz.func249.trans (congrArg some (by kernel_rfl))
 f33:=⟨Tryz.f250.name,by decide,Tryz.func250.trans (congrArg some (by kernel_rfl))⟩
 f34:=⟨Tryz.f251.name,by decide,Tryz.func251.trans (congrArg some (by kernel_rfl))⟩
 f35:=⟨Tryz.f252.name,by decide,Tryz.func252.trans (congrArg some (by kernel_rfl))⟩
 f40:=⟨Tryz.f253.name,by decide,Tryz.func253.trans (congrArg some (by kernel_rfl))⟩
 t0:=Tryz.underlying0
 a0:=Tryz.isAgg0
 z0:=Tryz.sizeOf0
 v0:=Tryz.zeroValue0
 t3:=Tryz.underlying3
 a3:=Tryz.isAgg3
 z3:=Tryz.sizeOf3
 v3:=Tryz.zeroValue3
 t4:=Tryz.underlying4
 a4:=Tryz.isAgg4
 z4:=Tryz.sizeOf4
 v4:=Tryz.zeroValue4
 t5:=Tryz.underlying5
 a5:=Tryz.isAgg5
 z5:=Tryz.sizeOf5
 v5:=Tryz.zeroValue5
 t9:=Tryz.underlying9
 a9:=Tryz.isAgg9
 z9:=Tryz.sizeOf9
 v9:=Tryz.zeroValue9
 t22:=Tryz.underlying227
 a22:=Tryz.isAgg227
 z22:=Tryz.sizeOf227
 v22:=Tryz.zeroValue227
 t23:=Tryz.underlying227
 a23:=Tryz.isAgg227
 z23:=Tryz.sizeOf227
 v23:=Tryz.zeroValue227
 t25:=Tryz.underlying2
 a25:=Tryz.isAgg2
 z25:=Tryz.sizeOf2
 v25:=Tryz.zeroValue2
 t32:=Tryz.underlying191
 a32:=Tryz.isAgg191
 z32:=Tryz.sizeOf191
 v32:=Tryz.zeroValue191
 t35:=Tryz.underlying242
 a35:=Tryz.isAgg242
 z35:=Tryz.sizeOf242
 v35:=Tryz.zeroValue242
 t36:=Tryz.underlying243
 a36:=Tryz.isAgg243
 z36:=Tryz.sizeOf243
 v36:=Tryz.zeroValue243
 t41:=Tryz.underlying115
 a41:=Tryz.isAgg115
 z41:=Tryz.sizeOf115
 v41:=Tryz.zeroValue115
 t44:=Tryz.underlying250
 a44:=Tryz.isAgg250
 z44:=Tryz.sizeOf250
 v44:=Tryz.zeroValue250
 t46:=Tryz.underlying109
 a46:=Tryz.isAgg109
 z46:=Tryz.sizeOf109
 v46:=Tryz.zeroValue109
 t53:=Tryz.underlying251
 a53:=Tryz.isAgg251
 z53:=Tryz.sizeOf251
 v53:=Tryz.zeroValue251
 t57:=Tryz.underlying78
 a57:=Tryz.isAgg78
 z57:=Tryz.sizeOf78
 v57:=Tryz.zeroValue78
 t63:=Tryz.underlying256
 a63:=Tryz.isAgg256
 z63:=Tryz.sizeOf256
 v63:=Tryz.zeroValue256
 t64:=Tryz.underlying257
 a64:=Tryz.isAgg257
 z64:=Tryz.sizeOf257
 v64:=Tryz.zeroValue257 }
open Go.Sort Go.RowKit in
theorem Tryz.slices_Sort_int (blk off cap:Nat) (zs:List Int) (w:World) (hH:Holds (Value.int .i64) w blk off zs.toArray) (hblk:blk<w.heap.size) (hsz:zs.length<4611686018427387904) :
  Calls Tryz.prog 226 #[.slice (some ⟨blk,off,none⟩) zs.length cap] w fun e w' =>
   e = .returned (.tuple #[])∧∃ n os,w'=grow (putRow (Value.int .i64) (Sort.ahead w n) blk off (zs.mergeSort fun x y=>decide (x≤y)).toArray) os:=AnyM.slices_Sort_int Tryz.laysSlM5_f226 blk off cap zs w hH hblk hsz
open Go.RowKit Go.Sort in
theorem Tryz.slices_Sort_int_none (p:Option Addr) (cap:Nat) (w:World) :
  Calls Tryz.prog 226 #[.slice p 0 cap] w fun e w'=>e = .returned (.tuple #[])∧w'=w:=AnyM.slices_Sort_int_none Tryz.laysSlM5_f226 p cap w
end Go.Proofs
namespace Go.Av
theorem qg4 (t:Int):∀ (l:List Int) (x:Int),x∈qns t l↔x=t∨x∈l
 | [],x=>by simp [qns]
 | y :: l,x=>by
  unfold qns
  split
  ·simp
  ·split
   ·rename_i h1 h2
    subst h2
    simp
   ·rw [List.mem_cons,qg4 t l x,List.mem_cons]
    grind
theorem qc2 (t:Int):∀ (l:List Int),l.Pairwise (· < ·)→(qns t l).Pairwise (· < ·)
 | [],_=>by simp [qns]
 | y :: l,h=>by
  have h':=List.pairwise_cons.1 h
  unfold qns
  split
  ·rename_i h1
   exact List.pairwise_cons.2 ⟨fun x hx=>by
    rcases List.mem_cons.1 hx with rfl | hx
    ·exact h1
    ·exact Int.lt_trans h1 (h'.1 x hx),h⟩
  ·split
   ·exact h
   ·rename_i h1 h2
    refine List.pairwise_cons.2 ⟨fun x hx=>?_,qc2 t l h'.2⟩
    rcases (qg4 t l x).1 hx with rfl | hx
    ·omega
    ·exact h'.1 x hx
theorem q7f:∀ (l:List Int) (x:Int),x∈qam l↔x∈l
 | [],x=>by simp [qam]
 | y :: l,x=>by
  show x∈qns y (qam l)↔_
  rw [qg4,q7f l x,List.mem_cons]
theorem q7b:∀ (l:List Int),(qam l).Pairwise (· < ·)
 | []=>by simp [qam]
 | y :: l=>qc2 y _ (q7b l)
theorem qlf (t:Int):∀ (l:List Int),(qns t l).length≤l.length+1
 | []=>by simp [qns]
 | y :: l=>by
  unfold qns
  split
  ·simp
  ·split
   ·simp
   ·have:=qlf t l
    simp
    omega
theorem qdf:∀ (l:List Int),(qam l).length≤l.length
 | []=>by simp [qam]
 | y :: l=>by
  show (qns y (qam l)).length≤_
  have:=qlf y (qam l)
  have:=qdf l
  simp
  omega
theorem q75 (d:Array Int) (hs:∀ i j,i<j→j<d.size→d[i]!≤d[j]!):∀ m,m≤d.size→(Lib.compactUpTo d m).Pairwise (· < ·)∧(∀ x,x∈Lib.compactUpTo d m↔∃ j,j<m∧d[j]! = x)
 | 0,_=>by simp [Lib.compactUpTo]
 | m+1,hm=>by
  obtain ⟨h1,h2⟩:=q75 d hs m (by omega)
  rw [Lib.compactUpTo_succ]
  by_cases hk:Lib.keeps d m=true
  ·rw [if_pos hk]
   have hlt:∀ x,x∈Lib.compactUpTo d m→x<d[m]!:=by
    intro x hx
    obtain ⟨j,hj,rfl⟩:=(h2 x).1 hx
    simp only [Lib.keeps,decide_eq_true_eq] at hk
    rcases hk with rfl | hk
    ·omega
    ·have a1:d[j]!≤d[m-1]!:=by
      rcases Nat.lt_or_ge j (m-1) with h | h
      ·exact hs j (m-1) h (by omega)
      ·have:j=m-1:=by omega
       rw [this];exact Int.le_refl _
     have a2:=hs (m-1) m (by omega) (by omega)
     omega
   refine ⟨List.pairwise_append.2 ⟨h1,by simp,fun a ha b hb=>?_⟩,fun x=>?_⟩
   ·simp only [List.mem_singleton] at hb
    subst hb
    exact hlt a ha
   ·rw [List.mem_append,h2,List.mem_singleton]
    constructor
    ·rintro (⟨j,hj,e⟩ | rfl)
     ·exact ⟨j,by omega,e⟩
     ·exact ⟨m,by omega,rfl⟩
    ·rintro ⟨j,hj,e⟩
     rcases Nat.lt_or_ge j m with h | h
     ·exact .inl ⟨j,h,e⟩
     ·have:j=m:=by omega
      subst this
      exact .inr e.symm
  ·rw [if_neg hk,List.append_nil]
   refine ⟨h1,fun x=>?_⟩
   rw [h2]
   constructor
   ·rintro ⟨j,hj,e⟩
    exact ⟨j,by omega,e⟩
   ·rintro ⟨j,hj,e⟩
    rcases Nat.lt_or_ge j m with h | h
    ·exact ⟨j,h,e⟩
    ·have:j=m:=by omega
     subst this
     simp only [Lib.keeps,decide_eq_true_eq,not_or,Decidable.not_not] at hk
     exact ⟨j-1,by omega,by rw [← hk.2];exact e⟩
theorem qk1 (zs:List Int):(Lib.compact zs).length≤zs.length:=by
 unfold Lib.compact Lib.compactUpTo
 rw [List.length_map]
 exact Nat.le_trans (List.length_filter_le _ _) (by simp)
theorem qjc (l:List Int):Lib.compact (l.mergeSort fun x y=>decide (x≤y))=qam l:=by
 have hp:(l.mergeSort fun x y=>decide (x≤y)).Pairwise (fun a b=>decide (a≤b)=true):=List.pairwise_mergeSort (fun a b c h1 h2=>by simp only [decide_eq_true_eq] at *;omega) (fun a b=>by simp only [Bool.or_eq_true,decide_eq_true_eq];omega) l
 have hm:∀ x,x∈(l.mergeSort fun x y=>decide (x≤y))↔x∈l:=fun x=>List.mem_mergeSort
 generalize (l.mergeSort fun x y=>decide (x≤y))=z at *
 have hs:∀ i j,i<j→j<z.toArray.size→z.toArray[i]!≤z.toArray[j]!:=by
  intro i j hij hj
  have hj':j<z.length:=by simpa using hj
  have:=List.pairwise_iff_getElem.1 hp i j (by omega) hj' hij
  simp only [decide_eq_true_eq] at this
  simp [hj',show i<z.length by omega]
  exact this
 obtain ⟨h1,h2⟩:=q75 z.toArray hs z.length (by simp)
 refine qav h1 (q7b l) fun x=>?_
 unfold Lib.compact
 rw [h2,q7f,← hm,List.mem_iff_getElem]
 constructor
 ·rintro ⟨j,hj,e⟩
  exact ⟨j,hj,by simpa [hj] using e⟩
 ·rintro ⟨j,hj,e⟩
  exact ⟨j,hj,by simpa [hj] using e⟩
end Go.Av
namespace Go.Av
open Go.Proofs
def leI:Int→Int→Bool:=fun x y=>decide (x≤y)
theorem qe0 (zs:List Int) (id g:Nat) (H:qj) (hid:H[id]?=some ⟨g,1,zs.map eI⟩) (hl:zs.length≤1000000):AC Tryz.prog 226 [.sl id g 0 zs.length zs.length] H (Ret (.tup []) (H.set id ⟨g,1,(zs.mergeSort leI).map eI⟩)) :=
 qrx (fun _ _=>.tuple #[]) hid (by simp) (fun blk off c w hH hb hc=>Tryz.slices_Sort_int blk off c zs w hH hb (by omega)) (fun hz a c w=>Tryz.slices_Sort_int_none a c w) (fun S w ad c _=>.tup rfl (fun _ _ _ h=>by simp at h))
theorem qaw (zs:List Int) (id g:Nat) (H:qj) (hid:H[id]?=some ⟨g,1,zs.map eI⟩) (hl:zs.length≤1000000):AC Tryz.prog 227 [.sl id g 0 zs.length zs.length] H (Ret (.sl id g 0 (Lib.compact zs).length (Lib.compact zs).length) (H.set id ⟨g,1,(Lib.compact zs++List.replicate (zs.length-(Lib.compact zs).length) 0).map eI⟩)):=by
 have hle:=qk1 zs
 refine qrx (fun ad c=>.slice ad (Lib.compact zs).length c) hid Y1c (fun blk off c w hH hb hc=>?_) (fun hz a c w=>?_) (fun S w ad c hv=>?_)
 ·refine (Tryz.slices_Compact_int blk off c zs w hH (by omega) hc).mono ?_
  rintro e w' ⟨rfl,q,rfl⟩
  exact ⟨rfl,q,#[],by rw [Sort.grow_empty]⟩
 ·subst hz
  exact Tryz.slices_Compact_int_empty a c w
 ·cases hv with
  | sl s hs hg h1 h =>
   refine .sl s hs hg (by cases ad<;>rfl) fun e=>?_
   obtain ⟨c',hcc,hlc,hcase⟩:=h e
   rcases hcase with ⟨h0,a,he⟩ | ⟨b,arr,ty,hp,he,hb,hfit⟩
   ·injection he with e1 e2 e3
    subst e1;subst e3
    have:(Lib.compact zs).length=0:=by omega
    exact ⟨0,by omega,by omega,.inl ⟨rfl,ad,by rw [this]⟩⟩
   ·injection he with e1 e2 e3
    subst e3
    exact ⟨c,by omega,by omega,.inr ⟨b,arr,ty,hp,by rw [e1],hb,hfit⟩⟩
set_option maxHeartbeats 0 in
theorem qr0 (l:List Held) (frm:Int) (H:qj) (hw:HW l):AC Tryz.prog 218 [.pl (l.map qg),.int .i64 frm] H (Ret (.pl ((q2e l frm).map eI)) H):=by
 have hw1:=hw.1
 refine AC.body (N:=31) [.tmp 4] Tryz.func218 rfl rfl rfl (Nat.le_of_ble_eq_true rfl) fun B hB=>?_
 refine Z4m ?_
 refine Z4p ?_
 refine Zhz ?_
 refine qa rfl (fun hc=>?_) (fun hc=>?_)
 ·have hno:q1s l=false:=by simpa only [Bool.not_eq_true'] using hc
  rw [show q2e l frm=[] by rw [q2e,hno];rfl]
  refine Z4s ?_
  refine q1c 4 rfl ?_
  exact Zbb
 have hyes:q1s l=true:=by simpa only [Bool.not_eq_false'] using hc
 clear hc
 rw [show q2e l frm=qam ((l.filter fun h=>decide (frm<h.to)).map (·.to)) by rw [q2e,hyes];rfl]
 refine Z1d ?_
 refine Zsy ?_
 refine Zel ?_
 refine Zc5 ?_
 refine Z1d ?_
 refine qm (G:=Nat) (fun k=>k≤l.length) (fun k=>[(1,.int .i64 frm),(5,.sl (Lid H.length 0) (((l.take k).filter fun h=>decide (frm<h.to)).map (·.to)).length 0 (((l.take k).filter fun h=>decide (frm<h.to)).map (·.to)).length (((l.take k).filter fun h=>decide (frm<h.to)).map (·.to)).length),(11,.pl (l.map qg)),(12,.int .i64 (l.length:Int)),(13,.int .i64 (k:Int))]) (fun k=>H++[⟨(((l.take k).filter fun h=>decide (frm<h.to)).map (·.to)).length,1,(((l.take k).filter fun h=>decide (frm<h.to)).map (·.to)).map eI⟩]) (fun k=>l.length-k) 0 (Nat.zero_le _) Y6 (.inl rfl) ?_
 intro k hk
 refine Z5a ?_
 refine qa rfl (fun hc=>?_) (fun hc=>?_)
 ·have hlt:k<l.length:=by simpa using hc
  obtain ⟨x,hx,hxl⟩:=qo hlt
  have hr:=qh qg hx
  have hst:(((l.take (k+1)).filter fun h=>decide (frm<h.to)).map (·.to))=if frm<x.to then ((l.take k).filter fun h=>decide (frm<h.to)).map (·.to)++[x.to] else ((l.take k).filter fun h=>decide (frm<h.to)).map (·.to):=by
   rw [ql hx,List.filter_append,List.map_append]
   by_cases h:frm<x.to<;>simp [h]
  have hle:(((l.take k).filter fun h=>decide (frm<h.to)).map (·.to)).length≤k:=by
   rw [List.length_map]
   exact Nat.le_trans (List.length_filter_le _ _) Y1c
  generalize ((l.take k).filter fun h=>decide (frm<h.to)).map (·.to)=z at *
  clear hc
  refine Zi9 ?_
  refine Zen ?_
  refine Z8b ?_
  refine Z2p ?_
  refine Z56 ?_
  refine qa rfl (fun hc=>?_) (fun hc=>?_)
  ·rw [if_pos Y19] at hst
   clear hc
   refine Zcq ?_
   refine Z37 ?_
   refine ao2 Y11 (qbc (sz:=1) (v:=.int .i64 x.to) (cs:=eI x.to) rfl (by decide) (by decide) rfl rfl rfl rfl rfl) ?_
   refine ao2 Y11 (q5e rfl rfl rfl rfl rfl (Src.pl (ys:=[eI x.to]) rfl (by simp)) rfl (by simp) (by simp) Y1c Y1c) ?_
   refine Zb5 ?_
   refine Zsz ?_
   rw [List.take_of_length_le (by simp)]
   refine Z5l ?_
   refine ⟨k+1,by omega,by omega,by rw [hst,List.length_append];exact Y6,?_⟩
   rw [hst,List.length_append]
   refine Fit.loc hB Yu Y1 ?_
   intro o ho r hr
   simp only [List.mem_singleton] at ho
   subst ho
   exact q1y _ _ r hr
  ·rw [if_neg Y19] at hst
   clear hc
   refine Z5l ?_
   refine ⟨k+1,by omega,by omega,by rw [hst];exact Y6,?_⟩
   rw [hst]
   refine Fit.loc hB rfl Y1 ?_
   intro o ho r hr
   simp only [List.mem_singleton] at ho
   subst ho
   exact q1y _ _ r hr
 ·have:k=l.length:=by simp at hc;omega
  subst this
  rw [List.take_length]
  have hle:((l.filter fun h=>decide (frm<h.to)).map (·.to)).length≤l.length:=by
   rw [List.length_map]
   exact List.length_filter_le _ _
  generalize (l.filter fun h=>decide (frm<h.to)).map (·.to)=z at *
  clear hc
  refine Zb1 ?_
  refine ao2 Y11 (V2.callS (qe0 z (Lid H.length 0) z.length _ (lk rfl rfl) (by omega)) rfl) ?_
  refine Zej ?_
  have hzl:(z.mergeSort leI).length=z.length:=by simp
  have hcs:Lib.compact (z.mergeSort leI)=qam z:=qjc z
  have hul:=qdf z
  rw [← hcs] at hul ⊢
  generalize z.mergeSort leI=y at *
  rw [← hzl] at hle hul ⊢
  refine Zb1 ?_
  refine ao2 Y11 (V2.callo3 (qaw y (Lid H.length 0) y.length _ (lk rfl rfl) (by omega)) rfl rfl) ?_
  refine Zb5 ?_
  refine Z9n ?_
  refine Z1d ?_
  refine qu (ys:=(Lib.compact y).map eI) 4 rfl rfl rfl rfl (by rw [List.drop_zero,← List.map_take,List.take_left]) (by simp) (q1y 0 _) ?_
  exact Zbb
theorem qpq {P:Program} {N:Nat} {env:Env} {H0 L:qj} {ty:TypeId} {t t' e:TypeId} {x y:Operand} {n k g len cap sz bytes:Nat} {agg:Bool} {zs:List AV} {o:AObj} {ys:List (List AV)} (m:Nat) [hu:SlI P t e] [NiI P t'] [TyI P e agg sz] [hz:ZcI P e zs] [ByI P e bytes]
  (hx:aev env x = .sl (Lid n k) g 0 len cap) (hn:H0.length=n) (hk:L[k]?=some o) (hg:o.gen=g) (hsz:o.sz=sz) (hy:Src P N env (H0++L) y sz ys) (hz':zs.length=sz) (hlen:len≤o.rows.length) (h63:len+ys.length≤9223372036854775807) (hb:(len+ys.length) * bytes≤140737488355328) (hm:m≤max cap (len+ys.length)) :
  V2 P N (.call { callee:=.builtin .append,args:=#[x,y],argTypes:=#[t,t'] }) ty env (H0++L) (.sl (Lid n k) (g+1) 0 (len+ys.length) m) (H0++L.set k ⟨g+1,o.sz,o.rows.take len++ys⟩):=by
 have:=qj6 (P:=P) (N:=N) (ty:=ty) (t:=t) (t':=t') (e:=e) (agg:=agg) (zs:=zs) (bytes:=bytes) m hx (lk hn hk) hg hsz hy hz' hlen h63 hb hm
 rwa [st hn] at this
set_option maxHeartbeats 0 in
theorem qqu (l:List Held) (frm to:Int) (H:qj) (hw:HW l):ACT Tryz.prog KD 228 [.pl (l.map qg),.int .i64 frm,.int .i64 to] H (Ret (.pl ((q5f l frm to).map q3u)) H):=by
 have hw1:=hw.1
 refine ACT.body (N:=29) [.tmp 6] Tryz.func228 rfl rfl rfl (Nat.le_of_ble_eq_true rfl) fun B hB=>?_
 refine Z4m ?_
 refine Z4m ?_
 refine Z9h ?_
 refine q1c 7 rfl ?_
 refine qm (G:=Nat) (fun k=>k≤l.length) (fun k=>[(KT,KD.av),(1,.int .i64 frm),(2,.int .i64 to),(7,.pl ((q5f (l.take k) frm to).map q3u)),(10,.pl (l.map qg)),(11,.int .i64 (l.length:Int)),(12,.int .i64 (k:Int))]) (fun _=>H++[]) (fun k=>l.length-k) 0 (Nat.zero_le _) Y6 (Fit.refl _ _) ?_
 intro k hk
 refine Z5a ?_
 refine qa rfl (fun hc=>?_) (fun hc=>?_)
 ·have hlt:k<l.length:=by simp at hc;omega
  obtain ⟨x,hx,hxl⟩:=qo hlt
  have hr:=qh qg hx
  have hxw:=hw.2 x hxl
  have hstep:=qa0 hx frm to
  have hbl:=q9n (l.take k) frm to
  refine Zi9 ?_
  refine Zd3 ?_
  refine Z4i ?_
  refine Z37 ?_
  refine Z30 ?_
  refine Zfd ?_
  refine Z56 ?_
  refine qa rfl (fun hc=>?_) (fun hc=>?_)
  ·rw [if_pos hc] at hstep
   refine Zf4 ?_
   refine Z52 ?_
   refine Zia ?_
   refine Z4w ?_
   refine Zib ?_
   refine Z5l ?_
   refine ⟨k+1,by omega,by omega,by rw [hstep];exact Y6,Fit.loc hB (L:=[]) rfl Y1 (fun o ho=>by simp at ho)⟩
  ·rw [if_neg (by simp [hc])] at hstep
   refine Z5l ?_
   refine ⟨k+1,by omega,by omega,by rw [hstep];exact Y6,Fit.loc hB (L:=[]) rfl Y1 (fun o ho=>by simp at ho)⟩
 ·have:k=l.length:=by simp at hc;omega
  subst this
  rw [List.take_length]
  refine Zic ?_
  refine Z9 ?_
  exact Zb
set_option maxHeartbeats 0 in
theorem qnx (g:List Thing) (use:List Int) (l:List Held) (s:Spec) (t til:Int) (H:qj) (hw:HW l) (hg:g.length≤1000000) (hu:use.length≤1000000) :
  ACT Tryz.prog KD 219 [.pl (g.map qq),.pl (use.map eI),.pl (l.map qg),.agg (q2i s),.int .i64 t,.int .i64 til] H (Ret (.tup [.pl ((q2f g use l s t til).1.map eI),.bool (q2f g use l s t til).2]) H):=by
 have hbl:=q9n l t (q1p s t)
 have hsl:(q8c use (q5f l t (q1p s t))).length≤1000000:=qk8 _ _ _
 refine ACT.body (N:=41) [.tmp 12,.tmp 13] Tryz.func219 rfl rfl rfl (Nat.le_of_ble_eq_true rfl) fun B hB=>?_
 refine Zpz ?_
 refine Z34 ?_
 refine Zt0 ?_
 refine q13 (qde _ _ _) rfl (by decide) ?_
 refine Za ?_
 refine qn 29 (.bool (!tm t||decide (t=4611686018427387904)||decide (til<q1p s t))) ?_ ?_
 ·refine Z8 ?_
  refine Z5n ?_
  refine Z26 ?_
  refine qb rfl rfl (fun hg3=>?_) (fun hg3=>?_)
  ·refine Z7z ?_
   refine Z3z ?_
   exact Zt1
  ·refine Z7o ?_
   refine Z3e ?_
   refine qb rfl rfl (fun hg7=>?_) (fun hg7=>?_)
   ·refine Z3z ?_
    exact Zt1
   ·refine Zj ?_
    refine Zt2 ?_
    exact Zt1
 refine Z1 ?_
 refine qa rfl (fun hc=>?_) (fun hc=>?_)
 ·have he:q2f g use l s t til=([],false):=by rw [q2f,if_pos hc]
  rw [he]
  refine Zrd ?_
  try dsimp only
  refine Z1d ?_
  refine q1c 12 rfl ?_
  exact Zox
 have he:q2f g use l s t til=q4u g (q8c use (q5f l t (q1p s t))) s:=by rw [q2f,if_neg Y16]
 rw [he]
 refine Zqa ?_
 refine Z90 ?_
 refine Zqb ?_
 refine Zt3 ?_
 refine Zez ?_
 refine Z1k ?_
 refine q48 5 rfl Y17 (by decide) (fun _=>V2.callT (qqu l t (q1p s t) _ hw) rfl rfl) ?_
 refine q48 6 rfl Y17 (by decide) (fun _=>V2.callT (qme use (q5f l t (q1p s t)) (by omega) (by omega) _) rfl rfl) ?_
 refine Zqd ?_
 refine q48 8 rfl Y17 (by decide) (fun _=>V2.callT (qet g (q8c use (q5f l t (q1p s t))) s _ hg hsl) rfl rfl) ?_
 refine Zt4 ?_
 refine aq0 10 rfl Y17 (by decide) (fun _=>q1m (v:=.bool _) rfl rfl) ?_
 refine Zt5 ?_
 refine aq0 12 rfl Y17 (by decide) (fun _=>q14 (v:=.bool _) rfl) ?_
 refine Z1l ?_
 exact Zhu
theorem q7r {g:List Thing} {use:List Int} {l:List Held} {s:Spec} {til:Int}:∀ {k:Nat} {ts:List Int},(∀ t∈ts.take k,(q2f g use l s t til).2=false)→q20 g use l s til ts=q20 g use l s til (ts.drop k)
 | 0,ts,_=>rfl
 | k+1,[],_=>rfl
 | k+1,t :: ts,h=>by
  have h1:=h t (by simp)
  have h2:=q7r (k:=k) (ts:=ts) (fun x hx=>h x (by simp [hx]))
  show (if (q2f g use l s t til).2 then _ else _)=_
  rw [if_neg (by rw [h1];decide)]
  exact h2
set_option maxHeartbeats 0 in
theorem qkt (g:List Thing) (use:List Int) (l:List Held) (s:Spec) (frm til:Int) (H:qj) (hw:HW l) (hg:g.length≤1000000) (hu:use.length≤1000000) :
  ACT Tryz.prog KD 202 [.pl (g.map qq),.pl (use.map eI),.pl (l.map qg),.agg (q2i s),.int .i64 frm,.int .i64 til] H (Ret (.tup [.int .i64 (qt g use l s frm til).1,.pl ((qt g use l s frm til).2.1.map eI),.bool (qt g use l s frm til).2.2]) H):=by
 have hw1:=hw.1
 refine ACT.body (N:=47) [.tmp 12,.tmp 13,.tmp 14] Tryz.func202 rfl rfl rfl (Nat.le_of_ble_eq_true rfl) fun B hB=>?_
 refine Z32 ?_
 refine Z3 ?_
 refine Z4k ?_
 refine Z34 ?_
 refine Z4o ?_
 refine Zhz ?_
 refine qa rfl (fun hc=>?_) (fun hc=>?_)
 ·have he:qt g use l s frm til=(0,[],false):=by rw [qt,if_pos hc]
  rw [he]
  refine Z7l ?_
  refine Z4k ?_
  refine Z1q ?_
  try dsimp only
  refine Z1d ?_
  refine q1c 13 rfl ?_
  exact Zq5
 have he:qt g use l s frm til=q20 g use l s til (frm :: q2e l frm):=by rw [qt,if_neg Y16]
 rw [he]
 have hel:(q2e l frm).length≤1000000:=by
  unfold q2e
  split
  ·refine Nat.le_trans (qdf _) ?_
   rw [List.length_map]
   exact Nat.le_trans (List.length_filter_le _ _) hw1
  ·simp
 clear hc he
 refine Z12 ?_
 refine ao2 Y11 (q30 (sz:=1) (k:=1) (v:=.int .i64 frm) (cs:=eI frm) rfl (by decide) (by decide) rfl rfl rfl rfl rfl) ?_
 refine Zc7 ?_
 refine q13 (qr0 _ _ _ Y1d) rfl (by decide) ?_
 refine ao2 Y11 (qpq (1+((q2e l frm).map eI).length) rfl rfl rfl rfl rfl (Src.pl (ys:=(q2e l frm).map eI) rfl (qv6 (q2e l frm))) rfl (by simp) Y1c Y1c (by simp)) ?_
 refine Zr8 ?_
 refine Z9f ?_
 try dsimp only [put,Nat.reduceAdd,List.cons_append,List.nil_append,List.take_succ_cons,List.take_zero,List.set_cons_succ,List.set_cons_zero]
 generalize q2e l frm=es at *
 refine Z1d ?_
 refine qu (ys:=(frm :: es).map eI) 27 rfl rfl rfl rfl (by rw [List.drop_zero,List.take_of_length_le Y1c];rfl) Y1c (q1y 0 _) ?_
 rw [show (1+(es.map eI).length:Nat)=(frm :: es).length by simp;omega]
 have htl:(frm :: es).length≤1000001:=by simp;omega
 generalize frm :: es=ts at *
 refine qm (G:=Nat) (fun k=>k≤ts.length∧∀ t∈ts.take k,(q2f g use l s t til).2=false) (fun k=>[(KT,KD.av),(0,.pl (g.map qq)),(1,.pl (use.map eI)),(2,.pl (l.map qg)),(9,.pt (Lid H.length 0) 0 0 0),(5,.int .i64 til),(27,.pl (ts.map eI)),(28,.int .i64 (ts.length:Int)),(29,.int .i64 (k:Int))]) (fun _=>H++[⟨0,7,[q2i s]⟩]) (fun k=>ts.length-k) 0 ⟨Nat.zero_le _,by simp⟩ Y6 (Fit.loc hB rfl Y1 ?_) ?_
 ·intro o ho r hr
  simp only [List.mem_singleton] at ho
  subst ho
  simp only [List.mem_singleton] at hr
  subst hr
  rfl
 rintro k ⟨hk,hno⟩
 refine Z5a ?_
 refine qa rfl (fun hc=>?_) (fun hc=>?_)
 ·have hlt:k<ts.length:=by simpa using hc
  obtain ⟨t,ht,htl⟩:=qo hlt
  have hr:=qh eI ht
  clear hc
  refine Zjs ?_
  refine Za5 ?_
  refine Z4n ?_
  refine Z4b ?_
  refine Z30 ?_
  refine ao2 Y11 (V2.callT (qnx g use l s t til _ hw hg hu) rfl rfl) ?_
  refine Zsa ?_
  try dsimp only [put]
  refine Z2x ?_
  refine qa rfl (fun hc=>?_) (fun hc=>?_)
  ·have he:q20 g use l s til ts=(t,(q2f g use l s t til).1,true):=by
    rw [q7r hno,List.drop_eq_getElem_cons hlt,show ts[k]=t from (List.getElem?_eq_some_iff.1 ht).2]
    show (if (q2f g use l s t til).2 then _ else _)=_
    rw [if_pos hc]
   rw [he]
   refine Z12 ?_
   refine Z4n ?_
   refine Z3 ?_
   refine Zs6 ?_
   try dsimp only
   refine Z1 ?_
   exact Zq4
  ·refine Z5l ?_
   refine ⟨k+1,by omega,⟨by omega,?_⟩,Y6,.inl rfl⟩
   rw [ql ht]
   intro y hy
   rcases List.mem_append.1 hy with h | h
   ·exact hno y h
   ·simp only [List.mem_singleton] at h
    subst h
    exact hc
 ·have:k=ts.length:=by simp at hc;omega
  subst this
  have he:q20 g use l s til ts=(0,[],false):=by rw [q7r hno,List.drop_length];rfl
  rw [he]
  refine Z7l ?_
  refine Z4k ?_
  refine Z1q ?_
  try dsimp only
  refine Z1d ?_
  refine q1c 13 rfl ?_
  exact Zq5
abbrev q5z (w:Want):List AV:=.int .i64 w.id :: q2i w.spec
theorem qpu (g:List Thing) (free:List Int) (s:Spec):(q4u g free s).1.length≤256:=by
 unfold q4u
 split
 ·simp
 ·split
  ·simp
  ·exact q9f free s _
theorem qo9 (g:List Thing) (use:List Int) (l:List Held) (s:Spec) (t til:Int):(q2f g use l s t til).1.length≤256:=by
 unfold q2f
 split
 ·simp
 ·exact qpu _ _ _
theorem qbd (g:List Thing) (use:List Int) (l:List Held) (s:Spec) (til:Int):∀ ts,(q20 g use l s til ts).2.1.length≤256
 | []=>by simp [q20]
 | t :: ts=>by
  unfold q20
  split
  ·exact qo9 _ _ _ _ _ _
  ·exact qbd g use l s til ts
theorem q6u (g:List Thing) (use:List Int) (l:List Held) (s:Spec) (frm til:Int):(qt g use l s frm til).2.1.length≤256:=by
 unfold qt
 split
 ·simp
 ·exact qbd _ _ _ _ _ _
theorem HW.add {l:List Held} {h:Held} (hw:HW l) (hh:h.things.length≤1000000):HW (q1f l h).1:=by
 unfold q1f
 split
 ·exact hw
 ·rename_i h1
  split
  ·exact hw
  ·split
   ·exact hw
   ·have hr:q1s l=true:=by cases e:q1s l<;>simp [e] at h1 ⊢
    have h256:l.length≤256:=by simp only [q1s,Bool.and_eq_true,decide_eq_true_eq] at hr;exact hr.1
    refine ⟨?_,fun x hx=>?_⟩
    ·simp only [List.length_append,List.length_take,List.length_cons,List.length_drop]
     omega
    ·rcases List.mem_append.1 hx with hx | hx
     ·exact hw.2 x (List.mem_of_mem_take hx)
     ·rcases List.mem_cons.1 hx with rfl | hx
      ·exact hh
      ·exact hw.2 x (List.mem_of_mem_drop hx)
theorem q7w {g:List Thing} {use:List Int} {now til policy depth:Int} {s:PickS} {w:Want} {ws:List Want} {t:Int} {th:List Int} {ok:Bool} (hf:qt g use s.l w.spec now til=(t,th,ok)) :
  q5q g use now til policy depth s (w :: ws)=if !ok then q5q g use now til policy depth s ws
   else if t≠now∧policy=1 then (s.begun,s.kept,0)
   else if t≠now∧qfc policy depth≤(s.kept.length:Int) then q5q g use now til policy depth s ws
   else if (q1f s.l ⟨w.id,th,t,q1p w.spec t⟩).2≠0 then ([],[],(q1f s.l ⟨w.id,th,t,q1p w.spec t⟩).2)
   else if t=now then q5q g use now til policy depth ⟨(q1f s.l ⟨w.id,th,t,q1p w.spec t⟩).1,s.begun++[⟨w.id,th,t,q1p w.spec t⟩],s.kept⟩ ws
   else q5q g use now til policy depth ⟨(q1f s.l ⟨w.id,th,t,q1p w.spec t⟩).1,s.begun,s.kept++[⟨w.id,th,t,q1p w.spec t⟩]⟩ ws:=by
 rw [q5q,hf]
theorem qr6 (policy depth:Int) (H:qj):AC Tryz.prog 203 [.int .i64 policy,.int .i64 depth] H (Ret (.int .i64 (qfc policy depth)) H):=by
 refine AC.body (N:=11) [.tmp 4] Tryz.func203 rfl rfl rfl (Nat.le_of_ble_eq_true rfl) fun B hB=>?_
 refine Z2m ?_
 refine qf ?_
 refine Z5q ?_
 refine qa rfl (fun hc=>?_) (fun hc=>?_)
 ·rw [show qfc policy depth=1 by rw [qfc,if_pos Y19]]
  exact Z19
 ·have h2:¬ policy=2:=by simpa using hc
  clear hc
  refine Z5q ?_
  refine qa rfl (fun hc=>?_) (fun hc=>?_)
  ·rw [show qfc policy depth=depth by rw [qfc,if_neg h2,if_pos Y19]]
   refine Z12 ?_
   exact Zc
  ·rw [show qfc policy depth=0 by rw [qfc,if_neg h2,if_neg Y19]]
   exact Z19
set_option maxHeartbeats 0 in
theorem qqs (g:List Thing) (use:List Int) (l:List Held) (ws:List Want) (now til policy depth:Int) (H:qj) (hw:HW l) (hg:g.length≤1000000) (hu:use.length≤1000000) (hn:ws.length≤1000000) :
  ACT Tryz.prog KD 177 [.pl (g.map qq),.pl (use.map eI),.pl (l.map qg),.pl (ws.map q5z),.int .i64 now,.int .i64 til,.int .i64 policy,.int .i64 depth] H
   (Ret (.tup [.pl ((q35 g use l ws now til policy depth).1.map qg),.pl ((q35 g use l ws now til policy depth).2.1.map qg),.int .i64 (q35 g use l ws now til policy depth).2.2]) H):=by
 refine ACT.body (N:=119) [.tmp 16,.tmp 17,.tmp 18] Tryz.func177 rfl rfl rfl (Nat.le_of_ble_eq_true rfl) fun B hB=>?_
 refine Z4l ?_
 refine Z4k ?_
 refine Za ?_
 refine qn 47 (.bool (decide (policy<1)||decide (3<policy)||decide (depth<0)||decide (64<depth)||!q1s l)) ?_ ?_
 ·refine Zw ?_
  refine qb rfl rfl (fun hg2=>?_) (fun hg2=>?_)
  ·refine Z80 ?_
   refine Z7z ?_
   exact Zgv
  ·refine Z83 ?_
   refine qb rfl rfl (fun hg6=>?_) (fun hg6=>?_)
   ·refine Z80 ?_
    exact Zgv
   ·refine Z82 ?_
    refine qb rfl rfl (fun hg10=>?_) (fun hg10=>?_)
    ·refine Z7z ?_
     exact Zgv
    ·refine Z83 ?_
     refine qb rfl rfl (fun hg14=>?_) (fun hg14=>?_)
     ·exact Zgv
     ·refine Zc3 ?_
      refine Zmt ?_
      refine Z6c ?_
      exact Zgw
 refine Z1 ?_
 refine qa rfl (fun hc=>?_) (fun hc=>?_)
 ·have he:q35 g use l ws now til policy depth=([],[],1):=by rw [q35,if_pos hc]
  rw [he]
  refine Z4l ?_
  refine Zsx ?_
  try dsimp only
  refine Z1d ?_
  refine q1c 16 rfl ?_
  refine q1c 17 rfl ?_
  exact Zq5
 have he:q35 g use l ws now til policy depth=q5q g use now til policy depth ⟨l,[],[]⟩ ws:=by rw [q35,if_neg Y16]
 rw [he]
 clear hc he
 refine Z4l ?_
 refine Zau ?_
 refine Z1d ?_
 refine Zt6 ?_
 refine Zt7 ?_
 refine Zel ?_
 refine Zt8 ?_
 refine Z1d ?_
 refine qm (G:=Nat×PickS) (fun q=>q.1≤ws.length∧HW q.2.l∧q.2.begun.length≤q.1∧q.2.kept.length≤q.1∧q5q g use now til policy depth ⟨l,[],[]⟩ ws=q5q g use now til policy depth q.2 (ws.drop q.1))
  (fun q=>[(KT,KD.av),(0,.pl (g.map qq)),(1,.pl (use.map eI)),(2,.pl (q.2.l.map qg)),(4,.int .i64 now),(5,.int .i64 til),(6,.int .i64 policy),(7,.int .i64 depth),(19,.sl (Lid H.length 0) q.2.begun.length 0 q.2.begun.length q.2.begun.length),(20,.sl (Lid H.length 1) q.2.kept.length 0 q.2.kept.length q.2.kept.length),(48,.pl (ws.map q5z)),(49,.int .i64 (ws.length:Int)),(50,.int .i64 (q.1:Int))])
  (fun q=>H++[⟨q.2.begun.length,4,q.2.begun.map qg⟩,⟨q.2.kept.length,4,q.2.kept.map qg⟩]) (fun q=>ws.length-q.1) (0,⟨l,[],[]⟩) ⟨Nat.zero_le _,hw,Nat.le_refl _,Nat.le_refl _,rfl⟩ Y6 (.inl rfl) ?_
 rintro ⟨k,⟨sl,sb,sk⟩⟩ ⟨hk,hsw,hsb,hsk,hI⟩
 simp only at hk hsw hsb hsk hI ⊢
 rw [hI]
 clear hI
 refine Z5a ?_
 refine qa rfl (fun hc=>?_) (fun hc=>?_)
 ·have hlt:k<ws.length:=by simpa using hc
  obtain ⟨w,hwk,hwl⟩:=qo hlt
  have hr:=qh q5z hwk
  have hd:ws.drop k=w :: ws.drop (k+1):=by rw [List.drop_eq_getElem_cons hlt,show ws[k]=w from (List.getElem?_eq_some_iff.1 hwk).2]
  rw [hd]
  have hfl:=q6u g use sl w.spec now til
  clear hc
  refine Zi7 ?_
  refine ao2 Y11 (q4n (sz:=8) rfl (by decide) rfl) ?_
  refine ao2 Y1b (q2p (sz:=8) rfl rfl rfl rfl rfl rfl rfl rfl (Nat.le_of_ble_eq_true rfl)) ?_
  refine Zen ?_
  refine Za5 ?_
  refine Z4n ?_
  refine Z36 ?_
  refine Zt9 ?_
  refine Z30 ?_
  refine ao2 Y11 (V2.callT (qkt g use sl w.spec now til _ hsw hg hu) rfl rfl) ?_
  refine Z8e ?_
  refine Zpg ?_
  refine Z8f ?_
  refine Z3 ?_
  refine Zs6 ?_
  refine Z8j ?_
  generalize hf:qt g use sl w.spec now til=f at *
  obtain ⟨t,th,ok⟩:=f
  simp only at hfl ⊢
  have hst:=q7w (policy:=policy) (depth:=depth) (s:=⟨sl,sb,sk⟩) (w:=w) (ws:=ws.drop (k+1)) (til:=til) (now:=now) hf
  rw [hst]
  clear hst hf hd hr hwk
  refine Z2w ?_
  refine Zta ?_
  try dsimp only
  refine Z1 ?_
  refine qa rfl (fun hc=>?_) (fun hc=>?_)
  ·rw [if_pos hc]
   refine Z5l ?_
   refine ⟨(k+1,⟨sl,sb,sk⟩),by simp only;omega,⟨by simp only;omega,hsw,by simp only;omega,by simp only;omega,rfl⟩,Y6,Fit.loc hB rfl Y1 ?_⟩
   intro o ho r hr
   simp only [List.mem_cons,List.not_mem_nil,or_false] at ho
   rcases ho with rfl | rfl
   ·exact q1e _ _ r hr
   ·exact q1e _ _ r hr
  rw [if_neg Y16]
  clear hc
  refine Z1 ?_
  refine qn 74 (.bool (decide (t≠now∧policy=1))) ?_ ?_
  ·refine Z30 ?_
   refine Zgx ?_
   refine qb rfl rfl (fun hg3=>?_) (fun hg3=>?_)
   ·refine Z7o ?_
    refine Zm ?_
    exact qf (Out.mk (by (refine congrArg AV.bool ?_;(clear hB;grind))) Yb)
   ·refine Z2h ?_
    exact Zgu
  refine Z1 ?_
  refine qa rfl (fun hc=>?_) (fun hc=>?_)
  ·rw [if_pos (of_decide_eq_true hc)]
   refine Zp3 ?_
   refine Zb4 ?_
   refine Zb4 ?_
   refine Z4 ?_
   try dsimp only
   refine Z1d ?_
   refine Ztb ?_
   refine Ztc ?_
   exact Zq5
  rw [if_neg (of_decide_eq_false hc)]
  clear hc
  refine Z1 ?_
  refine qn 85 (.bool (decide (t≠now∧qfc policy depth≤(sk.length:Int)))) ?_ ?_
  ·refine Z30 ?_
   refine Zgx ?_
   refine qb rfl rfl (fun hg3=>?_) (fun hg3=>?_)
   ·refine Zer ?_
    refine Ztd ?_
    refine Zj ?_
    refine Zj ?_
    refine q5b rfl rfl (by decide) (V2.call (qr6 _ _ _) rfl) ?_
    refine Z27 ?_
    refine Zm ?_
    exact Zgu
   ·refine Z2c ?_
    refine Z2h ?_
    exact Zgu
  refine Z1 ?_
  refine qa rfl (fun hc=>?_) (fun hc=>?_)
  ·rw [if_pos (of_decide_eq_true hc)]
   refine Z5l ?_
   refine ⟨(k+1,⟨sl,sb,sk⟩),by simp only;omega,⟨by simp only;omega,hsw,by simp only;omega,by simp only;omega,rfl⟩,Y6,Fit.loc hB rfl Y1 ?_⟩
   intro o ho r hr
   simp only [List.mem_cons,List.not_mem_nil,or_false] at ho
   rcases ho with rfl | rfl
   ·exact q1e _ _ r hr
   ·exact q1e _ _ r hr
  rw [if_neg (of_decide_eq_false hc)]
  clear hc
  refine Z1 ?_
  refine Zly ?_
  refine Zd6 ?_
  refine Zt3 ?_
  refine Zez ?_
  refine Zo9 ?_
  refine aqp 5 rfl Y17 (by decide) (fun G=>qcw (cs:=[_,_,_,_,_,_,_]) rfl (lk rfl rfl) rfl rfl rfl rfl) ?_
  refine Zsp ?_
  refine q48 7 rfl Y17 (by decide) (fun _=>V2.call (qde _ _ _) rfl) ?_
  refine aq0 8 rfl Y17 (by decide) (fun _=>V1.up (q4i (cs:=[.int _ _,_,.int _ _,.int _ _]) rfl)) ?_
  refine aqs 9 rfl Y17 Yv Y11 (q4n (sz:=4) rfl (by decide) rfl) ?_
  refine aqs 10 rfl Y17 Yv Y1b (q2p (sz:=4) rfl rfl rfl rfl rfl rfl rfl rfl (Nat.le_of_ble_eq_true rfl)) ?_
  refine Z1l ?_
  refine Zq0 ?_
  have hth:th.length≤1000000:=by omega
  have hadd:(⟨w.id,th,t,q1p w.spec t⟩:Held).things.length≤1000000:=hth
  have hsw2:=hsw.add hadd
  refine Z4o ?_
  refine Z4b ?_
  refine ao2 Y11 (V2.call (qmw sl ⟨w.id,th,t,q1p w.spec t⟩ _ hsw hadd) rfl) ?_
  refine Zpk ?_
  try dsimp only [put]
  generalize q1f sl ⟨w.id,th,t,q1p w.spec t⟩=r at *
  obtain ⟨rl,rc⟩:=r
  simp only at hsw2 ⊢
  refine Zaz ?_
  refine qa rfl (fun hc=>?_) (fun hc=>?_)
  ·have hne:rc≠0:=by simpa using hc
   rw [if_pos hne]
   refine Z12 ?_
   refine Z4k ?_
   refine Zsx ?_
   try dsimp only
   refine Z1d ?_
   refine q1c 16 rfl ?_
   refine q1c 17 rfl ?_
   exact Zq5
  have hne:¬ rc≠0:=by simpa using hc
  rw [if_neg hne]
  clear hc
  refine Zic ?_
  refine qf ?_
  refine Z2t ?_
  refine Z17 ?_
  refine qa rfl (fun hc=>?_) (fun hc=>?_)
  ·rw [if_pos Y19]
   clear hc
   refine Zpn ?_
   refine Zte ?_
   refine Ztf ?_
   refine Zb5 ?_
   refine Zsz ?_
   rw [List.take_of_length_le (by simp)]
   refine Z5l ?_
   refine ⟨(k+1,⟨rl,sb++[⟨w.id,th,t,q1p w.spec t⟩],sk⟩),by simp only;omega,⟨by simp only;omega,hsw2,by simp;omega,by simp only;omega,rfl⟩,by simp only [List.length_append];exact Y6,?_⟩
   simp only [List.length_append]
   refine Fit.loc hB Yu Y1 ?_
   intro o ho r hr
   simp only [List.mem_cons,List.not_mem_nil,or_false] at ho
   rcases ho with rfl | rfl
   ·exact q1e _ _ r hr
   ·exact q1e _ _ r hr
  ·rw [if_neg Y19]
   clear hc
   refine Zpn ?_
   refine Zte ?_
   refine Ztf ?_
   refine Zb5 ?_
   refine Zss ?_
   rw [List.take_of_length_le (by simp)]
   refine Z5l ?_
   refine ⟨(k+1,⟨rl,sb,sk++[⟨w.id,th,t,q1p w.spec t⟩]⟩),by simp only;omega,⟨by simp only;omega,hsw2,by simp only;omega,by simp;omega,rfl⟩,by simp only [List.length_append];exact Y6,?_⟩
   simp only [List.length_append]
   refine Fit.loc hB Yu Y1 ?_
   intro o ho r hr
   simp only [List.mem_cons,List.not_mem_nil,or_false] at ho
   rcases ho with rfl | rfl
   ·exact q1e _ _ r hr
   ·exact q1e _ _ r hr
 ·have:k=ws.length:=by simp at hc;omega
  subst this
  rw [List.drop_length]
  clear hc
  refine Zp3 ?_
  refine Zb4 ?_
  refine Zb4 ?_
  refine Z4 ?_
  refine Z1d ?_
  refine Ztb ?_
  refine Ztc ?_
  exact Zq5
end Go.Av
namespace Go.Av
structure RI (w : Inst) : Prop where
 iw:IW w
 jw:JW w.jobs
theorem JW.do {l:List Job} (h:JW l) (id what at_:Int):JW (q1n l id what at_).1:=by
 unfold q1n
 split
 ·exact h
 ·split
  ·exact h
  ·refine ⟨by rw [List.length_set];exact h.1,fun j hj=>?_⟩
   rcases List.mem_or_eq_of_mem_set hj with hj | rfl
   ·exact h.2 j hj
   ·rw [(qm6 _ _ _).2.2.1]
    unfold q1r
    rw [List.getD_eq_getElem?_getD]
    cases e:l[q11 l id]? with
    | none=>simp [qua]
    | some x=>exact h.2 x (List.mem_of_getElem? e)
theorem HW.drop {l:List Held} (h:HW l) (id:Int):HW (q1a l id).1:=by
 unfold q1a
 split
 ·exact h
 ·split
  ·exact h
  ·exact ⟨Nat.le_trans (List.length_eraseIdx_le _ _) h.1,fun x hx=>h.2 x (List.mem_of_mem_eraseIdx hx)⟩
theorem RI.wdo {w:Inst} (h:RI w) (id what at_:Int):RI (wdo w id what at_).1:=by
 have h1:=h.jw.do id what at_
 unfold Av.wdo
 split
 ·exact h
 ·split
  ·exact ⟨⟨h.iw.graph,h.iw.health,h.iw.lease,h1.1,h.iw.table.drop id⟩,h1⟩
  ·exact ⟨⟨h.iw.graph,h.iw.health,h.iw.lease,h1.1,h.iw.table⟩,h1⟩
def brk (w:Inst) (k:Nat):Inst:=(w.table.take k).foldl (fun a h=>if q2u h.things (q4t w.lease (q21 w.graph w.health 1)) then a else (wdo a h.id 5 a.now).1) w
theorem qug (w:Inst):brk w 0=w:=rfl
theorem qji (w:Inst):brk w w.table.length=q2w w:=by rw [brk,List.take_length];rfl
theorem qn0 {w:Inst} {k:Nat} {h:Held} (e:w.table[k]?=some h):brk w (k+1)=if q2u h.things (q4t w.lease (q21 w.graph w.health 1)) then brk w k else (wdo (brk w k) h.id 5 (brk w k).now).1:=by
 rw [brk,brk,List.take_add_one,e,List.foldl_append];rfl
theorem RI.foldl {α:Type} {f:Inst→α→Inst} (hf:∀ a x,RI a→RI (f a x)):∀ (l:List α) {w:Inst},RI w→RI (l.foldl f w)
 | [],_,h=>h
 | x :: l,_,h=>RI.foldl hf l (hf _ x h)
theorem RI.brk {w:Inst} (h:RI w) (k:Nat):RI (brk w k):=RI.foldl (fun a x ha=>by split;exact ha;exact ha.wdo _ _ _) _ h
def rfs (w:Inst) (k:Nat):Inst:=(w.jobs.take k).foldl (fun a j=>if decide (j.state≤1)&&((q3n w.jobs).contains j.id||!q8o a.graph j.spec) then (wdo a j.id 7 a.now).1 else a) w
theorem ql0 (w:Inst):rfs w w.jobs.length=q3r w:=by rw [rfs,List.take_length];rfl
theorem qm7 {w:Inst} {k:Nat} {j:Job} (e:w.jobs[k]?=some j):rfs w (k+1)=if decide (j.state≤1)&&((q3n w.jobs).contains j.id||!q8o (rfs w k).graph j.spec) then (wdo (rfs w k) j.id 7 (rfs w k).now).1 else rfs w k:=by
 rw [rfs,rfs,List.take_add_one,e,List.foldl_append];rfl
theorem RI.rfs {w:Inst} (h:RI w) (k:Nat):RI (rfs w k):=RI.foldl (fun a x ha=>by split;exact ha.wdo _ _ _;exact ha) _ h
theorem RI.broken {w:Inst} (h:RI w):RI (q2w w):=by rw [← qji];exact h.brk _
theorem RI.refuse {w:Inst} (h:RI w):RI (q3r w):=by rw [← ql0];exact h.rfs _
end Go.Av
namespace Go.Av
open Go.Proofs
theorem Fit.locF {B:Base} {E:Env} {H M L:qj} {args:List AV} (hB:Begun B H args) (hl:M.length=H.length) (hE:EBel H.length E) (hM:HBel H.length M):Fit B E (M++L) (M++[]):=by
 rw [List.append_nil]
 exact .inr ⟨L,rfl,by rw [hl,hB.len];exact Nat.le_refl _,by rw [hl];exact hE,by rw [hl];exact hM⟩
theorem V2.callF {P:Program} {N:Nat} {env:Env} {H0 L:qj} {ty:TypeId} {f p:Nat} {xs:Array Operand} {ts:Array TypeId} {vs:List AV} {v:AV} {o o0:AObj} [FnI P f] (hac:AC P f vs (H0++L) (Ret v ((H0++L).set p o))) (hvs:xs.toList.map (aev env)=vs) (hp:H0[p]?=some o0) :
  V2 P N (.call { callee:=.value (.func f),args:=xs,argTypes:=ts }) ty env (H0++L) v (H0.set p o++L):=by
 have:=V2.call (N:=N) (ty:=ty) (ts:=ts) hac hvs
 rwa [stF hp] at this
theorem q4l (n:Nat) (w:Inst):∀ r∈(AObj.mk 0 9 [q19 w]).rows,AV.bels n r=true:=by
 intro r hr
 simp only [List.mem_singleton] at hr
 subst hr
 rfl
set_option maxHeartbeats 0 in
theorem qgj (w:Inst) (p:Nat) (H:qj) (hw:RI w) (hid:H[p]?=some ⟨0,9,[q19 w]⟩):ACT Tryz.prog KD 140 [.pt p 0 0 0] H (Ret (.tup []) (H.set p ⟨0,9,[q19 (q2w w)]⟩)):=by
 have hpl:p<H.length:=(List.getElem?_eq_some_iff.1 hid).1
 have hF:=hid
 have w1:=hw.iw.graph
 have w4:=hw.iw.health
 have w5:=hw.iw.lease
 have w6:=hw.iw.table
 have w7:=w6.1
 have hbl:=q9g w.graph w.health 1
 refine ACT.body (N:=48) [] Tryz.func140 rfl rfl rfl (Nat.le_of_ble_eq_true rfl) fun B hB=>?_
 refine Z1h ?_
 refine Znk ?_
 refine Znl ?_
 refine Znm ?_
 refine Znn ?_
 refine Zno ?_
 refine Znp ?_
 refine Znq ?_
 refine Znr ?_
 refine Zns ?_
 refine Znt ?_
 refine Znu ?_
 refine Znv ?_
 refine Znw ?_
 refine Znx ?_
 refine Zny ?_
 refine q48 15 rfl Y17 (by decide) (fun _=>V2.call (qj8 _ _ _ (by omega) (by omega)) rfl) ?_
 refine q48 16 rfl Y17 (by decide) (fun _=>V2.callT (qmc w.lease (q21 w.graph w.health 1) (by omega) (by omega) _) rfl rfl) ?_
 refine Znz ?_
 refine Zo0 ?_
 have hml:(q4t w.lease (q21 w.graph w.health 1)).length≤1000000:=qk8 _ _ _
 refine Zpa ?_
 refine Zpf ?_
 refine q13 (qfw _ _ (by omega)) rfl (by decide) ?_
 refine Z59 ?_
 have hF0:∀ k,(H.set p ⟨0,9,[q19 (brk w k)]⟩)[p]?=some ⟨0,9,[q19 (brk w k)]⟩:=fun k=>List.getElem?_set_self (List.getElem?_eq_some_iff.1 hid).1
 refine qm (G:=Nat) (fun k=>k≤w.table.length) (fun k=>[(0,.pt p 0 0 0),(2,.pl ((q4t w.lease (q21 w.graph w.health 1)).map q3u)),(27,.pl (w.table.map qg)),(28,.int .i64 (w.table.length:Int)),(29,.int .i64 (k:Int))]) (fun k=>H.set p ⟨0,9,[q19 (brk w k)]⟩++[]) (fun k=>w.table.length-k) 0 (Nat.zero_le _) Y6 (.inl (by rw [qug,q86 hid])) ?_
 intro k hk
 have hri:=hw.brk k
 clear hF
 have hF:=hF0 k
 refine Z5a ?_
 refine qa rfl (fun hc=>?_) (fun hc=>?_)
 ·have hlt:k<w.table.length:=by simpa using hc
  obtain ⟨x,hx,hxl⟩:=qo hlt
  have hr:=qh qg hx
  have hxw:=w6.2 x hxl
  have hst:=qn0 hx
  clear hc
  refine Zi9 ?_
  refine Zd3 ?_
  refine Z53 ?_
  refine Z4n ?_
  refine q13 (qvc _ _ (by omega) (by omega) _) rfl (by decide) ?_
  refine Z1a ?_
  refine Z56 ?_
  refine qa rfl (fun hc=>?_) (fun hc=>?_)
  ·have hc1:¬ q2u x.things (q4t w.lease (q21 w.graph w.health 1))=true:=by simpa using hc
   rw [if_neg hc1] at hst
   clear hc hr hx
   refine Zsu ?_
   refine Z6g ?_
   refine Znk ?_
   refine Ztg ?_
   refine Zth ?_
   refine Zti ?_
   refine Ztj ?_
   refine Ztk ?_
   refine Ztl ?_
   refine Ztm ?_
   refine aqs 8 rfl Y17 Yv Y11 (V2.callF (q7j (brk w k) x.id 5 (brk w k).now p _ hri.jw (hri.jw.do _ _ _) hri.iw.table (lkF hF)) rfl hF) ?_
   refine Z9q ?_
   refine Ztn ?_
   rw [List.set_set,← hst]
   refine Z5l ?_
   refine ⟨k+1,by omega,by omega,Y6,Fit.locF hB (by simp) Y1 (hB.heap.set p _ (q4l _ _))⟩
  ·have hc1:q2u x.things (q4t w.lease (q21 w.graph w.health 1))=true:=by simpa using hc
   rw [if_pos hc1] at hst
   clear hc hr hx
   rw [← hst]
   refine Z5l ?_
   refine ⟨k+1,by omega,by omega,Y6,Fit.locF hB (by simp) Y1 (hB.heap.set p _ (q4l _ _))⟩
 ·have:k=w.table.length:=by simp at hc;omega
  subst this
  rw [qji]
  refine Z1 ?_
  exact q5d hB .nil rfl rfl (by simp) (hB.heap.set p _ (q4l _ _))
set_option maxHeartbeats 0 in
theorem qgw (w:Inst) (p:Nat) (H:qj) (hw:RI w) (hid:H[p]?=some ⟨0,9,[q19 w]⟩):ACT Tryz.prog KD 141 [.pt p 0 0 0] H (Ret (.tup []) (H.set p ⟨0,9,[q19 (q3r w)]⟩)):=by
 have hpl:p<H.length:=(List.getElem?_eq_some_iff.1 hid).1
 have hF:=hid
 have hjw:=hw.jw
 have w7:=hjw.1
 have hll:(q3n w.jobs).length≤1000000:=by
  cases h:q24 w.jobs with
  | false=>rw [show q3n w.jobs=[] by rw [q3n,h];rfl];simp
  | true =>
   rw [q8t _ h]
   exact Nat.le_trans (qfe _ _) w7
 refine ACT.body (N:=52) [] Tryz.func141 rfl rfl rfl (Nat.le_of_ble_eq_true rfl) fun B hB=>?_
 refine Zpa ?_
 refine Zpf ?_
 refine q13 (qp4 _ _ Y1d) rfl (by decide) ?_
 refine Z4w ?_
 refine Z55 ?_
 refine Zpa ?_
 refine Zpf ?_
 refine q13 (qgi _ _ (by omega)) rfl (by decide) ?_
 refine Z59 ?_
 have hF0:∀ k,(H.set p ⟨0,9,[q19 (rfs w k)]⟩)[p]?=some ⟨0,9,[q19 (rfs w k)]⟩:=fun k=>List.getElem?_set_self (List.getElem?_eq_some_iff.1 hid).1
 refine qm (G:=Nat) (fun k=>k≤w.jobs.length) (fun k=>[(KT,KD.av),(0,.pt p 0 0 0),(2,.pl ((q3n w.jobs).map eI)),(16,.pl (w.jobs.map q1d)),(17,.int .i64 (w.jobs.length:Int)),(18,.int .i64 (k:Int))]) (fun k=>H.set p ⟨0,9,[q19 (rfs w k)]⟩++[]) (fun k=>w.jobs.length-k) 0 (Nat.zero_le _) Y6 (.inl (by rw [show rfs w 0=w from rfl,q86 hid])) ?_
 intro k hk
 have hri:=hw.rfs k
 have hgl:=hri.iw.graph
 clear hF
 have hF:=hF0 k
 refine Z5a ?_
 refine qa rfl (fun hc=>?_) (fun hc=>?_)
 ·have hlt:k<w.jobs.length:=by simpa using hc
  obtain ⟨x,hx,hxl⟩:=qo hlt
  have hr:=qh q1d hx
  have hst:=qm7 hx
  clear hc
  refine Zi7 ?_
  refine Zlu ?_
  refine Zd3 ?_
  refine Z1 ?_
  refine q1l 41 (.bool (decide (x.state≤1)&&((q3n w.jobs).contains x.id||!q8o (rfs w k).graph x.spec))) ?_ ?_
  ·refine Zd5 ?_
   refine Zd6 ?_
   refine aq0 2 rfl Y17 (by decide) (fun _=>qqc rfl rfl) ?_
   refine Z9z ?_
   refine qp (g:=25) rfl (fun hg3=>?_) (fun hg3=>?_)
   ·refine q1h (g:=25) 4 rfl Y17 (by decide) rfl rfl (fun _=>qd (v:=.pl _) rfl) ?_
    refine q1j (g:=25) 5 rfl Y17 (by decide) rfl rfl (fun G=>qc rfl (lk rfl rfl) rfl (by decide)) ?_
    refine q1j (g:=25) 6 rfl Y17 (by decide) rfl rfl (fun G=>qi (v:=.int _ _) rfl (lk rfl rfl) rfl rfl rfl) ?_
    refine q7c (g:=25) 7 rfl Y17 (by decide) rfl rfl (fun _=>V2.call (q7n _ _ _ (by omega)) rfl) ?_
    refine q1h (g:=25) 8 rfl Y17 (by decide) rfl rfl (fun _=>qd (v:=.bool _) rfl) ?_
    refine qp (g:=30) rfl (fun hg8=>?_) (fun hg8=>?_)
    ·refine qr (g:=30) 9 rfl Y17 (by decide) rfl rfl rfl ?_
     refine qr (g:=30) 10 rfl Y17 (by decide) rfl rfl rfl ?_
     refine qr (g:=30) 11 rfl Y17 (by decide) rfl rfl rfl ?_
     refine qr (g:=30) 12 rfl Y17 (by decide) rfl rfl rfl ?_
     refine qr (g:=30) 13 rfl Y17 (by decide) rfl rfl rfl ?_
     refine qr (g:=30) 14 rfl Y17 (by decide) rfl rfl rfl ?_
     refine qr (g:=30) 15 rfl Y17 (by decide) rfl rfl rfl ?_
     refine qr (g:=30) 16 rfl Y17 (by decide) rfl rfl rfl ?_
     refine qr (g:=30) 17 rfl Y17 (by decide) rfl rfl rfl ?_
     refine q1h (g:=25) 18 rfl Y17 (by decide) rfl rfl (fun _=>q16 (v:=.bool _) rfl rfl) ?_
     refine Zto ?_
     exact Ztp
    ·refine q1h (g:=30) 9 rfl Y17 (by decide) rfl rfl (fun _=>qd (v:=.pt _ _ _ _) rfl) ?_
     refine q1j (g:=30) 10 rfl Y17 (by decide) rfl rfl (fun G=>q1g rfl (lkF hF) rfl) ?_
     refine q1j (g:=30) 11 rfl Y17 (by decide) rfl rfl (fun G=>qc rfl (lkF hF) rfl (by decide)) ?_
     refine q1j (g:=30) 12 rfl Y17 (by decide) rfl rfl (fun G=>qc rfl (lkF hF) rfl (by decide)) ?_
     refine q1j (g:=30) 13 rfl Y17 (by decide) rfl rfl (fun G=>qi (v:=.pl _) rfl (lkF hF) rfl rfl rfl) ?_
     refine q1j (g:=30) 14 rfl Y17 (by decide) rfl rfl (fun G=>qc rfl (lk rfl rfl) rfl (by decide)) ?_
     refine q1j (g:=30) 15 rfl Y17 (by decide) rfl rfl (fun G=>qcw (cs:=[_,_,_,_,_,_,_]) rfl (lk rfl rfl) rfl rfl rfl rfl) ?_
     refine q7c (g:=30) 16 rfl Y17 (by decide) rfl rfl (fun _=>V2.callT (qki (rfs w k).graph x.spec _ hgl) rfl rfl) ?_
     refine q1h (g:=30) 17 rfl Y17 (by decide) rfl rfl (fun _=>q8e rfl) ?_
     refine q1h (g:=25) 18 rfl Y17 (by decide) rfl rfl (fun _=>q17 (v:=.bool _) rfl rfl) ?_
     refine Zto ?_
     exact Ztp
   ·refine qr (g:=25) 4 rfl Y17 (by decide) rfl rfl rfl ?_
    refine qr (g:=25) 5 rfl Y17 (by decide) rfl rfl rfl ?_
    refine qr (g:=25) 6 rfl Y17 (by decide) rfl rfl rfl ?_
    refine Zjg ?_
    refine Zjh ?_
    refine q2b (g:=30) 9 rfl Y17 (by decide) rfl rfl ?_
    refine q2b (g:=30) 10 rfl Y17 (by decide) rfl rfl ?_
    refine q2b (g:=30) 11 rfl Y17 (by decide) rfl rfl ?_
    refine q2b (g:=30) 12 rfl Y17 (by decide) rfl rfl ?_
    refine q2b (g:=30) 13 rfl Y17 (by decide) rfl rfl ?_
    refine q2b (g:=30) 14 rfl Y17 (by decide) rfl rfl ?_
    refine q2b (g:=30) 15 rfl Y17 (by decide) rfl rfl ?_
    refine q2b (g:=30) 16 rfl Y17 (by decide) rfl rfl ?_
    refine q2b (g:=30) 17 rfl Y17 (by decide) rfl rfl ?_
    refine Zc2 ?_
    refine aq0 19 rfl Y17 (by decide) (fun _=>q17 (v:=.bool _) rfl rfl) ?_
    exact q1i Y17 Yv (Out.mk (by (refine congrArg AV.bool ?_;(clear hB hst hr hF hF0;(simp_all;omega)))) Yb)
  refine Z1 ?_
  refine qa rfl (fun hc=>?_) (fun hc=>?_)
  ·rw [if_pos hc] at hst
   clear hc hr hx
   refine Zsu ?_
   refine Z6g ?_
   refine Znk ?_
   refine Ztg ?_
   refine Zth ?_
   refine Zti ?_
   refine Ztj ?_
   refine Ztk ?_
   refine Ztl ?_
   refine Ztm ?_
   refine aqs 8 rfl Y17 Yv Y11 (V2.callF (q7j (rfs w k) x.id 7 (rfs w k).now p _ hri.jw (hri.jw.do _ _ _) hri.iw.table (lkF hF)) rfl hF) ?_
   refine Z9q ?_
   refine Ztn ?_
   rw [List.set_set,← hst]
   refine Z5l ?_
   refine ⟨k+1,by omega,by omega,Y6,Fit.locF hB (by simp) Y1 (hB.heap.set p _ (q4l _ _))⟩
  ·rw [if_neg Y16] at hst
   clear hc hr hx
   rw [← hst]
   refine Z5l ?_
   refine ⟨k+1,by omega,by omega,Y6,Fit.locF hB (by simp) Y1 (hB.heap.set p _ (q4l _ _))⟩
 ·have:k=w.jobs.length:=by simp at hc;omega
  subst this
  rw [ql0]
  refine Z1 ?_
  exact q5d hB .nil rfl rfl (by simp) (hB.heap.set p _ (q4l _ _))
theorem q56 {g:List Thing} {use:List Int} {now til policy depth:Int}:∀ (ws:List Want) (s:PickS),(∀ h∈s.begun,h.things.length≤256)→∀ h∈(q5q g use now til policy depth s ws).1,h.things.length≤256
 | [],s,hs,h,hh=>hs h hh
 | w :: ws,s,hs,h,hh=>by
  have hl:=q6u g use s.l w.spec now til
  generalize hf:qt g use s.l w.spec now til=f at hl
  obtain ⟨t,th,ok⟩:=f
  rw [q7w hf] at hh
  split at hh
  ·exact q56 ws s hs h hh
  ·split at hh
   ·exact hs h hh
   ·split at hh
    ·exact q56 ws s hs h hh
    ·split at hh
     ·simp at hh
     ·split at hh
      ·refine q56 ws _ (fun x hx=>?_) h hh
       rcases List.mem_append.1 hx with hx | hx
       ·exact hs x hx
       ·simp only [List.mem_singleton] at hx
        subst hx
        exact hl
      ·exact q56 ws ⟨(q1f s.l ⟨w.id,th,t,q1p w.spec t⟩).1,s.begun,s.kept++[⟨w.id,th,t,q1p w.spec t⟩]⟩ hs h hh
theorem q72 (w:Inst):∀ h∈q2v w,h.things.length≤1000000:=by
 intro h hh
 unfold q2v q35 at hh
 split at hh
 ·simp at hh
 ·exact Nat.le_trans (q56 _ _ (by simp) h hh) (by decide)
theorem q9w {g:List Thing} {use:List Int} {now til policy depth:Int}:∀ (ws:List Want) (s:PickS),(q5q g use now til policy depth s ws).1.length≤s.begun.length+ws.length
 | [],s=>by simp [q5q]
 | w :: ws,s=>by
  generalize hf:qt g use s.l w.spec now til=f
  obtain ⟨t,th,ok⟩:=f
  rw [q7w hf]
  have h1:=q9w ws s (g:=g) (use:=use) (now:=now) (til:=til) (policy:=policy) (depth:=depth)
  split
  ·simp;omega
  ·split
   ·simp
   ·split
    ·simp;omega
    ·split
     ·simp
     ·split
      ·have:=q9w ws ⟨(q1f s.l ⟨w.id,th,t,q1p w.spec t⟩).1,s.begun++[⟨w.id,th,t,q1p w.spec t⟩],s.kept⟩ (g:=g) (use:=use) (now:=now) (til:=til) (policy:=policy) (depth:=depth)
       simp at this ⊢;omega
      ·have:=q9w ws ⟨(q1f s.l ⟨w.id,th,t,q1p w.spec t⟩).1,s.begun,s.kept++[⟨w.id,th,t,q1p w.spec t⟩]⟩ (g:=g) (use:=use) (now:=now) (til:=til) (policy:=policy) (depth:=depth)
       simp at this ⊢;omega
theorem qeb (w:Inst):(q2v w).length≤(q2q w).length:=by
 unfold q2v q35
 split
 ·simp
 ·exact Nat.le_trans (q9w _ _) (by simp)
theorem qb8 (l:List Job):(qy l).length≤l.length:=by
 unfold qy
 split
 ·rw [List.length_map,q3j]
  exact List.length_filter_le _ _
 ·simp
def bgn (w:Inst) (k:Nat):Inst:=((q2v w).take k).foldl (fun a h=>{ (wdo a h.id 3 a.now).1 with table:=(q1f (wdo a h.id 3 a.now).1.table h).1 }) w
theorem qr1 (w:Inst):bgn w (q2v w).length=q41 w:=by rw [bgn,List.take_length];rfl
theorem qmx {w:Inst} {k:Nat} {h:Held} (e:(q2v w)[k]?=some h):bgn w (k+1)=qlj (wdo (bgn w k) h.id 3 (bgn w k).now).1 (q1f (wdo (bgn w k) h.id 3 (bgn w k).now).1.table h).1:=by
 rw [bgn,bgn,List.take_add_one,e,List.foldl_append];rfl
theorem RI.bgn {w:Inst} (hw:RI w):∀ k,RI (bgn w k)
 | 0=>hw
 | k+1=>by
  cases e:(q2v w)[k]? with
  | none =>
   have hl:(q2v w).length≤k:=by simpa using e
   have:Av.bgn w (k+1)=Av.bgn w k:=by rw [Av.bgn,Av.bgn,List.take_of_length_le (by omega),List.take_of_length_le hl]
   rw [this]
   exact RI.bgn hw k
  | some h =>
   rw [qmx e]
   have h1:=(RI.bgn hw k).wdo h.id 3 (Av.bgn w k).now
   have h2:=q72 w h (List.mem_of_getElem? e)
   exact ⟨⟨h1.iw.graph,h1.iw.health,h1.iw.lease,h1.iw.jobs,h1.iw.table.add h2⟩,h1.jw⟩
theorem RI.begin {w:Inst} (hw:RI w):RI (q41 w):=by rw [← qr1];exact hw.bgn _
set_option maxHeartbeats 0 in
theorem qha (w:Inst) (p:Nat) (H:qj) (hw:RI w) (h20:w.jobs.length<20) (hid:H[p]?=some ⟨0,9,[q19 w]⟩):ACT Tryz.prog KD 142 [.pt p 0 0 0] H (Ret (.tup []) (H.set p ⟨0,9,[q19 (q41 w)]⟩)):=by
 have hpl:p<H.length:=(List.getElem?_eq_some_iff.1 hid).1
 have hF:=hid
 have hjw:=hw.jw
 have hrl:=qb8 w.jobs
 have hwl:(q2q w).length=(qy w.jobs).length:=by simp [q2q]
 refine ACT.body (N:=109) [] Tryz.func142 rfl rfl rfl (Nat.le_of_ble_eq_true rfl) fun B hB=>?_
 refine Z4s ?_
 refine q22 (k:=0) 2 8 rfl (by decide) rfl ?_
 refine q1k ?_
 refine Zp9 ?_
 refine Zpf ?_
 refine q13 (qjo _ _ Y1d Y1d) rfl (by decide) ?_
 refine Zf5 ?_
 refine Zr7 ?_
 refine Z1d ?_
 refine qm (G:=Nat) (fun k=>k≤(qy w.jobs).length) (fun k=>[(KT,KD.av),(0,.pt p 0 0 0),(2,.sl (Lid H.length 0) k 0 k k),(17,.pl ((qy w.jobs).map eI)),(18,.int .i64 ((qy w.jobs).length:Int)),(19,.int .i64 (k:Int))]) (fun k=>H++[⟨k,8,((q2q w).take k).map q5z⟩]) (fun k=>(qy w.jobs).length-k) 0 (Nat.zero_le _) Y6 (.inl rfl) ?_
 intro k hk
 refine Z5a ?_
 refine qa rfl (fun hc=>?_) (fun hc=>?_)
 ·have hlt:k<(qy w.jobs).length:=by simpa using hc
  obtain ⟨x,hx,hxl⟩:=qo hlt
  have hr:=qh eI hx
  have hwk:(q2q w)[k]?=some ⟨x,(q36 w.jobs x).1.spec⟩:=by rw [q2q,List.getElem?_map,hx];rfl
  have htk:=ql hwk
  clear hc
  refine Zjs ?_
  refine Zpa ?_
  refine Zpf ?_
  refine Z8 ?_
  refine Zpl ?_
  refine Z9u ?_
  refine Zlu ?_
  refine Z1q ?_
  refine Zlx ?_
  refine Zb2 ?_
  refine Z36 ?_
  refine Zt9 ?_
  refine ao1 (by decide) (V1.up (q4i (cs:=[.int _ _,.int _ _,.int _ _,.int _ _,.str _,.bool _,.int _ _,.int _ _]) rfl)) ?_
  refine ao2 Y11 (qbc (sz:=8) (v:=.agg (q5z ⟨x,(q36 w.jobs x).1.spec⟩)) (cs:=q5z ⟨x,(q36 w.jobs x).1.spec⟩) rfl (by decide) (by decide) rfl rfl rfl rfl rfl) ?_
  refine ao2 Y11 (q5e rfl rfl rfl rfl rfl (Src.pl (ys:=[q5z ⟨x,(q36 w.jobs x).1.spec⟩]) rfl (by simp)) rfl Y1c (by simp) Y1c Y1c) ?_
  refine Zb5 ?_
  try dsimp only [List.length_cons,List.length_nil,Nat.reduceAdd,AV.up,put,List.set_cons_zero]
  rw [show ((q2q w).take k).map q5z=((q2q w).take k).map q5z from rfl,List.take_of_length_le Y1c]
  refine Z5l ?_
  refine ⟨k+1,by omega,by omega,Y6,?_⟩
  rw [htk]
  refine Fit.loc hB Yu Y1 ?_
  intro o ho r hr
  simp only [List.mem_singleton] at ho
  subst ho
  simp only [List.mem_map] at hr
  obtain ⟨y,_,rfl⟩:=hr
  rfl
 ·have:k=(qy w.jobs).length:=by simp at hc;omega
  subst this
  rw [← hwl,List.take_length]
  have hwn:(q2q w).length≤1000000:=by omega
  clear hc
  refine Z1 ?_
  refine qu (ys:=(q2q w).map q5z) 2 rfl rfl rfl rfl Yg (by simp) (fun r hr=>by
   simp only [List.mem_map] at hr
   obtain ⟨y,_,rfl⟩:=hr
   rfl) ?_
  have w1:=hw.iw.graph
  have w6:=hw.iw.table
  have hul:(q31 w).length≤1000000:=qk8 _ _ _
  refine Zsm ?_
  try dsimp only [List.set_cons_zero,List.take_zero]
  refine Znk ?_
  refine Znl ?_
  refine Znm ?_
  refine Znn ?_
  refine Zno ?_
  refine Znp ?_
  refine qyj 6 rfl Y17 (by decide) (fun G=>V2.callT (q9d w p _ hw.iw (lkF hF)) rfl rfl) ?_
  refine Zoc ?_
  refine aqp 8 rfl Y17 (by decide) (fun G=>q1g rfl (lkF hF) rfl) ?_
  refine aqp 9 rfl Y17 (by decide) (fun G=>qc rfl (lkF hF) rfl (by decide)) ?_
  refine aqp 10 rfl Y17 (by decide) (fun G=>qc rfl (lkF hF) rfl (by decide)) ?_
  refine aqp 11 rfl Y17 (by decide) (fun G=>qi (v:=.pl _) rfl (lkF hF) rfl rfl rfl) ?_
  refine aq0 12 rfl Y17 (by decide) (fun _=>qd (v:=.pl _) rfl) ?_
  refine aq0 13 rfl Y17 (by decide) (fun _=>qd (v:=.pt _ _ _ _) rfl) ?_
  refine aqp 14 rfl Y17 (by decide) (fun G=>q1g rfl (lkF hF) rfl) ?_
  refine aqp 15 rfl Y17 (by decide) (fun G=>qc rfl (lkF hF) rfl (by decide)) ?_
  refine aqp 16 rfl Y17 (by decide) (fun G=>qc rfl (lkF hF) rfl (by decide)) ?_
  refine aqp 17 rfl Y17 (by decide) (fun G=>qi (v:=.int _ _) rfl (lkF hF) rfl rfl rfl) ?_
  refine aq0 18 rfl Y17 (by decide) (fun _=>qd (v:=.pt _ _ _ _) rfl) ?_
  refine aqp 19 rfl Y17 (by decide) (fun G=>q1g rfl (lkF hF) rfl) ?_
  refine aqp 20 rfl Y17 (by decide) (fun G=>qc rfl (lkF hF) rfl (by decide)) ?_
  refine aqp 21 rfl Y17 (by decide) (fun G=>qc rfl (lkF hF) rfl (by decide)) ?_
  refine aqp 22 rfl Y17 (by decide) (fun G=>qi (v:=.int _ _) rfl (lkF hF) rfl rfl rfl) ?_
  refine aq0 23 rfl Y17 (by decide) (fun _=>qd (v:=.pt _ _ _ _) rfl) ?_
  refine aqp 24 rfl Y17 (by decide) (fun G=>q1g rfl (lkF hF) rfl) ?_
  refine aqp 25 rfl Y17 (by decide) (fun G=>qc rfl (lkF hF) rfl (by decide)) ?_
  refine aqp 26 rfl Y17 (by decide) (fun G=>qc rfl (lkF hF) rfl (by decide)) ?_
  refine aqp 27 rfl Y17 (by decide) (fun G=>qi (v:=.int _ _) rfl (lkF hF) rfl rfl rfl) ?_
  refine aq0 28 rfl Y17 (by decide) (fun _=>qd (v:=.pt _ _ _ _) rfl) ?_
  refine aqp 29 rfl Y17 (by decide) (fun G=>q1g rfl (lkF hF) rfl) ?_
  refine aqp 30 rfl Y17 (by decide) (fun G=>qc rfl (lkF hF) rfl (by decide)) ?_
  refine aqp 31 rfl Y17 (by decide) (fun G=>qc rfl (lkF hF) rfl (by decide)) ?_
  refine aqp 32 rfl Y17 (by decide) (fun G=>qi (v:=.int _ _) rfl (lkF hF) rfl rfl rfl) ?_
  refine q48 33 rfl Y17 (by decide) (fun _=>V2.callT (qqs w.graph (q31 w) w.table (q2q w) w.now w.til w.policy w.depth _ w6 w1 hul hwn) rfl rfl) ?_
  refine aq0 34 rfl Y17 (by decide) (fun _=>qd (v:=.tup _) rfl) ?_
  refine aq0 35 rfl Y17 (by decide) (fun _=>q1m (v:=.pl _) rfl rfl) ?_
  refine aq0 36 rfl Y17 (by decide) (fun _=>q1m (v:=.pl _) rfl rfl) ?_
  refine aq0 37 rfl Y17 (by decide) (fun _=>q1m (v:=.int _ _) rfl rfl) ?_
  refine aq0 38 rfl Y17 (by decide) (fun _=>q14 (v:=.pl _) rfl) ?_
  refine aq0 39 rfl Y17 (by decide) (fun _=>q14 (v:=.pl _) rfl) ?_
  refine aq0 40 rfl Y17 (by decide) (fun _=>q14 (v:=.int _ _) rfl) ?_
  refine Zo0 ?_
  refine Z9h ?_
  have hF0:∀ k,(H.set p ⟨0,9,[q19 (bgn w k)]⟩)[p]?=some ⟨0,9,[q19 (bgn w k)]⟩:=fun k=>List.getElem?_set_self (List.getElem?_eq_some_iff.1 hid).1
  clear hk
  refine qm (G:=Nat) (fun k=>k≤(q2v w).length) (fun k=>[(0,.pt p 0 0 0),(79,.pl ((q2v w).map qg)),(80,.int .i64 ((q2v w).length:Int)),(81,.int .i64 (k:Int))]) (fun k=>H.set p ⟨0,9,[q19 (bgn w k)]⟩++[]) (fun k=>(q2v w).length-k) 0 (Nat.zero_le _) (by refine .cons rfl (.cons rfl (.cons ?_ (.cons rfl .nil)));show AV.int .i64 _=_;rw [List.length_map];rfl) (by rw [show bgn w 0=w from rfl,q86 hid];exact Fit.loc hB rfl Y1 (fun o ho=>by simp at ho)) ?_
  intro k hk
  have hri:=hw.bgn k
  have hwl2:=qeb w
  clear hF
  have hF:=hF0 k
  refine Z5a ?_
  refine qa rfl (fun hc=>?_) (fun hc=>?_)
  ·have hlt:k<(q2v w).length:=by simpa using hc
   obtain ⟨x,hx,hxl⟩:=qo hlt
   have hr:=qh qg hx
   have hxw:=q72 w x hxl
   have hst:=qmx hx
   have hri1:=hri.wdo x.id 3 (bgn w k).now
   clear hc
   refine Zi9 ?_
   refine Zd3 ?_
   clear hr hx
   refine Z1 ?_
   refine Zsu ?_
   refine Z6g ?_
   refine Znk ?_
   refine Ztg ?_
   refine Zth ?_
   refine Zti ?_
   refine Ztj ?_
   refine Ztk ?_
   refine Ztl ?_
   refine Ztm ?_
   refine aqs 8 rfl Y17 Yv Y11 (V2.callF (q7j (bgn w k) x.id 3 (bgn w k).now p _ hri.jw (hri.jw.do _ _ _) hri.iw.table (lkF hF)) rfl hF) ?_
   refine Z9q ?_
   refine Ztn ?_
   rw [List.set_set]
   generalize (wdo (bgn w k) x.id 3 (bgn w k).now).1=a1 at *
   clear hF
   have hF:(H.set p ⟨0,9,[q19 a1]⟩)[p]?=some ⟨0,9,[q19 a1]⟩:=List.getElem?_set_self (List.getElem?_eq_some_iff.1 hid).1
   have hat:=hri1.iw.table
   rw [show (H.set p ⟨0,9,[q19 (bgn w k)]⟩).length=(H.set p ⟨0,9,[q19 a1]⟩).length by rw [List.length_set,List.length_set]]
   refine Z1 ?_
   refine Ztq ?_
   refine Z6g ?_
   refine Znk ?_
   refine aq0 1 rfl Y17 (by decide) (fun _=>qd (v:=.pt _ _ _ _) rfl) ?_
   refine aqp 2 rfl Y17 (by decide) (fun G=>q1g rfl (lkF hF) rfl) ?_
   refine Znn ?_
   refine Zs4 ?_
   refine aqp 5 rfl Y17 (by decide) (fun G=>qi (v:=.pl _) rfl (lkF hF) rfl rfl rfl) ?_
   refine aqp 6 rfl Y17 (by decide) (fun G=>q2h rfl (lk rfl rfl) rfl rfl rfl) ?_
   refine q48 7 rfl Y17 (by decide) (fun _=>V2.call (qmw a1.table x _ hat hxw) rfl) ?_
   refine aq0 8 rfl Y17 (by decide) (fun _=>qd (v:=.tup _) rfl) ?_
   refine Zt4 ?_
   refine aq0 10 rfl Y17 (by decide) (fun _=>q1m (v:=.int _ _) rfl rfl) ?_
   refine qv9 [13,12,11] 11 rfl Y17 (by decide) (fun G=>q1g rfl (lkF hF) rfl) ?_
   refine qv9 [13,12] 12 rfl Y17 (by decide) (fun G=>qc rfl (lkF hF) rfl (by decide)) ?_
   refine Znx ?_
   refine aqs 14 rfl Y17 Yv Y1b (q6e (r':=q19 (qlj a1 (q1f a1.table x).1)) rfl hF rfl rfl rfl rfl rfl (Nat.le_of_ble_eq_true rfl) rfl) ?_
   refine Zf2 ?_
   simp only [List.set_cons_zero,List.set_set]
   rw [← hst]
   refine Z5l ?_
   refine ⟨k+1,by omega,by omega,Y6,Fit.locF hB (by simp) Y1 (hB.heap.set p _ (q4l _ _))⟩
  ·have:k=(q2v w).length:=by simp at hc;omega
   subst this
   rw [qr1]
   refine Z1 ?_
   exact q5d hB .nil rfl rfl (by simp) (hB.heap.set p _ (q4l _ _))
end Go.Av
namespace Go.Av
theorem qef (l:List Job) (id what at_:Int):(q1n l id what at_).1.length=l.length:=by
 unfold q1n
 split
 ·rfl
 ·split
  ·rfl
  ·exact List.length_set
theorem q8a (w:Inst) (id what at_:Int):(wdo w id what at_).1.jobs.length=w.jobs.length:=by
 unfold wdo
 split
 ·rfl
 ·split
  ·exact qef _ _ _ _
  ·exact qef _ _ _ _
theorem q6j {α:Type} {f:Inst→α→Inst} (hf:∀ a x,(f a x).jobs.length=a.jobs.length):∀ (l:List α) (w:Inst),(l.foldl f w).jobs.length=w.jobs.length
 | [],_=>rfl
 | x :: l,w=>by rw [List.foldl_cons,q6j hf l,hf]
theorem qb3 (w:Inst):(q2w w).jobs.length=w.jobs.length:=q6j (fun a x=>by split;rfl;exact q8a _ _ _ _) _ _
theorem qb7 (w:Inst):(q3r w).jobs.length=w.jobs.length:=q6j (fun a x=>by split;exact q8a _ _ _ _;rfl) _ _
theorem ql5 (w:Inst):(q41 w).jobs.length=w.jobs.length:=by
 unfold q41
 generalize q2v w=l
 refine q6j (fun a x=>?_) l w
 show (wdo a x.id 3 a.now).1.jobs.length=_
 exact q8a a x.id 3 a.now
theorem q6l (w:Inst):(q3q w).jobs.length=w.jobs.length:=by rw [q3q,ql5,qb7,qb3]
def tck (i:Inst) (now:Int) (k:Nat):Inst:=((q1x i.table now).2.take k).foldl (fun a h=>(wdo a h.id 5 h.to).1) { i with now:=now }
theorem qk3 (i:Inst) (now:Int):tck i now (q1x i.table now).2.length=(q1x i.table now).2.foldl (fun a h=>(wdo a h.id 5 h.to).1) { i with now:=now }:=by rw [tck,List.take_length]
theorem quc {i:Inst} {now:Int} {k:Nat} {h:Held} (e:(q1x i.table now).2[k]?=some h):tck i now (k+1)=(wdo (tck i now k) h.id 5 h.to).1:=by
 rw [tck,tck,List.take_add_one,e,List.foldl_append];rfl
theorem RI.now {i:Inst} (h:RI i) (now:Int):RI { i with now:=now }:=⟨⟨h.iw.graph,h.iw.health,h.iw.lease,h.iw.jobs,h.iw.table⟩,h.jw⟩
theorem RI.tck {i:Inst} (h:RI i) (now:Int) (k:Nat):RI (tck i now k):=RI.foldl (fun a x ha=>ha.wdo _ _ _) _ (h.now now)
theorem qmq (i:Inst) (now:Int) (k:Nat):(tck i now k).jobs.length=i.jobs.length:=q6j (fun a x=>q8a _ _ _ _) _ _
theorem qiu (l:List Held) (now:Int):(q1x l now).2.length≤l.length:=by
 unfold q1x
 split
 ·exact List.length_filter_le _ _
 ·simp
theorem JW.add {l:List Job} (h:JW l) (s:Spec) {needs:List Int} (now:Int) (hn:needs.length≤1000000) (hl:l.length<1000000):JW (q18 l s needs now).1:=by
 have key:∀ id,JW (l++[⟨id,s,needs,0,now,0,0⟩]):=fun id=>⟨by simp;omega,fun j hj=>by
  rcases List.mem_append.1 hj with hj | hj
  ·exact h.2 j hj
  ·simp only [List.mem_singleton] at hj
   subst hj
   exact hn⟩
 unfold q18
 repeat (first | exact h | exact key _ | split)
theorem qc0 (l:List Job) (s:Spec) (needs:List Int) (now:Int):(q18 l s needs now).1.length≤l.length+1:=by
 unfold q18
 split
 ·simp
 ·split
  ·simp
  ·split
   ·simp
   ·split
    ·simp
    ·simp
theorem RI.jobs {i:Inst} (h:RI i) {l:List Job} (hl:JW l):RI { i with jobs:=l }:=⟨⟨h.iw.graph,h.iw.health,h.iw.lease,hl.1,h.iw.table⟩,hl⟩
theorem RI.lend {i:Inst} (h:RI i) {l:List Int} (til:Int) (hl:l.length≤1000000):RI { i with lease:=l,til:=til }:=⟨⟨h.iw.graph,h.iw.health,hl,h.iw.jobs,h.iw.table⟩,h.jw⟩
theorem qvi (g:List Thing) (h:List Int) (n how:Int):(q4s g h n how).1.length=h.length:=by
 unfold q4s
 split
 ·rfl
 ·split
  ·rfl
  ·exact List.length_set
theorem RI.mark {i:Inst} (h:RI i) (n how:Int):RI { i with health:=(q4s i.graph i.health n how).1 }:=⟨⟨h.iw.graph,by show (q4s _ _ _ _).1.length≤_;rw [qvi];exact h.iw.health,h.iw.lease,h.iw.jobs,h.iw.table⟩,h.jw⟩
end Go.Av
namespace Go.Av
open Go.Proofs
theorem V2.callTF {P:Program} {N:Nat} {env:Env} {K:Know} {H0 L:qj} {ty:TypeId} {f p:Nat} {xs:Array Operand} {ts:Array TypeId} {vs:List AV} {v:AV} {o o0:AObj} [FnI P f] (hac:ACT P K f vs (H0++L) (Ret v ((H0++L).set p o))) (hvs:xs.toList.map (aev env)=vs) (hk:get env KT=K.av) (hp:H0[p]?=some o0) :
  V2 P N (.call { callee:=.value (.func f),args:=xs,argTypes:=ts }) ty env (H0++L) v (H0.set p o++L):=by
 have:=V2.callT (N:=N) (ty:=ty) (ts:=ts) hac hvs hk
 rwa [stF hp] at this
theorem V2.callTS {P:Program} {N:Nat} {env:Env} {K:Know} {H0 L:qj} {ty:TypeId} {f k:Nat} {xs:Array Operand} {ts:Array TypeId} {vs:List AV} {v:AV} {o:AObj} [FnI P f] (hac:ACT P K f vs (H0++L) (Ret v ((H0++L).set (Lid H0.length k) o))) (hvs:xs.toList.map (aev env)=vs) (hk:get env KT=K.av) :
  V2 P N (.call { callee:=.value (.func f),args:=xs,argTypes:=ts }) ty env (H0++L) v (H0++L.set k o):=by
 have:=V2.callT (N:=N) (ty:=ty) (ts:=ts) hac hvs hk
 rwa [st rfl] at this
set_option maxHeartbeats 0 in
theorem q6z (w:Inst) (p:Nat) (H:qj) (hw:RI w) (h20:w.jobs.length<20) (hid:H[p]?=some ⟨0,9,[q19 w]⟩):ACT Tryz.prog KD 87 [.pt p 0 0 0] H (Ret (.agg (q19 (q3q w))) (H.set p ⟨0,9,[q19 (q3q w)]⟩)):=by
 have hpl:p<H.length:=(List.getElem?_eq_some_iff.1 hid).1
 have hF0:∀ w,(H.set p ⟨0,9,[q19 w]⟩)[p]?=some ⟨0,9,[q19 w]⟩:=fun w=>List.getElem?_set_self hpl
 refine ACT.body (N:=13) [.cell 2 27] Tryz.func87 rfl rfl rfl (Nat.le_of_ble_eq_true rfl) fun B hB=>?_
 refine Z2 ?_
 refine Zoi ?_
 refine qf ?_
 try dsimp only [put,List.length_nil,List.nil_append]
 refine Zpa ?_
 refine ao2 Y11 (V2.callTF (qgj w p _ hw (lkF hid)) rfl rfl hid) ?_
 refine Z4q ?_
 rw [show H.length=(H.set p ⟨0,9,[q19 (q2w w)]⟩).length by rw [List.length_set]]
 refine Zpa ?_
 refine ao2 Y11 (V2.callTF (qgw (q2w w) p _ hw.broken (lkF (hF0 _))) rfl rfl (hF0 _)) ?_
 refine Z4q ?_
 rw [List.set_set]
 refine Zpa ?_
 refine ao2 Y11 (V2.callTF (qha (q3r (q2w w)) p _ hw.broken.refuse (by rw [qb7,qb3];exact h20) (lkF (hF0 _))) rfl rfl (hF0 _)) ?_
 refine Z4q ?_
 rw [List.set_set]
 have hF:=hF0 (q41 (q3r (q2w w)))
 rw [show q3q w=q41 (q3r (q2w w)) from rfl]
 generalize q41 (q3r (q2w w))=z at *
 rw [show (H.set p ⟨0,9,[q19 (q2w w)]⟩).length=(H.set p ⟨0,9,[q19 z]⟩).length by rw [List.length_set,List.length_set]]
 refine Zpa ?_
 refine Zpc ?_
 refine Zff ?_
 refine Zok ?_
 refine Z7y ?_
 refine Z1 ?_
 exact q5d hB (q7h rfl (lk rfl rfl) rfl rfl rfl .nil) rfl rfl (by simp) (hB.heap.set p _ (q4l _ _))
def qzr (i:Inst) (now:Int):Inst:=⟨i.graph,i.health,i.lease,i.til,i.jobs,i.table,now,i.policy,i.depth⟩
set_option maxHeartbeats 0 in
theorem qhl (i:Inst) (now:Int) (H:qj) (hw:RI i) (h20:i.jobs.length<20):ACT Tryz.prog KD 32 [.agg (q19 i),.int .i64 now] H (Ret (.tup [.agg (q19 (q40 i now).1),.int .i64 (q40 i now).2]) H):=by
 have hiw:=hw.iw
 have hjw:=hw.jw
 have w6:=hiw.table
 have w7:=w6.1
 refine ACT.body (N:=61) [.cell 4 27,.tmp 5] Tryz.func32 rfl rfl rfl (Nat.le_of_ble_eq_true rfl) fun B hB=>?_
 refine Ztr ?_
 refine qn 24 (.bool (!q2c i||!tm now||decide (now<i.now))) ?_ ?_
 ·refine Z4b ?_
  refine Zo1 ?_
  refine Z26 ?_
  refine qb rfl rfl (fun hg3=>?_) (fun hg3=>?_)
  ·refine Z3l ?_
   refine Z5g ?_
   exact Zt1
  ·refine Zj ?_
   refine Z5y ?_
   refine Z66 ?_
   refine qb rfl rfl (fun hg8=>?_) (fun hg8=>?_)
   ·refine Z5g ?_
    exact Zt1
   ·refine Z8t ?_
    refine Zr ?_
    exact Zt1
 refine Z1 ?_
 refine qa rfl (fun hc=>?_) (fun hc=>?_)
 ·have he:q40 i now=(i,1):=by rw [q40,if_pos hc]
  rw [he]
  refine Zts ?_
  exact Ztt
 have he:q40 i now=(q3q ((q1x i.table now).2.foldl (fun a h=>(wdo a h.id 5 h.to).1) { i with now:=now }),0):=by rw [q40,if_neg Y16]
 rw [he,← qk3]
 clear hc he
 refine Zts ?_
 refine Zo6 ?_
 refine Zpa ?_
 refine Z8 ?_
 refine Zqj ?_
 refine Z36 ?_
 refine ao2 Y1b (q25 (r':=q19 (qzr i now)) rfl rfl rfl rfl rfl rfl rfl rfl (Nat.le_of_ble_eq_true rfl) rfl) ?_
 refine Zpw ?_
 have hol:=qiu i.table now
 refine Zpa ?_
 refine Zqj ?_
 refine Z52 ?_
 refine Z8 ?_
 refine q13 (qr5 _ _ _ Y1d) rfl (by decide) ?_
 refine Zph ?_
 refine Zpg ?_
 refine Z4w ?_
 refine Z4w ?_
 refine Z55 ?_
 rw [show (qzr i now).table=i.table from rfl]
 refine Z9h ?_
 refine qm (G:=Nat) (fun k=>k≤(q1x i.table now).2.length) (fun k=>[(KT,KD.av),(4,.pt (Lid H.length 1) 0 0 0),(6,.pt (Lid H.length 2) 0 0 0),(46,.pl ((q1x i.table now).2.map qg)),(47,.int .i64 ((q1x i.table now).2.length:Int)),(48,.int .i64 (k:Int))]) (fun k=>H++[⟨0,9,[q19 i]⟩,⟨0,9,[z9]⟩,⟨0,9,[q19 (tck i now k)]⟩]) (fun k=>(q1x i.table now).2.length-k) 0 (Nat.zero_le _) Y6 (.inl rfl) ?_
 intro k hk
 have hri:=hw.tck now k
 refine Z5a ?_
 refine qa rfl (fun hc=>?_) (fun hc=>?_)
 ·have hlt:k<(q1x i.table now).2.length:=by simpa using hc
  obtain ⟨x,hx,hxl⟩:=qo hlt
  have hr:=qh qg hx
  have hst:=quc hx
  clear hc
  refine Zi9 ?_
  refine Zen ?_
  refine Zpa ?_
  refine Z7h ?_
  refine ao2 Y11 (V2.callS (q7j (tck i now k) x.id 5 x.to (Lid H.length 2) _ hri.jw (hri.jw.do _ _ _) hri.iw.table (lk rfl rfl)) rfl) ?_
  refine qf ?_
  refine Zpy ?_
  rw [← hst]
  refine Z5l ?_
  refine ⟨k+1,by omega,by omega,Y6,Fit.loc hB rfl Y1 ?_⟩
  intro o ho r hr
  simp only [List.mem_cons,List.not_mem_nil,or_false] at ho
  rcases ho with rfl | rfl | rfl
  ·simp only [List.mem_singleton] at hr;subst hr;rfl
  ·simp only [List.mem_singleton] at hr;subst hr;rfl
  ·simp only [List.mem_singleton] at hr;subst hr;rfl
 ·have:k=(q1x i.table now).2.length:=by simp at hc;omega
  subst this
  clear hc
  have h20':=qmq i now (q1x i.table now).2.length
  generalize tck i now (q1x i.table now).2.length=z at *
  refine Zpa ?_
  refine Ztu ?_
  refine Zol ?_
  refine Zp8 ?_
  exact Zi2
def qpm (i:Inst) (l:List Job):Inst:=⟨i.graph,i.health,i.lease,i.til,l,i.table,i.now,i.policy,i.depth⟩
set_option maxHeartbeats 0 in
theorem q8q (i:Inst) (s:Spec) (needs:List Int) (H:qj) (hw:RI i) (h20:i.jobs.length<19) (hn:needs.length≤1000000):ACT Tryz.prog KD 49 [.agg (q19 i),.agg (q2i s),.pl (needs.map eI)] H (Ret (.tup [.agg (q19 (q26 i s needs).1),.int .i64 (q26 i s needs).2.1,.int .i64 (q26 i s needs).2.2]) H):=by
 have hiw:=hw.iw
 have hjw:=hw.jw
 refine ACT.body (N:=52) [.cell 6 27,.tmp 7,.tmp 8] Tryz.func49 rfl rfl rfl (Nat.le_of_ble_eq_true rfl) fun B hB=>?_
 refine Zlt ?_
 refine Z31 ?_
 refine Zoi ?_
 refine Z16 ?_
 refine Z7u ?_
 refine Z4c ?_
 refine Zo1 ?_
 refine Z4d ?_
 refine qa rfl (fun hc=>?_) (fun hc=>?_)
 ·have he:q26 i s needs=(i,0,1):=by rw [q26,if_pos hc]
  rw [he]
  refine Zts ?_
  exact Zty
 have hr0:¬ (!q2c i)=true:=by rw [hc];decide
 clear hc
 refine Zts ?_
 refine Zo6 ?_
 refine Z1 ?_
 refine Ztz ?_
 refine Za9 ?_
 refine Znk ?_
 refine Zu0 ?_
 refine Zmz ?_
 refine Zpq ?_
 refine Zpr ?_
 refine aqp 5 rfl Y17 (by decide) (fun G=>q2h rfl (lk rfl rfl) rfl rfl rfl) ?_
 refine Zu1 ?_
 refine Zoc ?_
 refine Zod ?_
 refine Zoe ?_
 refine Zof ?_
 refine Zog ?_
 refine q48 12 rfl Y17 (by decide) (fun _=>V2.call (qqa i.jobs s needs i.now _ hjw hn) rfl) ?_
 refine Zu2 ?_
 refine Zu3 ?_
 refine Zu4 ?_
 refine aq0 16 rfl Y17 (by decide) (fun _=>q1m (v:=.int _ _) rfl rfl) ?_
 refine Znz ?_
 refine aq0 18 rfl Y17 (by decide) (fun _=>q14 (v:=.int _ _) rfl) ?_
 refine aq0 19 rfl Y17 (by decide) (fun _=>q14 (v:=.int _ _) rfl) ?_
 refine Zo0 ?_
 refine Zaz ?_
 refine qa rfl (fun hc=>?_) (fun hc=>?_)
 ·have hne:(q18 i.jobs s needs i.now).2.2≠0:=by simpa using hc
  have he:q26 i s needs=(i,0,(q18 i.jobs s needs i.now).2.2):=by rw [q26,if_neg hr0,if_pos hne]
  rw [he]
  refine Zts ?_
  refine Z8 ?_
  exact Zty
 have hne:¬ (q18 i.jobs s needs i.now).2.2≠0:=by simpa using hc
 have he:q26 i s needs=(q3q (qpm i (q18 i.jobs s needs i.now).1),(q18 i.jobs s needs i.now).2.1,0):=by rw [q26,if_neg hr0,if_neg hne];rfl
 rw [he]
 clear hc he hne
 have hal:=qc0 i.jobs s needs i.now
 have hri:RI (qpm i (q18 i.jobs s needs i.now).1):=hw.jobs (hjw.add s i.now hn (by omega))
 have hjl:(qpm i (q18 i.jobs s needs i.now).1).jobs.length<20:=by show (q18 i.jobs s needs i.now).1.length<20;omega
 refine Zpa ?_
 refine Z4n ?_
 refine Zqj ?_
 refine Z36 ?_
 refine ao2 Y1b (q25 (r':=q19 (qpm i (q18 i.jobs s needs i.now).1)) rfl rfl rfl rfl rfl rfl rfl rfl (Nat.le_of_ble_eq_true rfl) rfl) ?_
 refine Zpw ?_
 refine Zpa ?_
 refine ao2 Y11 (V2.callTS (q6z (qpm i (q18 i.jobs s needs i.now).1) (Lid H.length 3) _ hri hjl (lk rfl rfl)) rfl rfl) ?_
 refine Z8 ?_
 refine Ztv ?_
 refine Zp8 ?_
 refine Z1 ?_
 exact Ztx
set_option maxHeartbeats 0 in
theorem qxi (i:Inst) (id what:Int) (H:qj) (hw:RI i) (h20:i.jobs.length<20):ACT Tryz.prog KD 59 [.agg (q19 i),.int .i64 id,.int .i64 what] H (Ret (.tup [.agg (q19 (ido i id what).1),.int .i64 (ido i id what).2]) H):=by
 have hiw:=hw.iw
 have hjw:=hw.jw
 refine ACT.body (N:=41) [.cell 6 27,.tmp 7] Tryz.func59 rfl rfl rfl (Nat.le_of_ble_eq_true rfl) fun B hB=>?_
 refine Ztr ?_
 refine qn 18 (.bool (!q2c i||!([1,2,4,6]:List Int).contains what)) ?_ ?_
 ·refine Z4b ?_
  refine Zo1 ?_
  refine Z26 ?_
  refine qb rfl rfl (fun hg3=>?_) (fun hg3=>?_)
  ·refine Z5g ?_
   exact Zgu
  ·refine q5b rfl rfl (by decide) (qvz (sz:=1) (([1,2,4,6]:List Int).map eI) rfl (by decide) (by decide) (by decide) rfl rfl (by simp) rfl (by simp [AV.bels,AV.bel])) ?_
   refine Zj ?_
   refine q5b rfl rfl (by decide) (V2.call (q7n [1,2,4,6] what _ (by decide)) rfl) ?_
   refine Z6c ?_
   exact Zgu
 refine Z1 ?_
 refine qa rfl (fun hc=>?_) (fun hc=>?_)
 ·have he:ido i id what=(i,1):=by rw [ido,if_pos hc]
  rw [he]
  refine Zts ?_
  exact Ztt
 have hr0:¬ (!q2c i||!([1,2,4,6]:List Int).contains what)=true:=by rw [hc];decide
 clear hc
 refine Zts ?_
 refine Zo6 ?_
 refine Zpa ?_
 refine Z30 ?_
 refine Zp9 ?_
 refine Zqj ?_
 refine Z37 ?_
 refine ao2 Y11 (V2.callS (q7j i id what i.now (Lid H.length 2) _ hjw (hjw.do _ _ _) hiw.table (lk rfl rfl)) rfl) ?_
 refine Z4 ?_
 try dsimp only [Nat.reduceAdd,put,List.set_cons_succ,List.set_cons_zero]
 refine Zaz ?_
 refine qa rfl (fun hc=>?_) (fun hc=>?_)
 ·have hne:(wdo i id what i.now).2≠0:=by simpa using hc
  have he:ido i id what=(i,(wdo i id what i.now).2):=by rw [ido,if_neg hr0,if_pos hne]
  rw [he]
  refine Zts ?_
  refine Z8 ?_
  exact Ztt
 have hne:¬ (wdo i id what i.now).2≠0:=by simpa using hc
 have he:ido i id what=(q3q (wdo i id what i.now).1,0):=by rw [ido,if_neg hr0,if_neg hne]
 rw [he]
 clear hc he hne
 have hri:=hw.wdo id what i.now
 have hjl:=q8a i id what i.now
 generalize (wdo i id what i.now).1=z at *
 refine Zpa ?_
 refine Ztu ?_
 refine Zol ?_
 refine Zp8 ?_
 exact Zi2
def qyc (i:Inst) (l:List Int):Inst:=⟨i.graph,i.health,l,i.til,i.jobs,i.table,i.now,i.policy,i.depth⟩
def qv4 (i:Inst) (l:List Int) (til:Int):Inst:=⟨i.graph,i.health,l,til,i.jobs,i.table,i.now,i.policy,i.depth⟩
set_option maxHeartbeats 0 in
theorem qq1 (i:Inst) (lease:List Int) (til:Int) (H:qj) (hw:RI i) (h20:i.jobs.length<20) (hl:lease.length≤1000000):ACT Tryz.prog KD 60 [.agg (q19 i),.pl (lease.map eI),.int .i64 til] H (Ret (.tup [.agg (q19 (q4p i lease til).1),.int .i64 (q4p i lease til).2]) H):=by
 have hiw:=hw.iw
 have hjw:=hw.jw
 have w1:=hiw.graph
 refine ACT.body (N:=43) [.cell 6 27,.tmp 7] Tryz.func60 rfl rfl rfl (Nat.le_of_ble_eq_true rfl) fun B hB=>?_
 refine Ztr ?_
 refine qn 23 (.bool (!q2c i||!q27 i.graph lease||!tm til)) ?_ ?_
 ·refine Z4b ?_
  refine Zo1 ?_
  refine Z26 ?_
  refine qb rfl rfl (fun hg3=>?_) (fun hg3=>?_)
  ·refine Z3j ?_
   refine Z40 ?_
   exact Zt1
  ·refine Z68 ?_
   refine Zc3 ?_
   refine Zmp ?_
   refine Z66 ?_
   refine qb rfl rfl (fun hg10=>?_) (fun hg10=>?_)
   ·refine Z3z ?_
    exact Zt1
   ·refine Zj ?_
    refine Z5y ?_
    refine Z6c ?_
    exact Zt1
 refine Z1 ?_
 refine qa rfl (fun hc=>?_) (fun hc=>?_)
 ·have he:q4p i lease til=(i,1):=by rw [q4p,if_pos hc]
  rw [he]
  refine Zts ?_
  exact Ztt
 have he:q4p i lease til=(q3q (qv4 i lease til),0):=by rw [q4p,if_neg Y16];rfl
 rw [he]
 clear hc he
 have hri:RI (qv4 i lease til):=hw.lend til hl
 refine Zts ?_
 refine Zo6 ?_
 refine Zpa ?_
 refine Zp9 ?_
 refine Z4n ?_
 refine q13 (q3a _ _ (by omega)) rfl (by decide) ?_
 refine Z8 ?_
 refine Zqj ?_
 refine Z36 ?_
 refine ao2 Y1b (q25 (r':=q19 (qyc i lease)) rfl rfl rfl rfl rfl rfl rfl rfl (Nat.le_of_ble_eq_true rfl) rfl) ?_
 refine Zqj ?_
 refine Z36 ?_
 refine ao2 Y1b (q25 (r':=q19 (qv4 i lease til)) rfl rfl rfl rfl rfl rfl rfl rfl (Nat.le_of_ble_eq_true rfl) rfl) ?_
 refine Zpw ?_
 refine Zpa ?_
 refine ao2 Y11 (V2.callTS (q6z (qv4 i lease til) (Lid H.length 2) _ hri h20 (lk rfl rfl)) rfl rfl) ?_
 refine Zol ?_
 refine Zp8 ?_
 exact Zi2
def qfy (i:Inst) (h:List Int):Inst:=⟨i.graph,h,i.lease,i.til,i.jobs,i.table,i.now,i.policy,i.depth⟩
set_option maxHeartbeats 0 in
theorem qqe (i:Inst) (n how:Int) (H:qj) (hw:RI i) (h20:i.jobs.length<20):ACT Tryz.prog KD 61 [.agg (q19 i),.int .i64 n,.int .i64 how] H (Ret (.tup [.agg (q19 (q4c i n how).1),.int .i64 (q4c i n how).2]) H):=by
 have hiw:=hw.iw
 have hjw:=hw.jw
 have w1:=hiw.graph
 have w2:=hiw.health
 refine ACT.body (N:=48) [.cell 6 27,.tmp 7] Tryz.func61 rfl rfl rfl (Nat.le_of_ble_eq_true rfl) fun B hB=>?_
 refine Zpp ?_
 refine Z4 ?_
 refine Z7u ?_
 refine Z4c ?_
 refine Zo1 ?_
 refine Z4d ?_
 refine qa rfl (fun hc=>?_) (fun hc=>?_)
 ·have he:q4c i n how=(i,1):=by rw [q4c,if_pos hc]
  rw [he]
  refine Zts ?_
  exact Ztt
 have hr0:¬ (!q2c i)=true:=by rw [hc];decide
 clear hc
 refine Zts ?_
 refine Zo6 ?_
 refine Z1 ?_
 refine Zly ?_
 refine Znk ?_
 refine Zu0 ?_
 refine Zmz ?_
 refine Zpq ?_
 refine Zpr ?_
 refine Znp ?_
 refine aqp 6 rfl Y17 (by decide) (fun G=>q1g rfl (lk rfl rfl) rfl) ?_
 refine Zf0 ?_
 refine aqp 8 rfl Y17 (by decide) (fun G=>qc rfl (lk rfl rfl) rfl (by decide)) ?_
 refine aqp 9 rfl Y17 (by decide) (fun G=>qi (v:=.pl _) rfl (lk rfl rfl) rfl rfl rfl) ?_
 refine Zu5 ?_
 refine Zsq ?_
 refine q48 12 rfl Y17 (by decide) (fun _=>V2.call (qoj i.graph i.health n how _ w1 w2) rfl) ?_
 refine Zu2 ?_
 refine Zu3 ?_
 refine Zu4 ?_
 refine Zs5 ?_
 refine aq0 17 rfl Y17 (by decide) (fun _=>q14 (v:=.int _ _) rfl) ?_
 refine Zo0 ?_
 refine Zaz ?_
 refine qa rfl (fun hc=>?_) (fun hc=>?_)
 ·have hne:(q4s i.graph i.health n how).2≠0:=by simpa using hc
  have he:q4c i n how=(i,(q4s i.graph i.health n how).2):=by rw [q4c,if_neg hr0,if_pos hne]
  rw [he]
  refine Zts ?_
  refine Z8 ?_
  exact Ztt
 have hne:¬ (q4s i.graph i.health n how).2≠0:=by simpa using hc
 have he:q4c i n how=(q3q (qfy i (q4s i.graph i.health n how).1),0):=by rw [q4c,if_neg hr0,if_neg hne];rfl
 rw [he]
 clear hc he hne
 have hri:RI (qfy i (q4s i.graph i.health n how).1):=hw.mark n how
 refine Zpa ?_
 refine Z4n ?_
 refine Zqj ?_
 refine Z36 ?_
 refine ao2 Y1b (q25 (r':=q19 (qfy i (q4s i.graph i.health n how).1)) rfl rfl rfl rfl rfl rfl rfl rfl (Nat.le_of_ble_eq_true rfl) rfl) ?_
 refine Zpw ?_
 refine Zpa ?_
 refine ao2 Y11 (V2.callTS (q6z (qfy i (q4s i.graph i.health n how).1) (Lid H.length 2) _ hri h20 (lk rfl rfl)) rfl rfl) ?_
 refine Zol ?_
 refine Zp8 ?_
 exact Zi2
set_option maxHeartbeats 0 in
theorem qi8 (a b:List Thing) (H:qj) (ha:a.length≤1000000000):AC Tryz.prog 33 [.pl (a.map qq),.pl (b.map qq)] H (Ret (.bool (decide (a=b))) H):=by
 refine AC.body (N:=26) [.tmp 4] Tryz.func33 rfl rfl rfl (Nat.le_of_ble_eq_true rfl) fun B hB=>?_
 refine Z8v ?_
 refine Z8w ?_
 refine Z8x ?_
 refine qa rfl (fun hc=>?_) (fun hc=>?_)
 ·have hne:a.length≠b.length:=by simp at hc;omega
  have he:decide (a=b)=false:=decide_eq_false (fun e=>hne (by rw [e]))
  rw [he]
  exact Z5m
 have hl:a.length=b.length:=by simp at hc;omega
 clear hc
 refine Z1e ?_
 refine qm (G:=Nat) (fun k=>k≤a.length∧a.take k=b.take k) (fun k=>[(0,.pl (a.map qq)),(1,.pl (b.map qq)),(5,.int .i64 (k:Int))]) (fun _=>H++[]) (fun k=>a.length-k) 0 ⟨Nat.zero_le _,by simp⟩ Y6 (Fit.refl _ _) ?_
 rintro k ⟨hk,ht⟩
 refine Z8z ?_
 refine qa rfl (fun hc=>?_) (fun hc=>?_)
 ·have hlt:k<a.length:=by simpa using hc
  obtain ⟨x,hx,_⟩:=qo hlt
  obtain ⟨y,hy,_⟩:=qo (l:=b) (k:=k) (by omega)
  have hr1:=qh qq hx
  have hr2:=qh qq hy
  clear hc
  refine Z1h ?_
  refine Z91 ?_
  refine Zu6 ?_
  refine Zu7 ?_
  refine Z95 ?_
  refine Zhj ?_
  refine Zu8 ?_
  refine aq0 8 rfl Y17 (by decide) (fun _=>qr3 (us:=qcs x) (vs:=qcs y) (b:=decide (x=y)) rfl rfl rfl rfl Y1e (qd3 _ _)) ?_
  refine Z1m ?_
  refine qa rfl (fun hc=>?_) (fun hc=>?_)
  ·have hne:x≠y:=by simpa using hc
   have he:decide (a=b)=false:=decide_eq_false (fun e=>hne Yh)
   rw [he]
   exact Z5m
  ·have he:x=y:=by simpa using hc
   subst he
   refine Z2l ?_
   refine ⟨k+1,by omega,⟨by omega,?_⟩,Y6,.refl _ _⟩
   rw [ql hx,ql hy,ht]
 ·have:k=a.length:=by simp at hc;omega
  subst this
  have he:decide (a=b)=true:=decide_eq_true Yf
  rw [he]
  exact Z5m
structure LAct where
 kind:Int
 spec:Spec
 needs:List Int
 id:Int
 what:Int
 at_:Int
 set:List Int
abbrev qo0 (a:LAct):List AV:=[.int .i64 a.kind]++q2i a.spec++[.pl (a.needs.map eI),.int .i64 a.id,.int .i64 a.what,.int .i64 a.at_,.pl (a.set.map eI)]
def q9r (l:List LAct):Bool:=decide (l.length≤14)&&l.all fun a=>decide (a.needs.length≤20)&&decide (a.set.length≤60)
set_option maxHeartbeats 0 in
theorem ql3 (l:List LAct) (H:qj):AC Tryz.prog 17 [.pl (l.map qo0)] H (Ret (.bool (q9r l)) H):=by
 refine AC.body (N:=29) [.tmp 2] Tryz.func17 rfl rfl rfl (Nat.le_of_ble_eq_true rfl) fun B hB=>?_
 refine Z8v ?_
 refine Z2q ?_
 refine qa rfl (fun hc=>?_) (fun hc=>?_)
 ·have he:q9r l=false:=by rw [q9r,decide_eq_false (by simp at hc;omega)];rfl
  rw [he]
  exact Z5m
 have hl:l.length≤14:=by simp at hc;omega
 clear hc
 refine Z1e ?_
 refine qm (G:=Nat) (fun k=>k≤l.length∧∀ a∈l.take k,(decide (a.needs.length≤20)&&decide (a.set.length≤60))=true) (fun k=>[(0,.pl (l.map qo0)),(3,.int .i64 (k:Int))]) (fun _=>H++[]) (fun k=>l.length-k) 0 ⟨Nat.zero_le _,by simp⟩ Y6 (Fit.refl _ _) ?_
 rintro k ⟨hk,hno⟩
 refine Z8z ?_
 refine qa rfl (fun hc=>?_) (fun hc=>?_)
 ·have hlt:k<l.length:=by simpa using hc
  obtain ⟨a,ha,hal⟩:=qo hlt
  have hr:=qh qo0 ha
  clear hc
  refine Z1 ?_
  refine qn 28 (.bool (!(decide (a.needs.length≤20)&&decide (a.set.length≤60)))) ?_ ?_
  ·refine Zc7 ?_
   refine Zhg ?_
   refine Zlm ?_
   refine Z54 ?_
   refine Zf9 ?_
   refine qb rfl rfl (fun hg7=>?_) (fun hg7=>?_)
   ·refine Z5f ?_
    refine Z3z ?_
    exact qf (Out.mk (by (refine congrArg AV.bool ?_;(clear hB hr;(simp_all;omega)))) Yb)
   ·refine Zc3 ?_
    refine Zh9 ?_
    refine Zrc ?_
    refine q2n rfl rfl (by decide) (qz (v:=.pl _) rfl hr rfl) ?_
    refine Z69 ?_
    refine Z43 ?_
    exact qf (Out.mk (by (refine congrArg AV.bool ?_;(clear hB hr;grind))) Yb)
  refine Z1 ?_
  refine qa rfl (fun hc=>?_) (fun hc=>?_)
  ·have hbad:(decide (a.needs.length≤20)&&decide (a.set.length≤60))=false:=by simpa only [Bool.not_eq_true'] using hc
   have he:q9r l=false:=by
    rw [q9r,Bool.and_eq_false_iff]
    exact .inr (List.all_eq_false.2 ⟨a,hal,by rw [hbad];decide⟩)
   rw [he]
   exact Z5m
  ·have hgood:(decide (a.needs.length≤20)&&decide (a.set.length≤60))=true:=by simpa only [Bool.not_eq_false'] using hc
   refine Z2l ?_
   refine ⟨k+1,by omega,⟨by omega,?_⟩,Y6,.refl _ _⟩
   rw [ql ha]
   intro y hy
   rcases List.mem_append.1 hy with h | h
   ·exact hno y h
   ·simp only [List.mem_singleton] at h
    subst h
    exact hgood
 ·have:k=l.length:=by simp at hc;omega
  subst this
  rw [List.take_length] at hno
  have he:q9r l=true:=by rw [q9r,decide_eq_true hl,List.all_eq_true.2 hno];rfl
  rw [he]
  exact Z5m
def qjn (i:Inst) (a:LAct):Int:=if 0≤a.at_∧a.at_<1000∧i.now<4611686018427386904 then i.now+a.at_ else a.at_
def ado (i:Inst) (a:LAct):Inst×Int×Int :=
 if a.kind=1 then ((ido i a.id a.what).1,0,(ido i a.id a.what).2)
 else if a.kind=2 then ((q40 i (qjn i a)).1,0,(q40 i (qjn i a)).2)
 else if a.kind=3 then ((q4p i a.set a.at_).1,0,(q4p i a.set a.at_).2)
 else if a.kind=4 then ((q4c i a.id a.what).1,0,(q4c i a.id a.what).2)
 else q26 i a.spec a.needs
set_option maxHeartbeats 0 in
theorem qrp (i:Inst) (a:LAct) (H:qj) (h0:0≤i.now):AC Tryz.prog 34 [.agg (q19 i),.agg (qo0 a)] H (Ret (.int .i64 (qjn i a)) H):=by
 refine AC.body (N:=25) [.tmp 4] Tryz.func34 rfl rfl rfl (Nat.le_of_ble_eq_true rfl) fun B hB=>?_
 refine Zlt ?_
 refine Z4z ?_
 refine Z8s ?_
 refine qn 17 (.bool (decide (0≤a.at_∧a.at_<1000∧i.now<4611686018427386904))) ?_ ?_
 ·refine Z37 ?_
  refine Z24 ?_
  refine qb rfl rfl (fun hg3=>?_) (fun hg3=>?_)
  ·refine Z41 ?_
   refine Z3b ?_
   refine qb rfl rfl (fun hg8=>?_) (fun hg8=>?_)
   ·refine Z41 ?_
    refine Zm ?_
    exact Zgu
   ·refine Z49 ?_
    exact Zgw
  ·refine Z3f ?_
   refine Z49 ?_
   exact Zgw
 refine Z1 ?_
 refine qa rfl (fun hc=>?_) (fun hc=>?_)
 ·have h:=of_decide_eq_true hc
  have he:qjn i a=i.now+a.at_:=by rw [qjn,if_pos h]
  rw [he]
  refine Z4i ?_
  refine Z37 ?_
  refine ao1 (by decide) (q5y (r:=i.now+a.at_) rfl rfl (q1b (by omega) (by omega))) ?_
  refine Z4g ?_
  exact Z22
 ·have h:=of_decide_eq_false hc
  have he:qjn i a=a.at_:=by rw [qjn,if_neg h]
  rw [he]
  refine Z4i ?_
  refine Z4g ?_
  exact Z22
set_option maxHeartbeats 0 in
theorem qtf (i:Inst) (a:LAct) (H:qj) (h0:0≤i.now) (hw:RI i) (h20:i.jobs.length<19) (hn:a.needs.length≤1000000) (hs:a.set.length≤1000000):ACT Tryz.prog KD 21 [.agg (q19 i),.agg (qo0 a)] H (Ret (.tup [.agg (q19 (ado i a).1),.int .i64 (ado i a).2.1,.int .i64 (ado i a).2.2]) H):=by
 have h20':i.jobs.length<20:=by omega
 refine ACT.body (N:=77) [.cell 4 27,.tmp 5,.tmp 6] Tryz.func21 rfl rfl rfl (Nat.le_of_ble_eq_true rfl) fun B hB=>?_
 refine Zlt ?_
 refine Z4z ?_
 refine Zoi ?_
 refine Z16 ?_
 refine Z7u ?_
 refine Z4i ?_
 refine Z55 ?_
 refine Z5q ?_
 refine qa rfl (fun hc=>?_) (fun hc=>?_)
 ·have hk:a.kind=1:=by simpa using hc
  have he:ado i a=((ido i a.id a.what).1,0,(ido i a.id a.what).2):=by rw [ado,if_pos hk]
  rw [he]
  refine Z4c ?_
  refine Z7h ?_
  refine ao2 Y11 (V2.callT (qxi i a.id a.what _ hw h20') rfl rfl) ?_
  exact Zue
 have hk1:¬ a.kind=1:=by simpa using hc
 clear hc
 refine Z5q ?_
 refine qa rfl (fun hc=>?_) (fun hc=>?_)
 ·have hk:a.kind=2:=by simpa using hc
  have he:ado i a=((q40 i (qjn i a)).1,0,(q40 i (qjn i a)).2):=by rw [ado,if_neg hk1,if_pos hk]
  rw [he]
  refine Z1 ?_
  refine Zly ?_
  refine Zfj ?_
  refine Zuf ?_
  refine Zug ?_
  refine Zuh ?_
  refine q48 4 rfl Y17 (by decide) (fun _=>V2.callT (qhl i (qjn i a) _ hw h20') rfl rfl) ?_
  refine Zsb ?_
  refine Zui ?_
  refine Zuj ?_
  refine Zuk ?_
  refine Zul ?_
  refine Zum ?_
  refine Z1l ?_
  refine Z9w ?_
  exact Zud
 have hk2:¬ a.kind=2:=by simpa using hc
 clear hc
 refine Z5q ?_
 refine qa rfl (fun hc=>?_) (fun hc=>?_)
 ·have hk:a.kind=3:=by simpa using hc
  have he:ado i a=((q4p i a.set a.at_).1,0,(q4p i a.set a.at_).2):=by rw [ado,if_neg hk1,if_neg hk2,if_pos hk]
  rw [he]
  refine Z4c ?_
  refine Z52 ?_
  refine Z37 ?_
  refine ao2 Y11 (V2.callT (qq1 i a.set a.at_ _ hw h20' hs) rfl rfl) ?_
  exact Zue
 have hk3:¬ a.kind=3:=by simpa using hc
 clear hc
 refine Z5q ?_
 refine qa rfl (fun hc=>?_) (fun hc=>?_)
 ·have hk:a.kind=4:=by simpa using hc
  have he:ado i a=((q4c i a.id a.what).1,0,(q4c i a.id a.what).2):=by rw [ado,if_neg hk1,if_neg hk2,if_neg hk3,if_pos hk]
  rw [he]
  refine Z4c ?_
  refine Z7h ?_
  refine ao2 Y11 (V2.callT (qqe i a.id a.what _ hw h20') rfl rfl) ?_
  exact Zue
 have hk4:¬ a.kind=4:=by simpa using hc
 clear hc
 have he:ado i a=q26 i a.spec a.needs:=by rw [ado,if_neg hk1,if_neg hk2,if_neg hk3,if_neg hk4]
 rw [he]
 refine Z4c ?_
 refine Z36 ?_
 refine Zt9 ?_
 refine Z52 ?_
 refine ao2 Y11 (V2.callT (q8q i a.spec a.needs _ hw h20 hn) rfl rfl) ?_
 refine Z9s ?_
 refine Z15 ?_
 refine Z15 ?_
 refine Ztv ?_
 refine Zun ?_
 refine Z1 ?_
 exact Ztx
def g4:List Thing:=[⟨0,-1,ByteArray.empty⟩,⟨2,0,ByteArray.empty⟩,⟨3,1,ByteArray.empty⟩,⟨3,1,ByteArray.empty⟩]
def i4:Inst:=(q92 g4 1 0).1
theorem qzb:(q92 g4 1 0).2=0:=by decide +kernel
theorem i4_w:IW i4:=by
 refine ⟨?_,?_,?_,?_,?_,?_⟩
 ·decide +kernel
 ·decide +kernel
 ·decide +kernel
 ·decide +kernel
 ·decide +kernel
 ·intro h hh
  have:i4.table=[]:=by decide +kernel
  rw [this] at hh;cases hh
theorem RI.look {w:Inst} (h:RI w):RI (q3q w):=h.broken.refuse.begin
theorem RI.submit {i:Inst} (h:RI i) (s:Spec) {needs:List Int} (hn:needs.length≤1000000) (hl:i.jobs.length<1000000):RI (q26 i s needs).1:=by
 unfold q26
 split
 ·exact h
 ·split
  ·exact h
  ·exact (h.jobs (h.jw.add s i.now hn hl)).look
theorem RI.act {i:Inst} (h:RI i) (id what:Int):RI (ido i id what).1:=by
 unfold ido
 split
 ·exact h
 ·split
  ·exact h
  ·exact (h.wdo _ _ _).look
theorem RI.tick {i:Inst} (h:RI i) (now:Int):RI (q40 i now).1:=by
 unfold q40
 split
 ·exact h
 ·rw [← qk3]
  exact (h.tck now _).look
theorem RI.lent {i:Inst} (h:RI i) {l:List Int} (til:Int) (hl:l.length≤1000000):RI (q4p i l til).1:=by
 unfold q4p
 split
 ·exact h
 ·exact (h.lend til hl).look
theorem RI.marked {i:Inst} (h:RI i) (n how:Int):RI (q4c i n how).1:=by
 unfold q4c
 split
 ·exact h
 ·split
  ·exact h
  ·exact (h.mark n how).look
theorem RI.ado {i:Inst} (h:RI i) (a:LAct) (hn:a.needs.length≤1000000) (hs:a.set.length≤1000000) (hl:i.jobs.length<1000000):RI (ado i a).1:=by
 unfold Av.ado
 split
 ·exact h.act _ _
 ·split
  ·exact h.tick _
  ·split
   ·exact h.lent _ hs
   ·split
    ·exact h.marked _ _
    ·exact h.submit _ hn hl
theorem q7l (i:Inst) (s:Spec) (needs:List Int):(q26 i s needs).1.jobs.length≤i.jobs.length+1:=by
 unfold q26
 split
 ·simp
 ·split
  ·simp
  ·show (q3q _).jobs.length≤_
   rw [q6l]
   exact qc0 _ _ _ _
theorem qti (i:Inst) (a:LAct):(ado i a).1.jobs.length≤i.jobs.length+1:=by
 unfold Av.ado
 split
 ·show (ido i a.id a.what).1.jobs.length≤_
  unfold ido
  split
  ·simp
  ·split
   ·simp
   ·show (q3q _).jobs.length≤_
    rw [q6l,q8a];simp
 ·split
  ·show (q40 i _).1.jobs.length≤_
   unfold q40
   split
   ·simp
   ·rw [← qk3]
    show (q3q _).jobs.length≤_
    rw [q6l,qmq];simp
  ·split
   ·show (q4p i _ _).1.jobs.length≤_
    unfold q4p
    split
    ·simp
    ·show (q3q _).jobs.length≤_
     rw [q6l];simp
   ·split
    ·show (q4c i _ _).1.jobs.length≤_
     unfold q4c
     split
     ·simp
     ·split
      ·simp
      ·show (q3q _).jobs.length≤_
       rw [q6l];simp
    ·exact q7l _ _ _
def s16:Spec:=⟨1,2,0,ByteArray.empty,false,5,0⟩
def b1:Inst:=(q26 i4 s16 []).1
def b2:Inst:=(q26 b1 s16 []).1
def b3:Inst:=(q40 b2 5).1
theorem qz2:q26 i4 s16 []=(b1,1,0):=Prod.ext rfl (show (q26 i4 s16 []).2=(1,0) by decide +kernel)
theorem qzf:q26 b1 s16 []=(b2,2,0):=Prod.ext rfl (show (q26 b1 s16 []).2=(2,0) by decide +kernel)
theorem qyw:q40 b2 5=(b3,0):=Prod.ext rfl (show (q40 b2 5).2=0 by decide +kernel)
theorem b3_x:(q36 b3.jobs 1).1.state=4:=by decide +kernel
theorem b3_y:(q36 b3.jobs 2).1.state=2:=by decide +kernel
theorem b3_f:(q9h b3).length=2:=by decide +kernel
theorem qyi:i4.jobs=[]:=by decide +kernel
theorem i4_ri:RI i4:=⟨i4_w,by rw [qyi];exact ⟨by simp,fun j hj=>by simp at hj⟩⟩
theorem b1_ri:RI b1:=i4_ri.submit s16 (by simp) (by rw [qyi];simp)
theorem qyo:b1.jobs.length≤1:=by have:=q7l i4 s16 [];rw [qyi] at this;exact this
theorem b2_ri:RI b2:=b1_ri.submit s16 (by simp) (by have:=qyo;omega)
theorem b2_l:b2.jobs.length≤2:=by have:=q7l b1 s16 [];have h:=qyo;exact Nat.le_trans this (by omega)
theorem b3_ri:RI b3:=b2_ri.tick 5
theorem ACT.nil3 {P:Program} {K:Know} {f:FuncId} {x y:AV} {H:qj} {R:AOut→qj→Prop} (h:ACT P K f [x,y,.pl []] H R):ACT P K f [x,y,.nsl] H R:=by
 intro S w cargs hk hH hv
 refine h S w cargs hk hH ⟨hv.1,fun i v u hvi hui=>?_⟩
 match i with
 | 0=>exact hv.2 0 v u hvi hui
 | 1=>exact hv.2 1 v u hvi hui
 | 2 =>
  obtain rfl:AV.pl []=v:=Option.some.inj hvi
  have h2:=hv.2 2 .nsl u rfl hui
  cases h2 with
  | @nsl _ ad=>exact .pl (xs:=[]) default 0 (fun _ _=>undef) (Nat.zero_le _) (fun h=>absurd rfl h) (fun _ _ h=>by simp at h) (fun _ h=>by simp at h) (fun _ _ _ _ h=>by simp at h) (fun _ _ _ _ h=>by simp at h)
 | i+3=>simp at hvi
set_option maxHeartbeats 0 in
theorem qjp (H:qj):ACT Tryz.prog KD 16 [] H (Ret (.bool true) H):=by
 have cn:=fun H=>qlk g4 1 0 H (by decide)
 rw [qzb,show (q92 g4 1 0).1=i4 from rfl] at cn
 have c1:=fun H=>(q8q i4 s16 [] H i4_ri (by rw [qyi];simp) (by simp)).nil3
 have c2:=fun H=>(q8q b1 s16 [] H b1_ri (by have:=qyo;omega) (by simp)).nil3
 have c3:=fun H=>qhl b2 5 H b2_ri (by have:=b2_l;omega)
 have c4:=fun H=>qcz b3.jobs 1 H b3_ri.jw
 have c5:=fun H=>qcz b3.jobs 2 H b3_ri.jw
 have c6:=fun H=>qj9 b3 H b3_ri.iw
 rw [qz2] at c1
 rw [qzf] at c2
 rw [qyw] at c3
 have e4:=b3_x
 have e5:=b3_y
 have e6:=b3_f
 generalize i4=i at *
 generalize b1=x1 at *
 generalize b2=x2 at *
 generalize b3=x3 at *
 simp only at c1 c2 c3
 refine ACT.body (N:=89) [.tmp 0] Tryz.func16 rfl rfl rfl (Nat.le_of_ble_eq_true rfl) fun B hB=>?_
 refine Z1r ?_
 refine Z2 ?_
 refine Zuo ?_
 refine Zuo ?_
 refine Zuo ?_
 refine Zuo ?_
 refine ao2 Y11 (qvz (g4.map qq) rfl (by decide) (by decide) (by decide) rfl rfl (by simp [g4]) rfl (by simp [g4,AV.bels,AV.bel])) ?_
 refine Z4w ?_
 refine qf ?_
 try dsimp only [AV.up,put]
 refine Z4o ?_
 refine ao2 Y11 (V2.call (cn _) rfl) ?_
 refine Zua ?_
 refine Zd2 ?_
 refine Z2 ?_
 refine ao1 (by decide) (V1.up (q4i (cs:=[.int _ _,.int _ _,.int _ _,.str _,.bool _,.int _ _,.int _ _]) rfl)) ?_
 refine ao2 Y11 (q4n (sz:=7) rfl (by decide) rfl) ?_
 refine ao2 Y1b (q2p (sz:=7) rfl rfl rfl rfl rfl rfl rfl rfl (Nat.le_of_ble_eq_true rfl)) ?_
 refine qf ?_
 refine Zq0 ?_
 refine Z4c ?_
 refine Z4b ?_
 refine ao2 Y11 (V2.callT (c1 _) rfl rfl) ?_
 refine Zoz ?_
 refine Z15 ?_
 refine Ztv ?_
 refine Z9n ?_
 refine Z4c ?_
 refine Z4b ?_
 refine ao2 Y11 (V2.callT (c2 _) rfl rfl) ?_
 refine Zoz ?_
 refine Z15 ?_
 refine Ztv ?_
 refine Z9n ?_
 refine Z4c ?_
 refine ao2 Y11 (V2.callT (c3 _) rfl rfl) ?_
 refine Zua ?_
 refine Zem ?_
 refine Z53 ?_
 refine Z8 ?_
 refine Z8c ?_
 refine Z9u ?_
 refine Zlu ?_
 refine Z1q ?_
 refine Zub ?_
 refine Z53 ?_
 refine Z8 ?_
 refine ao2 Y11 (V2.call (c5 _) rfl) ?_
 refine Z9u ?_
 refine Zlu ?_
 refine Z1q ?_
 refine Zub ?_
 refine Z1 ?_
 refine qn 0 (.bool true) ?_ ?_
 ·refine Z7n ?_
  refine qb rfl rfl (fun hg2=>?_) (fun hg2=>?_)
  ·refine Z7o ?_
   refine Z3b ?_
   refine qb rfl rfl (fun hg6=>?_) (fun hg6=>?_)
   ·refine Z7o ?_
    refine Z3b ?_
    refine qb rfl rfl (fun hg10=>?_) (fun hg10=>?_)
    ·refine Z7o ?_
     refine Z3b ?_
     refine qb rfl rfl (fun hg14=>?_) (fun hg14=>?_)
     ·refine Z48 ?_
      refine qb rfl rfl (fun hg19=>?_) (fun hg19=>?_)
      ·refine Z48 ?_
       refine qb rfl rfl (fun hg24=>?_) (fun hg24=>?_)
       ·refine Z5x ?_
        refine q5b rfl rfl (by decide) (V2.callT (c6 _) rfl rfl) ?_
        refine Z69 ?_
        refine Z46 ?_
        refine Zn ?_
        exact Z98
       ·refine Z2c ?_
        refine Zs ?_
        exact Z98
      ·refine Z61 ?_
       refine Zt ?_
       exact Z98
     ·refine Z63 ?_
      refine Zt ?_
      exact Z98
    ·refine Z62 ?_
     refine Z63 ?_
     refine Zt ?_
     exact Z98
   ·refine Z62 ?_
    refine Z62 ?_
    refine Z63 ?_
    refine Zt ?_
    exact Z98
  ·refine Z62 ?_
   refine Z62 ?_
   refine Z62 ?_
   refine Z63 ?_
   refine Zt ?_
   exact Z98
 exact Z22
set_option maxHeartbeats 0 in
theorem qre (a b:Held) (H:qj) (ha:a.things.length≤1000000):AC Tryz.prog 107 [.agg (qg a),.agg (qg b)] H (Ret (.bool (decide (a=b))) H):=by
 have he:decide (a=b)=(a.id == b.id&&a.frm == b.frm&&a.to == b.to&&decide (a.things=b.things)):=by
  cases a;cases b;simp [Bool.beq_eq_decide_eq];grind
 rw [he]
 refine AC.body (N:=31) [.tmp 4] Tryz.func107 rfl rfl rfl (Nat.le_of_ble_eq_true rfl) fun B hB=>?_
 refine Zf8 ?_
 refine Zf7 ?_
 refine Z1q ?_
 refine Z8r ?_
 refine qn 4 (.bool (a.id == b.id&&a.frm == b.frm&&a.to == b.to&&decide (a.things=b.things))) ?_ ?_
 ·refine Z7h ?_
  refine Z44 ?_
  refine qb rfl rfl (fun hg5=>?_) (fun hg5=>?_)
  ·refine Z96 ?_
   refine qb rfl rfl (fun hg12=>?_) (fun hg12=>?_)
   ·refine Z96 ?_
    refine qb rfl rfl (fun hg19=>?_) (fun hg19=>?_)
    ·refine Z97 ?_
     refine q5b rfl rfl (by decide) (V2.call (q6b a.things b.things _ (by omega)) rfl) ?_
     refine Zn ?_
     exact Z98
    ·refine Z5o ?_
     exact Z98
   ·refine Zq ?_
    exact Z9a
  ·refine Zq ?_
   refine Z61 ?_
   exact Z9a
 exact Z22
set_option maxHeartbeats 0 in
theorem qng (a b:List Held) (H:qj) (ha:HW a):AC Tryz.prog 58 [.pl (a.map qg),.pl (b.map qg)] H (Ret (.bool (decide (a=b))) H):=by
 have hal:=ha.1
 refine AC.body (N:=27) [.tmp 4] Tryz.func58 rfl rfl rfl (Nat.le_of_ble_eq_true rfl) fun B hB=>?_
 refine Z8v ?_
 refine Z8w ?_
 refine Z8x ?_
 refine qa rfl (fun hc=>?_) (fun hc=>?_)
 ·have hne:a.length≠b.length:=by simp at hc;omega
  have he:decide (a=b)=false:=decide_eq_false (fun e=>hne (by rw [e]))
  rw [he]
  exact Z5m
 have hl:a.length=b.length:=by simp at hc;omega
 clear hc
 refine Z1e ?_
 refine qm (G:=Nat) (fun k=>k≤a.length∧a.take k=b.take k) (fun k=>[(0,.pl (a.map qg)),(1,.pl (b.map qg)),(5,.int .i64 (k:Int))]) (fun _=>H++[]) (fun k=>a.length-k) 0 ⟨Nat.zero_le _,by simp⟩ Y6 (Fit.refl _ _) ?_
 rintro k ⟨hk,ht⟩
 refine Z8z ?_
 refine qa rfl (fun hc=>?_) (fun hc=>?_)
 ·have hlt:k<a.length:=by simpa using hc
  obtain ⟨x,hx,hxl⟩:=qo hlt
  obtain ⟨y,hy,_⟩:=qo (l:=b) (k:=k) (by omega)
  have hr1:=qh qg hx
  have hr2:=qh qg hy
  have hxw:=ha.2 x hxl
  clear hc
  refine Z1h ?_
  refine Z91 ?_
  refine Zu6 ?_
  refine Zu7 ?_
  refine Z95 ?_
  refine Zhj ?_
  refine Zu8 ?_
  refine q48 8 rfl Y17 (by decide) (fun _=>V2.call (qre x y _ (by omega)) rfl) ?_
  refine Zup ?_
  refine Z1m ?_
  refine qa rfl (fun hc=>?_) (fun hc=>?_)
  ·have hne:x≠y:=by simpa using hc
   have he:decide (a=b)=false:=decide_eq_false (fun e=>hne Yh)
   rw [he]
   exact Z5m
  ·have he:x=y:=by simpa using hc
   subst he
   refine Z2l ?_
   refine ⟨k+1,by omega,⟨by omega,?_⟩,Y6,.refl _ _⟩
   rw [ql hx,ql hy,ht]
 ·have:k=a.length:=by simp at hc;omega
  subst this
  have he:decide (a=b)=true:=decide_eq_true Yf
  rw [he]
  exact Z5m
set_option maxHeartbeats 0 in
theorem qot (a b:List Job) (H:qj) (ha:JW a):AC Tryz.prog 57 [.pl (a.map q1d),.pl (b.map q1d)] H (Ret (.bool (decide (a=b))) H):=by
 have hal:=ha.1
 refine AC.body (N:=27) [.tmp 4] Tryz.func57 rfl rfl rfl (Nat.le_of_ble_eq_true rfl) fun B hB=>?_
 refine Z8v ?_
 refine Z8w ?_
 refine Z8x ?_
 refine qa rfl (fun hc=>?_) (fun hc=>?_)
 ·have hne:a.length≠b.length:=by simp at hc;omega
  have he:decide (a=b)=false:=decide_eq_false (fun e=>hne (by rw [e]))
  rw [he]
  exact Z5m
 have hl:a.length=b.length:=by simp at hc;omega
 clear hc
 refine Z1e ?_
 refine qm (G:=Nat) (fun k=>k≤a.length∧a.take k=b.take k) (fun k=>[(0,.pl (a.map q1d)),(1,.pl (b.map q1d)),(5,.int .i64 (k:Int))]) (fun _=>H++[]) (fun k=>a.length-k) 0 ⟨Nat.zero_le _,by simp⟩ Y6 (Fit.refl _ _) ?_
 rintro k ⟨hk,ht⟩
 refine Z8z ?_
 refine qa rfl (fun hc=>?_) (fun hc=>?_)
 ·have hlt:k<a.length:=by simpa using hc
  obtain ⟨x,hx,hxl⟩:=qo hlt
  obtain ⟨y,hy,_⟩:=qo (l:=b) (k:=k) (by omega)
  have hr1:=qh q1d hx
  have hr2:=qh q1d hy
  have hxw:=ha.2 x hxl
  clear hc
  refine Z1h ?_
  refine Z91 ?_
  refine Zu6 ?_
  refine Zu7 ?_
  refine Z95 ?_
  refine Zhj ?_
  refine Zu8 ?_
  refine q48 8 rfl Y17 (by decide) (fun _=>V2.call (qp1 x y _ (by omega)) rfl) ?_
  refine Zup ?_
  refine Z1m ?_
  refine qa rfl (fun hc=>?_) (fun hc=>?_)
  ·have hne:x≠y:=by simpa using hc
   have he:decide (a=b)=false:=decide_eq_false (fun e=>hne Yh)
   rw [he]
   exact Z5m
  ·have he:x=y:=by simpa using hc
   subst he
   refine Z2l ?_
   refine ⟨k+1,by omega,⟨by omega,?_⟩,Y6,.refl _ _⟩
   rw [ql hx,ql hy,ht]
 ·have:k=a.length:=by simp at hc;omega
  subst this
  have he:decide (a=b)=true:=decide_eq_true Yf
  rw [he]
  exact Z5m
set_option maxHeartbeats 0 in
theorem qf6 (a b:Inst) (H:qj) (ha:RI a):AC Tryz.prog 20 [.agg (q19 a),.agg (q19 b)] H (Ret (.bool (decide (a=b))) H):=by
 have n1:=ha.iw.graph
 have n2:=ha.iw.health
 have n3:=ha.iw.lease
 have n4:=ha.jw
 have n5:=ha.iw.table
 have he:decide (a=b)=(decide (a.graph=b.graph)&&decide (a.health=b.health)&&decide (a.lease=b.lease)&&a.til == b.til&&a.now == b.now&&a.policy == b.policy&&a.depth == b.depth&&decide (a.jobs=b.jobs)&&decide (a.table=b.table)):=by
  cases a;cases b;simp [Bool.beq_eq_decide_eq];grind
 rw [he]
 refine AC.body (N:=66) [.tmp 4] Tryz.func20 rfl rfl rfl (Nat.le_of_ble_eq_true rfl) fun B hB=>?_
 refine Zlt ?_
 refine Zls ?_
 refine Z1q ?_
 refine Z8r ?_
 refine qn 4 (.bool (decide (a.graph=b.graph)&&decide (a.health=b.health)&&decide (a.lease=b.lease)&&a.til == b.til&&a.now == b.now&&a.policy == b.policy&&a.depth == b.depth&&decide (a.jobs=b.jobs)&&decide (a.table=b.table))) ?_ ?_
 ·refine Z52 ?_
  refine Z52 ?_
  refine ao2 Y11 (V2.call (qi8 a.graph b.graph _ (by omega)) rfl) ?_
  refine Zh ?_
  refine qb rfl rfl (fun hg5=>?_) (fun hg5=>?_)
  ·refine Z97 ?_
   refine q5b rfl rfl (by decide) (V2.call (q6b a.health b.health _ (by omega)) rfl) ?_
   refine Z3b ?_
   refine qb rfl rfl (fun hg12=>?_) (fun hg12=>?_)
   ·refine Z97 ?_
    refine q5b rfl rfl (by decide) (V2.call (q6b a.lease b.lease _ (by omega)) rfl) ?_
    refine Z3b ?_
    refine qb rfl rfl (fun hg19=>?_) (fun hg19=>?_)
    ·refine Z96 ?_
     refine qb rfl rfl (fun hg26=>?_) (fun hg26=>?_)
     ·refine Z96 ?_
      refine qb rfl rfl (fun hg33=>?_) (fun hg33=>?_)
      ·refine Z96 ?_
       refine qb rfl rfl (fun hg40=>?_) (fun hg40=>?_)
       ·refine Z96 ?_
        refine qb rfl rfl (fun hg47=>?_) (fun hg47=>?_)
        ·refine Z97 ?_
         refine q5b rfl rfl (by decide) (V2.call (qot a.jobs b.jobs _ n4) rfl) ?_
         refine Z3b ?_
         refine qb rfl rfl (fun hg54=>?_) (fun hg54=>?_)
         ·refine Z97 ?_
          refine q5b rfl rfl (by decide) (V2.call (qng a.table b.table _ n5) rfl) ?_
          refine Zn ?_
          exact Zuq
         ·refine Z5o ?_
          exact Zuq
        ·refine Zq ?_
         exact Zur
       ·refine Zq ?_
        refine Z61 ?_
        exact Zur
      ·refine Z9c ?_
       exact Zur
     ·refine Z9c ?_
      refine Z61 ?_
      exact Zur
    ·refine Z9c ?_
     refine Z9b ?_
     exact Zur
   ·refine Z9c ?_
    refine Z9b ?_
    refine Z61 ?_
    exact Zur
  ·refine Z9c ?_
   refine Z9b ?_
   refine Z9b ?_
   exact Zur
 exact Z22
end Go.Av
namespace Go.Av
theorem qa3 (w:Inst) (id what at_:Int):Ev w (wdo w id what at_).1:=by
 cases h:q24 w.jobs with
 | true=>exact qeh h id what at_
 | false =>
  have:(q1n w.jobs id what at_).2≠0:=by rw [q1n,h];simp
  rw [wdo,if_pos this]
  exact Ev.refl w
theorem qcm {α:Type} {f:Inst→α→Inst} (hf:∀ a x,Ev a (f a x)):∀ (l:List α) (w:Inst),Ev w (l.foldl f w)
 | [],w=>Ev.refl w
 | x :: l,w=>(hf w x).trans (qcm hf l _)
theorem qok (w:Inst):Ev w (q2w w):=by
 unfold q2w
 exact qcm (fun a x=>by split;exact Ev.refl a;exact qa3 _ _ _ _) _ _
theorem qoi (w:Inst):Ev w (q3r w):=by
 unfold q3r
 exact qcm (fun a x=>by split;exact qa3 _ _ _ _;exact Ev.refl a) _ _
theorem qsm (w:Inst):Ev w (q41 w):=by
 unfold q41
 generalize q2v w=l
 refine qcm (fun a x=>?_) l w
 exact (qa3 a x.id 3 a.now).tab _
theorem qtj (w:Inst):Ev w (q3q w):=(qok w).trans ((qoi _).trans (qsm _))
def IDs (l:List Job):Prop:=∀ (k:Nat) (j:Job),l[k]?=some j→j.id=(k:Int)+1
theorem IDs.ev {w v:Inst} (h:IDs w.jobs) (e:Ev w v):IDs v.jobs:=fun k b hb=>by
 have hk:=(List.getElem?_eq_some_iff.1 hb).1
 have hw:k<w.jobs.length:=by rw [← e.len];exact hk
 rw [(e.jobs k _ b (List.getElem?_eq_getElem hw) hb).id]
 exact h k _ (List.getElem?_eq_getElem hw)
theorem IDs.last {l:List Job} (h:IDs l):(q15 l).id=(l.length:Int):=by
 unfold q15
 split
 ·rename_i e;rw [e];rfl
 ·rename_i e
  have hl:l.length-1<l.length:=by omega
  have hg:l[l.length-1]?=some l[l.length-1]:=List.getElem?_eq_getElem hl
  rw [q12 hg,h _ _ hg]
  omega
theorem q9s (l:List Job) (s:Spec) (needs:List Int) (now:Int):((q18 l s needs now).2.2≠0∧(q18 l s needs now).2.1=0∧(q18 l s needs now).1=l)∨q18 l s needs now=(l++[⟨(q15 l).id+1,s,needs,0,now,0,0⟩],(q15 l).id+1,0):=by
 unfold q18
 split
 ·exact .inl ⟨by simp,rfl,rfl⟩
 ·split
  ·exact .inl ⟨by simp,rfl,rfl⟩
  ·split
   ·exact .inl ⟨by simp,rfl,rfl⟩
   ·split
    ·exact .inl ⟨by simp,rfl,rfl⟩
    ·exact .inr rfl
theorem IDs.add {l:List Job} (h:IDs l) (s:Spec) (needs:List Int) (now:Int):IDs (q18 l s needs now).1:=by
 rcases q9s l s needs now with ⟨_,_,e⟩ | e
 ·rw [e];exact h
 ·rw [e]
  intro k j hj
  simp only at hj
  by_cases hk:k<l.length
  ·rw [List.getElem?_append_left hk] at hj
   exact h k j hj
  ·rw [List.getElem?_append_right (by omega)] at hj
   have:k-l.length=0:=by
    have:=(List.getElem?_eq_some_iff.1 hj).1
    simpa using this
   rw [this] at hj
   cases hj
   show (q15 l).id+1=_
   rw [h.last]
   omega
structure LT (i n : Inst) (kind id f : Int) : Prop where
 now:n.now=i.now∨kind=2
 lease:(n.lease=i.lease∧n.til=i.til)∨kind=3
 health:n.health=i.health∨kind=4
 policy:n.policy=i.policy
 depth:n.depth=i.depth
 graph:n.graph=i.graph
 came:(kind<1∨4<kind)→(f=0↔n.jobs.length=i.jobs.length+1)
 id:id≠0→id=(n.jobs.length:Int)
 ids:IDs n.jobs
 pos:0≤n.now
theorem LT.same {i:Inst} (h:IDs i.jobs) (hp:0≤i.now) (kind:Int) {f:Int} (hf:f≠0):LT i i kind 0 f:=⟨.inl rfl,.inl ⟨rfl,rfl⟩,.inl rfl,rfl,rfl,rfl,fun _=>⟨fun e=>absurd e hf,fun e=>by omega⟩,fun e=>absurd rfl e,h,hp⟩
theorem Ev.LT {i n:Inst} (e:Ev i n) (h:IDs i.jobs) (hp:0≤i.now) {kind:Int} (hk:¬ (kind<1∨4<kind)):LT i n kind 0 0:=⟨.inl e.now,.inl ⟨e.lease,e.til⟩,.inl e.health,e.policy,e.depth,e.graph,fun k=>absurd k hk,fun x=>absurd rfl x,h.ev e,by rw [e.now];exact hp⟩
end Go.Av
namespace Go.Av
open Go.Proofs
theorem qob (g:List Thing) (n:Int):(q45 g n).length≤g.length:=by
 unfold q45
 split
 ·exact q62 _ _
 ·simp
theorem qwp (g:List Thing) (p d:Int) (hl:g.length≤1000000):RI (q92 g p d).1∧(q92 g p d).1.jobs=[]∧(q92 g p d).1.now=0∧((q92 g p d).2=0→(q92 g p d).1.graph=g):=by
 have hu:=qob g 0
 unfold q92
 split
 ·refine ⟨⟨⟨?_,?_,?_,?_,?_,?_⟩,?_,?_⟩,rfl,rfl,fun e=>by cases e⟩<;>simp [qqn]
 ·refine ⟨⟨⟨hl,by simpa using hl,Nat.le_trans hu hl,by simp,by simp,by simp⟩,by simp,by simp⟩,rfl,rfl,fun _=>rfl⟩
end Go.Av
namespace Go.Av
structure GJ (w : Inst) : Prop where
 ir:IR w
 long:∀ j∈w.jobs,(j.state=3∨j.state=4)→j.to-j.frm≤j.spec.long
 past:∀ j∈w.jobs,3≤j.state→j.to≤w.now
 needs:∀ j∈w.jobs,(j.state=2∨j.state=3∨j.state=4)→∀ n∈j.needs,∃ y∈w.jobs,y.id=n∧y.state=3∧y.to≤j.frm
theorem qjg {j:Job} (h:q1q j=true):q2m j.spec=true:=by simp only [q1q,Bool.and_eq_true] at h;exact h.1.1.1.2
theorem qal {j:Job} (h:q1q j=true) (h2:2≤j.state∧j.state≤4):tm j.frm=true∧j.came≤j.frm∧0≤j.came:=by
 have h5:tm j.came=true:=by simp only [q1q,Bool.and_eq_true] at h;exact h.1.2
 have ht:q43 j=true:=by simp only [q1q,Bool.and_eq_true] at h;exact h.2
 have hb:q9e j=true:=by
  unfold q43 at ht
  rw [if_neg (by omega)] at ht
  split at ht
  ·rw [Bool.and_eq_true] at ht;exact ht.1
  ·rw [if_pos (by omega),Bool.and_eq_true] at ht;exact ht.1
 rw [q9e,Bool.and_eq_true,decide_eq_true_eq] at hb
 exact ⟨hb.1,hb.2,(tm_iff.1 h5).1⟩
theorem qur {s:Spec} {t:Int} (hs:q2m s=true) (ht:tm t=true):q1p s t≤t+s.long∧t≤q1p s t:=by
 have:=q5a hs
 have:=tm_iff.1 ht
 unfold q1p
 rw [hs,if_pos rfl]
 unfold qdu qdw
 omega
theorem GJ.wdo {w:Inst} (h:GJ w) {id what at_:Int} (h3:what≠3) (hn:at_≤w.now) (ht:∀ x∈w.table,x.id=id→at_≤x.to):GJ (wdo w id what at_).1:=by
 have hir:=qvx h.ir h3 (id:=id) (at_:=at_)
 rcases q3h h.ir.jobs id what at_ with ⟨e,_⟩ | ⟨j,hj,rfl,s,hb,hs,e1,e⟩
 ·rw [e];exact h
 ·have hm:=(qgd h.ir.jobs hj e1 hb hs).2
  have hjr:=(jobs_iff.1 h.ir.jobs).2.1 j hj
  have hf:=q82 hs
  have hin:=qbp (q53 hjr).1 hs
  rw [e] at hir ⊢
  have hs2:s≠2:=by rintro rfl;exact h3 (qjb hs).1
  refine ⟨hir,?_,?_,?_⟩
  ·intro y hy hst
   rcases (hm y).1 hy with rfl | ⟨hy,_⟩
   ·have hst:s=3∨s=4:=hst
    have hj2:j.state=2:=by rcases hst with e | e<;>omega
    obtain ⟨x,hx,hid,hfr,hto,_⟩:=h.ir.run j hj hj2
    have h1:=ht x hx hid
    have h2:=qur (qjg hjr) (qal hjr (by omega)).1
    show (if q3z s then at_ else j.to)-(if s=2 then at_ else j.frm)≤j.spec.long
    rw [if_neg hs2,if_pos (by rw [q3z,Bool.and_eq_true,decide_eq_true_eq,decide_eq_true_eq];omega)]
    omega
   ·exact h.long y hy hst
  ·intro y hy hst
   rcases (hm y).1 hy with rfl | ⟨hy,_⟩
   ·show (if q3z s then at_ else j.to)≤w.now
    have hst:3≤s:=hst
    rw [if_pos (by rw [q3z,Bool.and_eq_true,decide_eq_true_eq,decide_eq_true_eq];omega)]
    exact hn
   ·exact h.past y hy hst
  ·intro y hy hst n hn'
   have key:∃ z∈w.jobs,z.id=n∧z.state=3∧z.to≤y.frm:=by
    rcases (hm y).1 hy with rfl | ⟨hy,_⟩
    ·have hst:s=2∨s=3∨s=4:=hst
     have hj2:j.state=2:=by rcases hst with e | e | e<;>omega
     have:=h.needs j hj (.inl hj2) n hn'
     show ∃ z∈w.jobs,z.id=n∧z.state=3∧z.to≤(if s=2 then at_ else j.frm)
     rw [if_neg hs2];exact this
    ·exact h.needs y hy hst n hn'
   obtain ⟨z,hz,r⟩:=key
   refine ⟨z,(hm z).2 (.inr ⟨hz,fun e=>?_⟩),r⟩
   have:=q64 h.ir hz hj e
   subst this
   omega
structure GI (w v : Inst) : Prop where
 gj:GJ v
 ev:Ev w v
 lt:∀ x∈v.table,v.now<x.to
 sub:∀ x∈v.table,x∈w.table
theorem GI.refl {w:Inst} (h:GJ w) (hl:∀ x∈w.table,w.now<x.to):GI w w:=⟨h,Ev.refl w,hl,fun x hx=>hx⟩
theorem GI.wdo {w v:Inst} (h:GI w v) {id what:Int} (h3:what≠3):GI w (wdo v id what v.now).1:=by
 have hev:=qeh h.gj.ir.jobs id what v.now
 have hsub:=qiz h.gj.ir id what v.now
 refine ⟨h.gj.wdo h3 (Int.le_refl _) fun x hx _=>Int.le_of_lt (h.lt x hx),h.ev.trans hev,fun x hx=>?_,fun x hx=>h.sub x (hsub x hx)⟩
 rw [hev.now]
 exact h.lt x (hsub x hx)
theorem GI.broken {w:Inst} (h:GJ w) (hl:∀ x∈w.table,w.now<x.to):GI w (q2w w):=by
 unfold q2w
 refine q96 (P:=GI w) _ _ (GI.refl h hl) fun v x _ hv=>?_
 split
 ·exact hv
 ·exact hv.wdo (by decide)
theorem GI.refuse {w:Inst} (h:GJ w) (hl:∀ x∈w.table,w.now<x.to):GI w (q3r w):=by
 unfold q3r
 refine q96 (P:=GI w) _ _ (GI.refl h hl) fun v x _ hv=>?_
 split
 ·exact hv.wdo (by decide)
 ·exact hv
theorem ithings_iff {g:List Thing} {l:List Int}:q27 g l=true↔sok l=true∧∀ x∈l,x<(g.length:Int):=by
 rw [q27,Bool.and_eq_true,Bool.or_eq_true,decide_eq_true_eq,decide_eq_true_eq]
 refine and_congr_right fun hs=>?_
 have hp:=q49 hs
 constructor
 ·rintro (h | h) x hx
  ·rw [List.length_eq_zero_iff] at h;subst h;cases hx
  ·obtain ⟨k,hk,rfl⟩:=List.mem_iff_getElem.1 hx
   have hl:l.length-1<l.length:=by omega
   rw [List.getD_eq_getElem?_getD,List.getElem?_eq_getElem hl,Option.getD_some] at h
   by_cases e:k=l.length-1
   ·subst e;exact h
   ·have:=List.pairwise_iff_getElem.1 hp k (l.length-1) hk hl (by omega)
    omega
 ·intro h
  by_cases e:l.length=0
  ·exact .inl e
  ·have hl:l.length-1<l.length:=by omega
   right
   rw [List.getD_eq_getElem?_getD,List.getElem?_eq_getElem hl,Option.getD_some]
   exact h _ (List.getElem_mem hl)
theorem q7k {g:List Thing} {a b:List Int} (h:q27 g b=true) (k:q2u a b=true):q27 g a=true :=
 ithings_iff.2 ⟨(spart_iff.1 k).1,fun x hx=>(ithings_iff.1 h).2 x (qgf k x hx)⟩
theorem q4k {w:Inst} (h:istatic w=true):q27 w.graph w.lease=true:=by simp only [istatic,Bool.and_eq_true] at h;exact h.1.1.1.2
theorem q7d {w:Inst} (h:istatic w=true):q2u (q31 w) w.lease=true:=qoc (ithings_iff.1 (q4k h)).1 (q67 _ _ _)
theorem ql2 (g:List Thing) (h:List Int):q2u (q21 g h 0) (q21 g h 1)=true:=by
 refine q97 (q67 _ _ _) (q67 _ _ _) fun x hx=>?_
 unfold q21 at hx ⊢
 split at hx
 ·rename_i hr
  rw [if_pos hr]
  obtain ⟨k,rfl,hk,e⟩:=idx_mem.1 hx
  refine idx_mem.2 ⟨k,rfl,hk,?_⟩
  rw [decide_eq_true_eq] at e ⊢
  omega
 ·cases hx
theorem qhs {w:Inst} (h:istatic w=true):q2u (q31 w) (q4t w.lease (q21 w.graph w.health 1))=true:=by
 have hl:=(ithings_iff.1 (q4k h)).1
 refine spart_iff.2 ⟨q5l _ _,q5l _ _,fun n hn=>?_⟩
 rw [q31,qkl hl (q67 _ _ _),Bool.and_eq_true] at hn
 rw [qkl hl (q67 _ _ _),Bool.and_eq_true]
 exact ⟨hn.1,(spart_iff.1 (ql2 _ _)).2.2 n hn.2⟩
structure Todo (w : Inst) (l : List Held) (use : List Int) (B : List Held) (v : Inst) : Prop where
 gj:GJ v
 ev:Ev w v
 lt:∀ x∈v.table,v.now<x.to
 good:∀ x∈v.table,x∈w.table∨q2u x.things use=true
 tab:∀ x∈v.table,x∈l
 inl:∀ x∈B,x∈l
 frm:∀ x∈B,x.frm=w.now
 part:∀ x∈B,q2u x.things use=true
 dif:B.Pairwise (fun a b=>a.id≠b.id)
 new:∀ x∈B,∀ y∈v.table,y.id≠x.id
 job:∀ x∈B,∃ j∈v.jobs,j.id=x.id∧j.state=0∧x.to=q1p j.spec w.now∧∀ n∈j.needs,∃ y∈v.jobs,y.id=n∧y.state=3
theorem Todo.step {w:Inst} {l:List Held} {use:List Int} {x:Held} {B:List Held} {v:Inst} (hr:q1s l=true) (hu:q27 w.graph use=true) (h:Todo w l use (x :: B) v):Todo w l use B (qnz v x):=by
 have hx:=List.mem_cons_self (a:=x) (l:=B)
 have hp:=held_iff.1 hr
 have hmay:=hp.2.1 x (h.inl x hx)
 obtain ⟨j0,hj0,e0,s0,to0,nd0⟩:=h.job x hx
 have hnew:=h.new x hx
 have hfr:x.frm=v.now:=by rw [h.frm x hx,h.ev.now]
 have hbeg:Beg v x:=by
  refine ⟨hmay,by rw [h.ev.graph];exact q7k hu (h.part x hx),hfr,⟨j0,hj0,e0,s0,by rw [h.ev.now];exact to0⟩,hnew,?_,fun y hy=>qte hr (h.tab y hy) (h.inl x hx) (hnew y hy)⟩
  have hnd:(x :: v.table).Nodup:=by
   rw [List.nodup_cons]
   refine ⟨fun hm=>hnew x hm rfl,?_⟩
   exact h.gj.ir.pt.imp fun hlt e=>by rw [e] at hlt;omega
  have:=qmh (x :: v.table) l hnd fun y hy=>by
   rcases List.mem_cons.1 hy with rfl | hy
   ·exact h.inl _ hx
   ·exact h.tab y hy
  rw [List.length_cons] at this
  have:=hp.1
  omega
 have hir:=qwu h.gj.ir hbeg
 obtain ⟨j,hj,e,s,hto,ht,hrr,hjr,hev,hm⟩:=qhe h.gj.ir hbeg
 have hjj:j=j0:=q64 h.gj.ir hj hj0 (by rw [e,e0])
 subst hjj
 have stay:∀ z∈v.jobs,z.state=3→z∈(qnz v x).jobs:=fun z hz h3=>(hm z).2 (.inr ⟨hz,fun e2=>by
  have:=q64 h.gj.ir hz hj (by rw [e2,e])
  subst this
  omega⟩)
 have hlt:v.now<x.to:=by
  simp only [hmay,Go.Av.hmay,Bool.and_eq_true,decide_eq_true_eq] at hmay
  omega
 refine ⟨⟨hir,?_,?_,?_⟩,h.ev.trans hev,?_,?_,?_,fun y hy=>h.inl y (List.mem_cons_of_mem _ hy),fun y hy=>h.frm y (List.mem_cons_of_mem _ hy),fun y hy=>h.part y (List.mem_cons_of_mem _ hy),(List.pairwise_cons.1 h.dif).2,?_,?_⟩
 ·intro y hy hst
  rcases (hm y).1 hy with rfl | ⟨hy,_⟩
  ·have:(2:Int)=3∨(2:Int)=4:=hst
   omega
  ·exact h.gj.long y hy hst
 ·intro y hy hst
  rw [hev.now]
  rcases (hm y).1 hy with rfl | ⟨hy,_⟩
  ·have:(3:Int)≤2:=hst
   omega
  ·exact h.gj.past y hy hst
 ·intro y hy hst n hn
  rcases (hm y).1 hy with rfl | ⟨hy,_⟩
  ·obtain ⟨z,hz,h1,h2⟩:=nd0 n hn
   exact ⟨z,stay z hz h2,h1,h2,h.gj.past z hz (by omega)⟩
  ·obtain ⟨z,hz,h1,h2,h4⟩:=h.gj.needs y hy hst n hn
   exact ⟨z,stay z hz h2,h1,h2,h4⟩
 ·intro y hy
  rw [hev.now]
  rw [ht] at hy
  rcases kput_mem.1 hy with rfl | hy
  ·exact hlt
  ·exact h.lt y hy
 ·intro y hy
  rw [ht] at hy
  rcases kput_mem.1 hy with rfl | hy
  ·exact .inr (h.part _ hx)
  ·exact h.good y hy
 ·intro y hy
  rw [ht] at hy
  rcases kput_mem.1 hy with rfl | hy
  ·exact h.inl _ hx
  ·exact h.tab y hy
 ·intro y hy z hz
  rw [ht] at hz
  rcases kput_mem.1 hz with rfl | hz
  ·exact (List.pairwise_cons.1 h.dif).1 y hy
  ·exact h.new y (List.mem_cons_of_mem _ hy) z hz
 ·intro y hy
  obtain ⟨k,hk,k1,k2,k3,k4⟩:=h.job y (List.mem_cons_of_mem _ hy)
  refine ⟨k,(hm k).2 (.inr ⟨hk,?_⟩),k1,k2,k3,fun n hn=>?_⟩
  ·rw [k1]
   exact fun e=>(List.pairwise_cons.1 h.dif).1 y hy e.symm
  ·obtain ⟨z,hz,z1,z2⟩:=k4 n hn
   exact ⟨z,stay z hz z2,z1,z2⟩
theorem Todo.all {w:Inst} {l:List Held} {use:List Int} (hr:q1s l=true) (hu:q27 w.graph use=true):∀ (B:List Held) (v:Inst),Todo w l use B v→Todo w l use [] (B.foldl qnz v)
 | [],v,h=>h
 | x :: B,v,h=>Todo.all hr hu B _ (h.step hr hu)
theorem qd0 {w:Inst} (h:IR w) {wt:Want} (hw:wt∈q2q w):∃ j∈w.jobs,j.id=wt.id∧j.state=0∧wt.spec=j.spec∧∀ n∈j.needs,∃ y∈w.jobs,y.id=n∧y.state=3:=by
 obtain ⟨id,hid,rfl⟩:=List.mem_map.1 hw
 unfold qy at hid
 rw [h.jobs,if_pos rfl] at hid
 obtain ⟨j,hj,rfl⟩:=List.mem_map.1 hid
 have hj:=byPrio_mem.1 hj
 rw [q5k,List.mem_filter,Bool.and_eq_true,decide_eq_true_eq,List.all_eq_true] at hj
 obtain ⟨hj,hs,hn⟩:=hj
 refine ⟨j,hj,rfl,hs,by simp only [qad h.jobs hj],fun n hnn=>?_⟩
 obtain ⟨k,hk⟩:=List.mem_iff_getElem?.1 hj
 have hin:=(jobs_iff.1 h.jobs).2.2.2.2 k j hk n hnn
 obtain ⟨y,hy,rfl⟩:=List.mem_map.1 (List.mem_of_mem_take hin)
 have:=hn _ hnn
 rw [decide_eq_true_eq,q12 (q6o h.pj hy)] at this
 exact ⟨y,hy,rfl,this⟩
theorem qty {w:Inst} (h:GJ w) (hl:∀ x∈w.table,w.now<x.to) (hs:istatic w=true):GJ (q41 w)∧Ev w (q41 w)∧(∀ x∈(q41 w).table,(q41 w).now<x.to)∧∀ x∈(q41 w).table,x∈w.table∨q2u x.things (q31 w)=true:=by
 have hu:=q7d hs
 obtain ⟨l,pk⟩:=qf2 (g:=w.graph) (use:=q31 w) (l0:=w.table) (ws:=q2q w) (now:=w.now) (til:=w.til) (policy:=w.policy) (depth:=w.depth) (q5l _ _) h.ir.table
 have t0:Todo w l (q31 w) (q2v w) w:=⟨h,Ev.refl w,hl,fun x hx=>.inl hx,pk.old,pk.isin,pk.frm,pk.part,pk.dif,pk.new,fun x hx=>by
  obtain ⟨wt,hw,e,hto⟩:=pk.of x hx
  obtain ⟨j,hj,j1,j2,j3,j4⟩:=qd0 h.ir hw
  exact ⟨j,hj,j1.trans e,j2,by rw [hto,j3],j4⟩⟩
 have:=Todo.all pk.r (q7k (q4k hs) hu) _ _ t0
 exact ⟨this.gj,this.ev,this.lt,this.good⟩
theorem qwy {w:Inst} (h:GJ w) (hl:∀ x∈w.table,w.now<x.to) (hs:istatic w=true):GJ (q3q w)∧(∀ x∈(q3q w).table,(q3q w).now<x.to)∧istatic (q3q w)=true∧∀ x∈(q3q w).table,q2u x.things (q4t (q3q w).lease (q21 (q3q w).graph (q3q w).health 1))=true:=by
 have b:=GI.broken h hl
 have r:=GI.refuse b.gj b.lt
 have st:∀ {a c:Inst},Ev a c→istatic a=true→istatic c=true:=fun e k=>by
  unfold istatic at k ⊢
  rw [e.graph,e.health,e.lease,e.til,e.now,e.policy,e.depth];exact k
 have e1:=b.ev.trans r.ev
 obtain ⟨g1,g2,g3,g4⟩:=qty r.gj r.lt (st e1 hs)
 have ev:=e1.trans g2
 refine ⟨g1,g3,st ev hs,fun x hx=>?_⟩
 show q2u x.things (q4t (q41 (q3r (q2w w))).lease (q21 (q41 (q3r (q2w w))).graph (q41 (q3r (q2w w))).health 1))=true
 rw [ev.lease,ev.graph,ev.health]
 rcases g4 x hx with hx | hx
 ·exact qio h.ir x (r.sub x hx)
 ·have:=qa8 hx (qhs (st e1 hs))
  rwa [e1.lease,e1.graph,e1.health] at this
structure GS (i : Inst) : Prop where
 gj:GJ i
 lt:∀ x∈i.table,i.now<x.to
 st:istatic i=true
theorem GS.right {i:Inst} (h:GS i):q2c i=true:=iright_iff.2 ⟨h.st,h.gj.ir,h.lt⟩
def qwf (i:Inst):Prop:=∀ x∈i.table,q2u x.things (q4t i.lease (q21 i.graph i.health 1))=true
theorem GS.look {w:Inst} (h:GS w):GS (q3q w)∧qwf (q3q w):=by
 obtain ⟨a,b,c,d⟩:=qwy h.gj h.lt h.st
 exact ⟨⟨a,b,c⟩,d⟩
theorem q8x {l:List Job} (hp:l.Pairwise (fun a b=>a.id<b.id)) (hc:l.Pairwise (fun a b=>a.came≤b.came)) {a:Job} (ha:a∈l):a.id≤(q15 l).id∧a.came≤(q15 l).came:=by
 obtain ⟨k,hk,rfl⟩:=List.mem_iff_getElem.1 ha
 have hl:l.length-1<l.length:=by omega
 unfold q15
 rw [if_neg (by omega),q12 (List.getElem?_eq_getElem hl)]
 by_cases e:k=l.length-1
 ·subst e;exact ⟨Int.le_refl _,Int.le_refl _⟩
 ·exact ⟨Int.le_of_lt (List.pairwise_iff_getElem.1 hp k (l.length-1) hk hl (by omega)),List.pairwise_iff_getElem.1 hc k (l.length-1) hk hl (by omega)⟩
theorem qfh {l:List Job} (hr:∀ j∈l,q1q j=true):0≤(q15 l).id∧(q15 l).id≤1073741824:=by
 unfold q15
 split
 ·exact ⟨by decide,by decide⟩
 ·have hl:l.length-1<l.length:=by omega
  rw [q12 (List.getElem?_eq_getElem hl)]
  have:=hr _ (List.getElem_mem hl)
  simp only [q1q,Bool.and_eq_true,decide_eq_true_eq] at this
  omega
theorem qp2 {l:List Job} {s:Spec} {needs:List Int} {now:Int} (e:(q18 l s needs now).2.2=0):q24 l=true∧q2m s=true∧q66 needs=true∧tm now=true∧(q15 l).came≤now∧(∀ n∈needs,q29 l n=true)∧l.length≠64∧(q15 l).id≠1073741824∧(q18 l s needs now).1=l++[⟨(q15 l).id+1,s,needs,0,now,0,0⟩]:=by
 unfold q18 at e ⊢
 split at e
 ·simp at e
 rename_i h1
 rw [if_neg h1]
 split at e
 ·simp at e
 rename_i h2
 rw [if_neg h2]
 split at e
 ·simp at e
 rename_i h3
 rw [if_neg h3]
 split at e
 ·simp at e
 rename_i h4
 rw [if_neg h4]
 simp only [Bool.or_eq_true,Bool.not_eq_true',decide_eq_true_eq,not_or,Bool.not_eq_false,Bool.and_eq_true,Int.not_lt] at h1
 simp only [Bool.not_eq_true',Bool.not_eq_false,List.all_eq_true] at h2
 exact ⟨h1.1.1.1.1,h1.1.1.1.2,h1.1.1.2,h1.1.2,h1.2,h2,h3,h4,rfl⟩
theorem qe3 {l:List Job} {s:Spec} {needs:List Int} {now:Int} (hr:q24 l=true) (hs:q2m s=true) (hri:q66 needs=true) (ht:tm now=true) (hc:(q15 l).came≤now) (hn:∀ n∈needs,q29 l n=true) (h64:l.length≠64) (hid:(q15 l).id≠1073741824) :
  q24 (l++[⟨(q15 l).id+1,s,needs,0,now,0,0⟩])=true:=by
 obtain ⟨h1,h2,h3,h4,h5⟩:=jobs_iff.1 hr
 have hl:=qfh h2
 have hnd:∀ n∈needs,∃ j∈l,j.id=n:=fun n hnn=>(q2r h3).1 (hn n hnn)
 refine jobs_iff.2 ⟨by simp;omega,fun j hj=>?_,?_,?_,?_⟩
 ·rcases List.mem_append.1 hj with hj | hj
  ·exact h2 j hj
  ·rw [List.mem_singleton] at hj
   subst hj
   rw [q66,Bool.and_eq_true,decide_eq_true_eq] at hri
   have hnn:qfl ((q15 l).id+1) needs=true:=ql1 fun k hk=>by
    have hg:needs[k]?=some needs[k]:=List.getElem?_eq_getElem hk
    obtain ⟨j,hj,e⟩:=hnd needs[k] (List.getElem_mem hk)
    have hm:=(q8x h3 h4 hj).1
    have hj1:=h2 j hj
    simp only [q1q,Bool.and_eq_true,decide_eq_true_eq] at hj1
    rw [qd1 hg]
    simp only [Bool.and_eq_true,Bool.or_eq_true,decide_eq_true_eq,beq_iff_eq]
    refine ⟨⟨by omega,by omega⟩,?_⟩
    by_cases h0:k=0
    ·exact .inl h0
    ·right
     have hk1:k-1<needs.length:=by omega
     have:=q4f hri.1 hk
     rw [decide_eq_true_eq,if_neg h0,List.getD_eq_getElem?_getD,List.getD_eq_getElem?_getD,hg,List.getElem?_eq_getElem hk1] at this
     rw [List.getElem?_eq_getElem hk1]
     simpa using this
   have ht2:=ht
   rw [tm_iff] at ht
   simp only [q1q,q78,q43,Bool.and_eq_true,decide_eq_true_eq]
   refine ⟨⟨⟨⟨⟨by omega,by omega⟩,hs⟩,hri.2,hnn⟩,ht2⟩,by simp⟩
 ·rw [List.pairwise_append]
  refine ⟨h3,List.pairwise_singleton _ _,fun a ha b hb=>?_⟩
  rw [List.mem_singleton] at hb;subst hb
  have:=(q8x h3 h4 ha).1
  show a.id<(q15 l).id+1
  omega
 ·rw [List.pairwise_append]
  refine ⟨h4,List.pairwise_singleton _ _,fun a ha b hb=>?_⟩
  rw [List.mem_singleton] at hb;subst hb
  have:=(q8x h3 h4 ha).2
  show a.came≤now
  omega
 ·intro k j hj n hnn
  have hk:=(List.getElem?_eq_some_iff.1 hj).1
  rw [List.length_append,List.length_singleton] at hk
  rw [List.map_append,List.take_append_of_le_length (by rw [List.length_map];omega)]
  by_cases hk2:k<l.length
  ·rw [List.getElem?_append_left hk2] at hj
   exact h5 k j hj n hnn
  ·have:k=l.length:=by omega
   subst this
   rw [List.getElem?_append_right (Nat.le_refl _),Nat.sub_self] at hj
   cases hj
   obtain ⟨j,hj,e⟩:=hnd n hnn
   rw [List.take_of_length_le (by rw [List.length_map];exact Nat.le_refl _)]
   exact List.mem_map.2 ⟨j,hj,e⟩
theorem GS.add {i:Inst} (h:GS i) {s:Spec} {needs:List Int} (e:(q18 i.jobs s needs i.now).2.2=0):GS { i with jobs:=(q18 i.jobs s needs i.now).1 }:=by
 obtain ⟨a1,a2,a3,a4,a5,a6,a7,a8,a9⟩:=qp2 e
 have hr:=qe3 a1 a2 a3 a4 a5 a6 a7 a8
 rw [a9]
 have hm:∀ y,y∈i.jobs++[⟨(q15 i.jobs).id+1,s,needs,0,i.now,0,0⟩]→y∈i.jobs∨y=⟨(q15 i.jobs).id+1,s,needs,0,i.now,0,0⟩:=fun y hy=>by
  rcases List.mem_append.1 hy with hy | hy
  ·exact .inl hy
  ·exact .inr (List.mem_singleton.1 hy)
 have h0:=(tm_iff.1 a4).1
 refine ⟨⟨⟨hr,h.gj.ir.table,?_,?_,?_,h.gj.ir.now⟩,?_,?_,?_⟩,h.lt,h.st⟩
 ·intro j hj
  rcases hm j hj with hj | rfl
  ·exact h.gj.ir.came j hj
  ·exact ⟨Int.le_refl _,h0⟩
 ·intro j hj hs
  rcases hm j hj with hj | rfl
  ·exact h.gj.ir.run j hj hs
  ·have:(0:Int)=2:=hs
   omega
 ·intro x hx
  obtain ⟨j,hj,r⟩:=h.gj.ir.held x hx
  exact ⟨j,List.mem_append_left _ hj,r⟩
 ·intro j hj hs
  rcases hm j hj with hj | rfl
  ·exact h.gj.long j hj hs
  ·have:(0:Int)=3∨(0:Int)=4:=hs
   omega
 ·intro j hj hs
  rcases hm j hj with hj | rfl
  ·exact h.gj.past j hj hs
  ·have:(3:Int)≤0:=hs
   omega
 ·intro j hj hs n hn
  rcases hm j hj with hj | rfl
  ·obtain ⟨y,hy,r⟩:=h.gj.needs j hj hs n hn
   exact ⟨y,List.mem_append_left _ hy,r⟩
  ·have:(0:Int)=2∨(0:Int)=3∨(0:Int)=4:=hs
   omega
theorem qnt {i:Inst} (h:GS i) (s:Spec) (needs:List Int):GS (q26 i s needs).1∧((q26 i s needs).2.2=0→qwf (q26 i s needs).1)∧((q26 i s needs).2.2≠0→(q26 i s needs).1=i):=by
 unfold q26
 split
 ·exact ⟨h,fun e=>by simp at e,fun _=>rfl⟩
 ·split
  ·rename_i h2
   exact ⟨h,fun e=>absurd e h2,fun _=>rfl⟩
  ·rename_i h2
   have:=(h.add (Classical.not_not.1 h2)).look
   exact ⟨this.1,fun _=>this.2,fun e=>absurd rfl e⟩
theorem qy0 {i:Inst} (h:GS i) (id what:Int):GS (ido i id what).1∧((ido i id what).2=0→qwf (ido i id what).1)∧((ido i id what).2≠0→(ido i id what).1=i):=by
 unfold ido
 split
 ·exact ⟨h,fun e=>by simp at e,fun _=>rfl⟩
 ·rename_i h1
  split
  ·rename_i h2
   exact ⟨h,fun e=>absurd e h2,fun _=>rfl⟩
  ·have h3:what≠3:=by rintro rfl;simp at h1
   have g:=(GI.refl h.gj h.lt).wdo (id:=id) h3
   have st:istatic (wdo i id what i.now).1=true:=by
    have e:=g.ev
    have k:=h.st
    unfold istatic at k ⊢
    rw [e.graph,e.health,e.lease,e.til,e.now,e.policy,e.depth];exact k
   have:=GS.look ⟨g.gj,g.lt,st⟩
   exact ⟨this.1,fun _=>this.2,fun e=>absurd rfl e⟩
theorem qui {i:Inst} (h:GS i) (l:List Int) (til:Int):GS (q4p i l til).1∧((q4p i l til).2=0→qwf (q4p i l til).1)∧((q4p i l til).2≠0→(q4p i l til).1=i):=by
 unfold q4p
 split
 ·exact ⟨h,fun e=>by simp at e,fun _=>rfl⟩
 ·rename_i h1
  simp only [Bool.or_eq_true,Bool.not_eq_true',not_or,Bool.not_eq_false] at h1
  have k:=h.st
  have:GS { i with lease:=l,til:=til }:=⟨⟨⟨h.gj.ir.jobs,h.gj.ir.table,h.gj.ir.came,h.gj.ir.run,h.gj.ir.held,h.gj.ir.now⟩,h.gj.long,h.gj.past,h.gj.needs⟩,h.lt,by
   simp only [istatic,Bool.and_eq_true] at k ⊢
   exact ⟨⟨⟨⟨k.1.1.1.1,h1.1.2⟩,h1.2⟩,k.1.2⟩,k.2⟩⟩
  exact ⟨this.look.1,fun _=>this.look.2,fun e=>absurd rfl e⟩
theorem qee {g:List Thing} {h:List Int} {n how:Int} (e:(q4s g h n how).2=0):q2o g (q4s g h n how).1=true:=by
 unfold q4s at e ⊢
 split at e
 ·simp at e
 rename_i h1
 rw [if_neg h1]
 split at e
 ·simp at e
 rename_i h2
 rw [if_neg h2]
 simp only [Bool.or_eq_true,Bool.not_eq_true',decide_eq_true_eq,not_or,Bool.not_eq_false,Int.not_lt] at h1
 obtain ⟨⟨hr,l1⟩,l2⟩:=h1
 obtain ⟨g1,g2,g3⟩:=q2z hr
 have ha:((h.set n.toNat how).any fun n=>decide (n<0)||decide (2<n))=false:=by
  rw [List.any_eq_false] at g3 ⊢
  intro x hx
  rcases List.mem_or_eq_of_mem_set hx with hx | rfl
  ·exact g3 x hx
  ·simp;omega
 show q2o g (h.set n.toNat how)=true
 unfold q2o
 rw [g1,ha]
 simp [g2]
theorem qu3 {i:Inst} (h:GS i) (n how:Int):GS (q4c i n how).1∧((q4c i n how).2=0→qwf (q4c i n how).1)∧((q4c i n how).2≠0→(q4c i n how).1=i):=by
 unfold q4c
 split
 ·exact ⟨h,fun e=>by simp at e,fun _=>rfl⟩
 ·split
  ·rename_i h2
   exact ⟨h,fun e=>absurd e h2,fun _=>rfl⟩
  ·rename_i h2
   have k:=h.st
   have:GS { i with health:=(q4s i.graph i.health n how).1 }:=⟨⟨⟨h.gj.ir.jobs,h.gj.ir.table,h.gj.ir.came,h.gj.ir.run,h.gj.ir.held,h.gj.ir.now⟩,h.gj.long,h.gj.past,h.gj.needs⟩,h.lt,by
    simp only [istatic,Bool.and_eq_true] at k ⊢
    exact ⟨⟨⟨⟨qee (Classical.not_not.1 h2),k.1.1.1.2⟩,k.1.1.2⟩,k.1.2⟩,k.2⟩⟩
   exact ⟨this.look.1,fun _=>this.look.2,fun e=>absurd rfl e⟩
theorem qm9 {v:Inst} (h:GJ v) {x:Held} (hx:x∈v.table) (ht:x.to≤v.now):GJ (wdo v x.id 5 x.to).1∧∀ y∈(wdo v x.id 5 x.to).1.table,y∈v.table∧y.id≠x.id:=by
 refine ⟨h.wdo (by decide) ht fun y hy e=>by rw [qmg h.ir hy hx e];exact Int.le_refl _,qlh h.ir hx fun j hj e=>?_⟩
 obtain ⟨j',hj',e',s',hf,hto,_⟩:=h.ir.of hx
 have:=q64 h.ir hj hj' (by rw [e,e'])
 subst this
 have hjr:=(jobs_iff.1 h.ir.jobs).2.1 j hj
 have hfr:=qal hjr (by omega)
 have hh:=(held_iff.1 h.ir.table).2.1 x hx
 simp only [hmay,Bool.and_eq_true,decide_eq_true_eq] at hh
 obtain ⟨⟨⟨⟨_,_⟩,h3⟩,h4⟩,h5⟩:=hh
 simp only [qdv,hjr,h4,Bool.not_true,Bool.false_or,Bool.or_eq_false_iff,decide_eq_false_iff_not]
 refine ⟨⟨⟨?_,?_⟩,?_⟩,?_⟩<;>first | trivial | omega
theorem qcj {i:Inst} {now:Int}:∀ (B:List Held) (v:Inst),GJ v→Ev { i with now:=now } v→(∀ x∈B,x∈i.table∧x.to≤now)→B.Pairwise (fun a b=>a.id≠b.id)→(∀ x∈B,x∈v.table)→(∀ x∈v.table,x∈i.table∧(x∈B∨now<x.to)) →
  GJ (B.foldl (fun a h=>(wdo a h.id 5 h.to).1) v)∧Ev { i with now:=now } (B.foldl (fun a h=>(wdo a h.id 5 h.to).1) v)∧∀ x∈(B.foldl (fun a h=>(wdo a h.id 5 h.to).1) v).table,x∈i.table∧now<x.to
 | [],v,h,ev,_,_,_,ht=>⟨h,ev,fun x hx=>⟨(ht x hx).1,(ht x hx).2.resolve_left (by simp)⟩⟩
 | b :: B,v,h,ev,hB,hp,hin,ht=>by
  have hb:=hB b List.mem_cons_self
  have hbv:=hin b List.mem_cons_self
  have hnow:v.now=now:=ev.now
  obtain ⟨k1,k2⟩:=qm9 h hbv (by rw [hnow];exact hb.2)
  rw [List.pairwise_cons] at hp
  refine qcj B _ k1 (ev.trans (qeh h.ir.jobs _ _ _)) (fun x hx=>hB x (List.mem_cons_of_mem _ hx)) hp.2 (fun x hx=>?_) fun x hx=>?_
  ·
   have hxv:=hin x (List.mem_cons_of_mem _ hx)
   show x∈(Go.Av.wdo v b.id 5 b.to).1.table
   rcases q3h h.ir.jobs b.id 5 b.to with ⟨e,_⟩ | ⟨j,hj,_,s,hb',hs,e1,e⟩
   ·rw [e];exact hxv
   ·rw [e]
    show x∈(if q3z s then (q1a v.table b.id).1 else v.table)
    split
    ·exact ((q9o h.ir.table b.id).2 x).2 ⟨hxv,fun e=>hp.1 x hx e.symm⟩
    ·exact hxv
  ·obtain ⟨k3,k4⟩:=k2 x hx
   refine ⟨(ht x k3).1,?_⟩
   rcases (ht x k3).2 with h5 | h5
   ·rcases List.mem_cons.1 h5 with rfl | h5
    ·exact absurd rfl k4
    ·exact .inl h5
   ·exact .inr h5
theorem qgq {i:Inst} (h:GS i) (now:Int):GS (q40 i now).1∧((q40 i now).2=0→qwf (q40 i now).1)∧((q40 i now).2≠0→(q40 i now).1=i)∧(tm now=true→i.now≤now→(q40 i now).2=0):=by
 unfold q40
 split
 ·rename_i h1
  refine ⟨h,fun e=>by simp at e,fun _=>rfl,fun h2 h3=>?_⟩
  rw [h.right,h2] at h1
  simp at h1
  omega
 ·rename_i h1
  simp only [Bool.or_eq_true,Bool.not_eq_true',decide_eq_true_eq,not_or,Bool.not_eq_false,Int.not_lt] at h1
  obtain ⟨⟨_,h2⟩,h3⟩:=h1
  have g0:GJ { i with now:=now }:=⟨⟨h.gj.ir.jobs,h.gj.ir.table,fun j hj=>⟨Int.le_trans (h.gj.ir.came j hj).1 h3,Int.le_trans (h.gj.ir.came j hj).2 h3⟩,h.gj.ir.run,h.gj.ir.held,h2⟩,h.gj.long,fun j hj hs=>Int.le_trans (h.gj.past j hj hs) h3,h.gj.needs⟩
  have hov:(q1x i.table now).2=i.table.filter fun h=>decide (h.to≤now):=by unfold q1x;rw [h.gj.ir.table,if_pos rfl]
  obtain ⟨k1,k2,k3⟩:=qcj (i:=i) (now:=now) (q1x i.table now).2 { i with now:=now } g0 (Ev.refl _) (fun x hx=>by
    rw [hov,List.mem_filter,decide_eq_true_eq] at hx;exact hx)
   (by rw [hov];exact (h.gj.ir.pt.filter _).imp fun h e=>by omega)
   (fun x hx=>by rw [hov,List.mem_filter] at hx;exact hx.1)
   (fun x hx=>⟨hx,by
    by_cases e:x.to≤now
    ·exact .inl (by rw [hov,List.mem_filter,decide_eq_true_eq];exact ⟨hx,e⟩)
    ·exact .inr (by omega)⟩)
  have k:=h.st
  have:GS ((q1x i.table now).2.foldl (fun a h=>(wdo a h.id 5 h.to).1) { i with now:=now }):=⟨k1,fun x hx=>by rw [k2.now];exact (k3 x hx).2,by
   simp only [istatic,Bool.and_eq_true] at k ⊢
   rw [k2.graph,k2.health,k2.lease,k2.til,k2.now,k2.policy,k2.depth]
   exact ⟨⟨k.1.1,h2⟩,k.2⟩⟩
  exact ⟨this.look.1,fun _=>this.look.2,fun e=>absurd rfl e,fun _ _=>rfl⟩
theorem qwg {g:List Thing} {p d:Int} (e:(q92 g p d).2=0):GS (q92 g p d).1:=by
 unfold q92 at e ⊢
 split at e
 ·simp at e
 rename_i h1
 rw [if_neg h1]
 simp only [Bool.or_eq_true,Bool.not_eq_true',not_or,Bool.not_eq_false] at h1
 have hl:=(q1w h1.1).2
 refine ⟨⟨⟨show q24 []=true by decide,show q1s []=true by decide,(fun _ h=>nomatch h),(fun _ h=>nomatch h),(fun _ h=>nomatch h),show tm 0=true by decide⟩,(fun _ h=>nomatch h),(fun _ h=>nomatch h),(fun _ h=>nomatch h)⟩,(fun _ h=>nomatch h),?_⟩
 simp only [istatic,Bool.and_eq_true]
 refine ⟨⟨⟨⟨?_,ithings_iff.2 ⟨?_,fun x hx=>?_⟩⟩,show tm 4611686018427387904=true by decide⟩,show tm 0=true by decide⟩,h1.2⟩
 ·unfold q2o
  rw [h1.1]
  simp
 ·unfold q45
  split
  ·exact qg3 _ hl
  ·exact qkh
 ·unfold q45 at hx
  split at hx
  ·obtain ⟨k,rfl,hk,_⟩:=idx_mem.1 hx
   show (k:Int)<(g.length:Int)
   omega
  ·cases hx
structure JPre (i n : Inst) : Prop where
 len:i.jobs.length≤n.jobs.length
 jobs:∀ (k:Nat) (a b:Job),i.jobs[k]?=some a→n.jobs[k]?=some b→JE a b
theorem JPre.refl (i:Inst):JPre i i:=⟨Nat.le_refl _,fun k a b ha hb=>by rw [ha] at hb;cases hb;exact JE.refl a⟩
theorem qsu {l:List Int} (h:sok l=true):l=qdz (inl l):=qg8 h (qlw _) fun n=>by
 rw [qmu]
 by_cases hn:n<256
 ·simp [hn]
 ·cases e:inl l n with
  | false=>simp
  | true=>exact absurd (qat h e) hn
theorem GS.free {i:Inst} (h:GS i):q2u (q9h i) i.lease=true:=by
 unfold q9h
 rw [h.right]
 exact qa8 (qf8 (q5l _ _) (qhp _ _ _)) (q7d h.st)
end Go.Av
namespace Go.Av
open Go.Proofs
theorem qyg {i:Inst} (h:GS i) (a:LAct):GS (ado i a).1∧((ado i a).2.2=0→qwf (ado i a).1)∧((ado i a).2.2≠0→(ado i a).1=i):=by
 unfold ado
 split
 ·exact qy0 h _ _
 ·split
  ·exact ⟨(qgq h _).1,(qgq h _).2.1,(qgq h _).2.2.1⟩
  ·split
   ·exact qui h _ _
   ·split
    ·exact qu3 h _ _
    ·exact qnt h _ _
theorem qvo {g:List Thing} {p d:Int} (e:(q92 g p d).2≠0):(q92 g p d).1=qqn:=by
 unfold q92 at e ⊢
 split at e
 ·rename_i h;rw [if_pos h]
 ·exact absurd rfl e
structure G2 where
 M:qj
 p:Nat
 q:Nat
end Go.Av
namespace Go.Av
def uUp (g:List Thing) (n x:Int):Bool:=if 0≤x then uU g n x.toNat else false
theorem qy9 {g:List Thing} (hg:q1o g=true) {n:Int}:∀ k:Nat,k<g.length→(k:Int)<n→uU g n k=false:=by
 intro k
 induction k using Nat.strongRecOn with
 | _ k ih =>
  intro hk hn
  have ht:g[k]?=some g[k]:=List.getElem?_eq_getElem hk
  have hup:=q34 hg ht
  rw [qjm ht hup.1,decide_eq_false (by omega),Bool.false_or]
  by_cases h0:0≤g[k].up
  ·rw [ih g[k].up.toNat (by omega) (by omega) (by omega)];simp
  ·rw [decide_eq_false h0,Bool.false_and]
theorem quu {g:List Thing} (hg:q1o g=true) {n x:Int} (hn:0≤n) (hx:x≤n) (hl:x<(g.length:Int)):uUp g n x=decide (x=n):=by
 unfold uUp
 split
 ·rename_i h0
  obtain ⟨k,rfl⟩:∃ k:Nat,x=(k:Int):=⟨x.toNat,by omega⟩
  rw [Int.toNat_natCast]
  by_cases e:(k:Int)=n
  ·have ht:g[k]?=some (g[k]'(by omega)):=List.getElem?_eq_getElem (by omega)
   rw [qjm ht (q34 hg ht).1,decide_eq_true e,Bool.true_or]
  ·rw [qy9 hg k (by omega) (by omega),decide_eq_false e]
 ·rw [decide_eq_false (by omega)]
theorem qvn {g:List Thing} (hg:q1o g=true) {n:Int} {k:Nat} {t:Thing} (ht:g[k]?=some t) (hn:n<(k:Int)):uUp g n (k:Int)=uUp g n t.up:=by
 unfold uUp
 rw [if_pos (by omega),Int.toNat_natCast,qjm ht (q34 hg ht).1,decide_eq_false (by omega),Bool.false_or]
 split
 ·rename_i h;rw [decide_eq_true h,Bool.true_and]
 ·rename_i h;rw [decide_eq_false h,Bool.false_and]
theorem qrm {g:List Thing} {n:Int} (h:q44 g n=false):q45 g n=[]:=by unfold q45;rw [if_neg (by rw [h];decide)]
theorem qo2 {g:List Thing} {h:List Int} (e:q2o g h=true) (m:Int):q21 g h m=idx (fun k=>decide (wW g h k≤m)) g.length:=by
 rw [q21,if_pos e];rfl
theorem qq3 {g:List Thing} {h:List Int} (e:q2o g h=false) (m:Int):q21 g h m=[]:=by
 rw [q21,if_neg (by rw [e];decide)]
end Go.Av
namespace Go.Av
open Go.Proofs
set_option maxHeartbeats 0 in
theorem qno (g:List Thing) (n k:Nat) (H:qj) (hg:q1o g=true) (hn:n<g.length) (hk:k<g.length):AC Tryz.prog 105 [.pl (g.map qq),.int .i64 (n:Int),.int .i64 (k:Int)] H (Ret (.bool (uU g (n:Int) k)) H):=by
 have hg256:=(q1w hg).2
 refine AC.body (N:=18) [.tmp 6] Tryz.func105 rfl rfl rfl (Nat.le_of_ble_eq_true rfl) fun B hB=>?_
 refine Z1r ?_
 refine Z1d ?_
 refine qm (G:=Int) (fun x=>-1≤x∧x<(g.length:Int)∧uUp g (n:Int) x=uU g (n:Int) k) (fun x=>[(0,.pl (g.map qq)),(1,.int .i64 (n:Int)),(2,.int .i64 x)]) (fun _=>H++[]) (fun x=>(x+1).toNat) (k:Int) ⟨by omega,by omega,by rw [uUp,if_pos (by omega),Int.toNat_natCast]⟩ Y6 (Fit.refl _ _) ?_
 rintro x ⟨h1,h2,h3⟩
 refine Z2z ?_
 refine qa rfl (fun hc=>?_) (fun hc=>?_)
 ·have hlt:(n:Int)<x:=by simpa using hc
  obtain ⟨m,rfl⟩:∃ m:Nat,x=(m:Int):=⟨x.toNat,by omega⟩
  obtain ⟨t,ht,htl⟩:=qo (l:=g) (k:=m) (by omega)
  have hr:=qh qq ht
  have hup:=q34 hg ht
  have hst:=qvn hg ht hlt
  clear hc
  refine Zhi ?_
  refine Z4h ?_
  exact ⟨t.up,by omega,⟨by omega,by omega,by rw [← hst,h3]⟩,Y6,.refl _ _⟩
 ·have hle:x≤(n:Int):=by simpa using hc
  rw [quu hg (by omega) hle h2] at h3
  rw [← h3]
  refine Z2t ?_
  refine Z14 ?_
  exact Zb
set_option maxHeartbeats 0 in
theorem qdp (g:List Thing) (n:Int) (H:qj) (hl:g.length≤1000000) (hw:TW g):AC Tryz.prog 56 [.pl (g.map qq),.int .i64 n] H (Ret (.pl ((q45 g n).map eI)) H):=by
 refine AC.body (N:=35) [.tmp 4] Tryz.func56 rfl rfl rfl (Nat.le_of_ble_eq_true rfl) fun B hB=>?_
 refine Z4m ?_
 refine Z4l ?_
 refine Z9 ?_
 refine qn 19 (.bool (!q44 g n)) ?_ ?_
 ·refine Zw ?_
  refine qb rfl rfl (fun hg2=>?_) (fun hg2=>?_)
  ·refine Z64 ?_
   refine Z3z ?_
   exact Zus
  ·refine Zj ?_
   refine Zcw ?_
   refine Z27 ?_
   refine Z3e ?_
   refine qb rfl rfl (fun hg8=>?_) (fun hg8=>?_)
   ·refine Z3z ?_
    exact Zus
   ·refine Zc3 ?_
    refine q5b rfl rfl (by decide) (V2.call (qcv _ _ (by omega) Y1d) rfl) ?_
    refine Z6c ?_
    exact Zus
 refine Z1 ?_
 refine qa rfl (fun hc=>?_) (fun hc=>?_)
 ·rw [qrm Y19]
  refine Z4s ?_
  refine q1c 4 rfl ?_
  exact Zbb
 have hth:q44 g n=true:=by simpa using hc
 rw [q89 hth]
 have hth2:=hth
 simp only [q44,Bool.and_eq_true,decide_eq_true_eq] at hth2
 obtain ⟨⟨hn0,hnl⟩,hg⟩:=hth2
 have hg256:=(q1w hg).2
 obtain ⟨m,rfl⟩:∃ m:Nat,n=(m:Int):=⟨n.toNat,by omega⟩
 clear hc
 refine Z1e ?_
 refine Zsy ?_
 refine qm (G:=Nat) (fun k=>k≤g.length) (fun k=>[(0,.pl (g.map qq)),(1,.int .i64 (m:Int)),(5,.sl (Lid H.length 0) (idx (uU g (m:Int)) k).length 0 (idx (uU g (m:Int)) k).length (idx (uU g (m:Int)) k).length),(6,.int .i64 (k:Int))]) (fun k=>H++[⟨(idx (uU g (m:Int)) k).length,1,(idx (uU g (m:Int)) k).map eI⟩]) (fun k=>g.length-k) 0 (Nat.zero_le _) Y6 (.inl rfl) ?_
 intro k hk
 refine Z8z ?_
 refine qa rfl (fun hc=>?_) (fun hc=>?_)
 ·have hlt:k<g.length:=by simpa using hc
  have hst:=q5t (uU g (m:Int)) k
  have hle:=q62 (uU g (m:Int)) k
  clear hc
  refine Z4o ?_
  refine Z30 ?_
  refine ao2 Y11 (V2.call (qno g m k _ hg (by omega) (by omega)) rfl) ?_
  refine Z4r ?_
  refine qa rfl (fun hc=>?_) (fun hc=>?_)
  ·rw [hc,if_pos rfl] at hst
   generalize idx (uU g (m:Int)) k=acc at hst hle ⊢
   refine Zcr ?_
   refine Zb3 ?_
   refine Zct ?_
   rw [show (acc.map eI).take acc.length=acc.map eI from List.take_of_length_le (by simp)]
   refine Z2l ?_
   exact ⟨k+1,by omega,by omega,by rw [hst,List.length_append];exact Y6,by rw [hst,List.length_append];exact Fit.loc hB Yu Y1 Y8⟩
  ·rw [hc,if_neg (by decide),List.append_nil] at hst
   generalize idx (uU g (m:Int)) k=acc at hst hle ⊢
   refine Z2l ?_
   exact ⟨k+1,by omega,by omega,by rw [hst];exact Y6,by rw [hst];exact Fit.refl _ _⟩
 ·have:k=g.length:=by simp at hc;omega
  subst this
  refine Zba ?_
  refine qu (ys:=(idx (uU g (m:Int)) g.length).map eI) 4 rfl rfl rfl rfl Yg (by simp) (q1y 0 _) ?_
  exact Zbb
set_option maxHeartbeats 0 in
theorem qcr (g:List Thing) (h:List Int) (most:Int) (H:qj) (hl:g.length≤1000000) (hhl:h.length≤1000000) (hw:TW g):AC Tryz.prog 119 [.pl (g.map qq),.pl (h.map eI),.int .i64 most] H (Ret (.pl ((q21 g h most).map eI)) H):=by
 refine AC.body (N:=30) [.tmp 6] Tryz.func119 rfl rfl rfl (Nat.le_of_ble_eq_true rfl) fun B hB=>?_
 refine Z4m ?_
 refine Zbc ?_
 refine Zmv ?_
 refine Z4d ?_
 refine qa rfl (fun hc=>?_) (fun hc=>?_)
 ·rw [qq3 Y19]
  refine Zbd ?_
  exact Zbb
 have hh:q2o g h=true:=by simpa using hc
 rw [qo2 hh]
 clear hc
 refine Z1e ?_
 refine Zc4 ?_
 refine qm (G:=Nat) (fun k=>k≤g.length) (fun k=>[(0,.pl (g.map qq)),(1,.pl (h.map eI)),(2,.int .i64 most),(7,.sl (Lid H.length 0) (idx (fun k=>decide (wW g h k≤most)) k).length 0 (idx (fun k=>decide (wW g h k≤most)) k).length (idx (fun k=>decide (wW g h k≤most)) k).length),(8,.int .i64 (k:Int))]) (fun k=>H++[⟨(idx (fun k=>decide (wW g h k≤most)) k).length,1,(idx (fun k=>decide (wW g h k≤most)) k).map eI⟩]) (fun k=>g.length-k) 0 (Nat.zero_le _) Y6 (.inl rfl) ?_
 intro k hk
 refine Z8z ?_
 refine qa rfl (fun hc=>?_) (fun hc=>?_)
 ·have hlt:k<g.length:=by simpa using hc
  have hst:=q5t (fun k=>decide (wW g h k≤most)) k
  have hle:=q62 (fun k=>decide (wW g h k≤most)) k
  clear hc
  refine Za5 ?_
  refine Z8 ?_
  refine ao2 Y11 (V2.call (qjy g h k _ hh (by omega)) rfl) ?_
  refine Z8 ?_
  refine Zg ?_
  refine Z4r ?_
  refine qa rfl (fun hc=>?_) (fun hc=>?_)
  ·rw [hc,if_pos rfl] at hst
   generalize idx (fun k=>decide (wW g h k≤most)) k=acc at hst hle ⊢
   refine Zcr ?_
   refine Zb3 ?_
   refine Zct ?_
   rw [show (acc.map eI).take acc.length=acc.map eI from List.take_of_length_le (by simp)]
   refine Z2l ?_
   exact ⟨k+1,by omega,by omega,by rw [hst,List.length_append];exact Y6,by rw [hst,List.length_append];exact Fit.loc hB Yu Y1 Y8⟩
  ·rw [hc,if_neg (by decide),List.append_nil] at hst
   generalize idx (fun k=>decide (wW g h k≤most)) k=acc at hst hle ⊢
   refine Z2l ?_
   exact ⟨k+1,by omega,by omega,by rw [hst];exact Y6,by rw [hst];exact Fit.refl _ _⟩
 ·have:k=g.length:=by simp at hc;omega
  subst this
  refine Zba ?_
  refine qu (ys:=(idx (fun k=>decide (wW g h k≤most)) g.length).map eI) 6 rfl rfl rfl rfl Yg (by simp) (q1y 0 _) ?_
  exact Zbb
set_option maxHeartbeats 0 in
theorem qsd (g:List Thing) (h:List Int) (n how:Int) (H:qj) (hl:g.length≤1000000) (hhl:h.length≤1000000) (hw:TW g):AC Tryz.prog 116 [.pl (g.map qq),.pl (h.map eI),.int .i64 n,.int .i64 how] H (Ret (.tup [.pl ((q4s g h n how).1.map eI),.int .i64 (q4s g h n how).2]) H):=by
 refine AC.body (N:=41) [.tmp 8,.tmp 9] Tryz.func116 rfl rfl rfl (Nat.le_of_ble_eq_true rfl) fun B hB=>?_
 refine Z4l ?_
 refine Za ?_
 refine qn 22 (.bool (!q2o g h||decide (how<0)||decide (2<how))) ?_ ?_
 ·refine Z4n ?_
  refine Z4n ?_
  refine Zmv ?_
  refine Z26 ?_
  refine qb rfl rfl (fun hg4=>?_) (fun hg4=>?_)
  ·refine Z7z ?_
   refine Z9j ?_
   exact Zut
  ·refine Z82 ?_
   refine qb rfl rfl (fun hg8=>?_) (fun hg8=>?_)
   ·refine Z9j ?_
    exact Zut
   ·refine Zt2 ?_
    exact Zuu
 unfold q4s
 refine Z1 ?_
 refine qa rfl (fun hc=>?_) (fun hc=>?_)
 ·rw [if_pos hc]
  refine Zuv ?_
  try dsimp only
  exact Zhu
 rw [if_neg Y16]
 clear hc
 refine Z1 ?_
 refine qn 31 (.bool (decide (n<0∨(h.length:Int)≤n))) ?_ ?_
 ·refine Zw ?_
  refine qb rfl rfl (fun hg2=>?_) (fun hg2=>?_)
  ·refine Z5g ?_
   exact Zut
  ·refine Zj ?_
   refine Zcw ?_
   refine Z27 ?_
   refine Zr ?_
   exact Zuu
 refine Z1 ?_
 refine qa rfl (fun hc=>?_) (fun hc=>?_)
 ·rw [if_pos (of_decide_eq_true hc)]
  refine Zuv ?_
  try dsimp only
  exact Zhu
 have hn:=of_decide_eq_false hc
 rw [if_neg hn]
 clear hc
 obtain ⟨m,rfl⟩:∃ m:Nat,n=(m:Int):=⟨n.toNat,by omega⟩
 obtain ⟨x,hx,hxl⟩:=qo (l:=h) (k:=m) (by omega)
 have hr:=qh eI hx
 rw [Int.toNat_natCast]
 refine Z4v ?_
 refine ao2 Y11 (q4b rfl (Src.pl rfl (qml h)) rfl (by decide) Y1c Y1c rfl) ?_
 refine Zb5 ?_
 refine Z9e ?_
 refine Zb1 ?_
 refine Z30 ?_
 refine Zuw ?_
 refine ao2 Y1b (q25 (sz:=1) (v:=.int _ _) (r':=[_]) rfl rfl rfl rfl (qm1 hr) rfl rfl rfl (Nat.le_of_ble_eq_true rfl) rfl) ?_
 refine Zej ?_
 rw [Nat.zero_add]
 refine Zov ?_
 refine Z1d ?_
 refine qu (ys:=(h.set m how).map eI) 8 rfl rfl rfl rfl (by rw [List.drop_zero,List.take_of_length_le (by simp),List.map_set]) (by simp) (q1y 0 _) ?_
 exact Zox
set_option maxHeartbeats 0 in
theorem qbg (i:Inst) (H:qj) (hi:IW i) (hw:TW i.graph):AC Tryz.prog 69 [.agg (q19 i)] H (Ret (.pl ((q31 i).map eI)) H):=by
 have n1:=hi.graph
 have n2:=hi.health
 have n3:=hi.lease
 have n4:=q9g i.graph i.health 0
 refine AC.body (N:=11) [.tmp 2] Tryz.func69 rfl rfl rfl (Nat.le_of_ble_eq_true rfl) fun B hB=>?_
 refine Zlt ?_
 refine Zav ?_
 refine Zqa ?_
 refine Z6i ?_
 refine Zmz ?_
 refine Zux ?_
 refine Zo9 ?_
 refine Zuy ?_
 refine q48 6 rfl Y17 (by decide) (fun _=>V2.call (qcr i.graph i.health 0 _ n1 n2 hw) rfl) ?_
 refine q48 7 rfl Y17 (by decide) (fun _=>V2.call (q4w i.lease (q21 i.graph i.health 0) 1 (by omega) (by omega) _) rfl) ?_
 refine Zsc ?_
 refine Zo0 ?_
 exact Z22
set_option maxHeartbeats 0 in
theorem qpd (l:List Held) (frm to:Int) (H:qj) (hl:HW l):AC Tryz.prog 70 [.pl (l.map qg),.int .i64 frm,.int .i64 to] H (Ret (.pl ((q3c l frm to).map eI)) H):=by
 have hll:=hl.1
 refine AC.body (N:=39) [.tmp 6] Tryz.func70 rfl rfl rfl (Nat.le_of_ble_eq_true rfl) fun B hB=>?_
 refine Z4m ?_
 refine Z4p ?_
 refine Zuz ?_
 refine Zta ?_
 unfold q3c
 refine Z1 ?_
 refine qa rfl (fun hc=>?_) (fun hc=>?_)
 ·rw [if_neg Y19]
  refine Zbd ?_
  exact Zbb
 rw [if_pos Y19]
 clear hc
 refine Z1e ?_
 refine q1c 7 rfl ?_
 refine qm (G:=Nat) (fun k=>k≤l.length) (fun k=>[(0,.pl (l.map qg)),(1,.int .i64 frm),(2,.int .i64 to),(7,.pl ((q5f (l.take k) frm to).map eI)),(8,.int .i64 (k:Int))]) (fun _=>H++[]) (fun k=>l.length-k) 0 (Nat.zero_le _) Y6 (Fit.refl _ _) ?_
 intro k hk
 refine Z8z ?_
 refine qa rfl (fun hc=>?_) (fun hc=>?_)
 ·have hlt:k<l.length:=by simpa using hc
  obtain ⟨x,hx,hxl⟩:=qo hlt
  have hr:=qh qg hx
  have hxw:=hl.2 x hxl
  have hst:=qa0 hx frm to
  have hle:=q9n (l.take k) frm to
  clear hc
  refine Z1h ?_
  refine Zv1 ?_
  refine Zv2 ?_
  refine Zsp ?_
  refine aqp 7 rfl Y17 (by decide) (fun G=>qe rfl rfl hr rfl) ?_
  refine aqp 8 rfl Y17 (by decide) (fun G=>qx rfl (by decide)) ?_
  refine aqp 9 rfl Y17 (by decide) (fun G=>qz (v:=.int _ _) rfl hr rfl) ?_
  refine Zu5 ?_
  refine Zsq ?_
  refine q48 12 rfl Y17 (by decide) (fun _=>V2.call (qd2 x.frm x.to frm to _) rfl) ?_
  refine Zo0 ?_
  refine Z1 ?_
  refine qa rfl (fun hc=>?_) (fun hc=>?_)
  ·rw [if_pos hc] at hst
   refine Zf4 ?_
   refine Zc7 ?_
   refine Zhg ?_
   refine Zlm ?_
   refine ao2 Y11 (V2.call (q4w (q5f (l.take k) frm to) x.things 0 (by omega) (by omega) _) rfl) ?_
   refine Z4w ?_
   refine Zib ?_
   refine Z2l ?_
   exact ⟨k+1,by omega,by omega,by rw [hst];exact Y6,.refl _ _⟩
  ·rw [if_neg Y16] at hst
   refine Z2l ?_
   exact ⟨k+1,by omega,by omega,by rw [hst];exact Y6,.refl _ _⟩
 ·have:k=l.length:=by simp at hc;omega
  subst this
  rw [List.take_length]
  refine Zic ?_
  refine Z9 ?_
  exact Zb
set_option maxHeartbeats 0 in
theorem qow (i:Inst) (H:qj) (hi:IW i) (ht:TagsW i):AC Tryz.prog 25 [.agg (q19 i)] H (Ret (.pl ((q9h i).map eI)) H):=by
 have n5:=hi.table
 have n6:=qfj i
 have n7:=qci i.table i.now (qdu i.now 1)
 refine AC.body (N:=17) [.tmp 2] Tryz.func25 rfl rfl rfl (Nat.le_of_ble_eq_true rfl) fun B hB=>?_
 refine Zlt ?_
 refine Zav ?_
 refine Z4c ?_
 refine Zv3 ?_
 refine Zta ?_
 unfold q9h
 refine Z1 ?_
 refine qa rfl (fun hc=>?_) (fun hc=>?_)
 ·rw [if_pos hc]
  refine Z4t ?_
  exact Zbb
 rw [if_neg Y16]
 clear hc
 refine Zqa ?_
 refine Zfj ?_
 refine q48 1 rfl Y17 (by decide) (fun _=>V2.call (qbg i _ hi ht.graph) rfl) ?_
 refine Zmz ?_
 refine Zux ?_
 refine Zo9 ?_
 refine aqp 5 rfl Y17 (by decide) (fun G=>qi (v:=.int _ _) rfl (lk rfl rfl) rfl rfl rfl) ?_
 refine Zps ?_
 refine Zv4 ?_
 refine q48 8 rfl Y17 (by decide) (fun _=>V2.call (qa4 i.now 1 _) rfl) ?_
 refine q48 9 rfl Y17 (by decide) (fun _=>V2.call (qpd i.table i.now (qdu i.now 1) _ n5) rfl) ?_
 refine q48 10 rfl Y17 (by decide) (fun _=>V2.call (q4w (q31 i) (q3c i.table i.now (qdu i.now 1)) 2 (by omega) (by omega) _) rfl) ?_
 refine Zt5 ?_
 refine Zo0 ?_
 exact Z22
theorem qto {l:List Job} {k:Nat} {x:Job} (h:l[k]?=some x):l.set k x=l:=by
 apply List.ext_getElem?
 intro i
 by_cases e:k=i
 ·subst e;rw [List.getElem?_set_self (List.getElem?_eq_some_iff.1 h).1,h]
 ·rw [List.getElem?_set_ne e]
theorem qwr {j:Job} {w now:Int} (h:(jdo j w now).2≠0):(jdo j w now).1=j:=by
 rcases qdl j w now with ⟨_,e⟩ | ⟨s,_,_,e⟩
 ·exact e
 ·rw [e] at h;exact absurd rfl h
set_option maxHeartbeats 0 in
theorem qbr (l:List Job) (id what now:Int) (H:qj) (hl:l.length≤1000000) (hq:QT l):AC Tryz.prog 111 [.pl (l.map q1d),.int .i64 id,.int .i64 what,.int .i64 now] H (Ret (.tup [.pl ((q1n l id what now).1.map q1d),.int .i64 (q1n l id what now).2]) H):=by
 refine AC.body (N:=46) [.tmp 8,.tmp 9] Tryz.func111 rfl rfl rfl (Nat.le_of_ble_eq_true rfl) fun B hB=>?_
 refine Z4l ?_
 refine Z4 ?_
 refine Z4o ?_
 refine Zmx ?_
 refine Z4d ?_
 refine qa rfl (fun hc=>?_) (fun hc=>?_)
 ·have hno:q24 l=false:=by simpa only [Bool.not_eq_true'] using hc
  rw [show q1n l id what now=(l,1) by rw [q1n,hno];rfl]
  refine Zuv ?_
  try dsimp only
  exact Zhu
 have hyes:q24 l=true:=by simpa only [Bool.not_eq_false'] using hc
 have hs:=q28 hyes
 have hat:=q6d hs id
 clear hc
 refine Zbe ?_
 refine ao2 Y11 (V2.call (q7x l id _ hl) rfl) ?_
 refine Z4 ?_
 try dsimp only [put]
 rw [hat]
 cases hhit:q29 l id with
 | false =>
  rw [if_neg (by decide)]
  rw [show q1n l id what now=(l,6) by rw [q1n,hyes,hhit];rfl]
  refine Z12 ?_
  refine Zqi ?_
  try dsimp only
  refine Z1 ?_
  refine qa rfl (fun hc=>?_) (fun hc=>?_)
  ·refine Zic ?_
   refine Za ?_
   exact Z7r
  ·simp at hc
 | true =>
  rw [if_pos rfl]
  have hn:q11 l id<l.length:=by simp only [q29,Bool.and_eq_true,decide_eq_true_eq] at hhit;exact hhit.1
  obtain ⟨x,hx,hxl⟩:=qo hn
  have hr:=qh q1d hx
  have hxq:=hq x hxl
  rw [show q1n l id what now=(l.set (q11 l id) (jdo x what now).1,(jdo x what now).2) by rw [q1n,hyes,hhit,q12 hx];rfl]
  refine Z12 ?_
  refine Zqi ?_
  try dsimp only
  refine Z1 ?_
  refine qa rfl (fun hc=>?_) (fun hc=>?_)
  ·simp at hc;omega
  clear hc
  refine Zbe ?_
  refine Zcy ?_
  refine Z30 ?_
  refine ao2 Y11 (V2.call (qtz x what now hxq _) rfl) ?_
  refine Zoz ?_
  refine Zlu ?_
  refine Z4 ?_
  refine Zd2 ?_
  refine Zaz ?_
  refine qa rfl (fun hc=>?_) (fun hc=>?_)
  ·have he:=qwr (j:=x) (w:=what) (now:=now) Y19
   rw [he,qto hx]
   refine Zbe ?_
   refine Z4w ?_
   refine Za ?_
   exact Z7r
  have he:(jdo x what now).2=0:=by simpa using hc
  rw [he]
  clear hc
  refine Z4v ?_
  refine ao2 Y11 (q4b rfl (Src.pl rfl (q6v l)) rfl (by decide) Y1c Y1c rfl) ?_
  refine Zb5 ?_
  refine Zp5 ?_
  refine Zb2 ?_
  refine Z4b ?_
  refine Zuw ?_
  refine Zp0 ?_
  refine qf ?_
  refine Zp8 ?_
  rw [Nat.zero_add,← List.map_set]
  refine Zov ?_
  refine Z1d ?_
  refine Zp1 ?_
  exact Zox
set_option maxHeartbeats 0 in
theorem qnv (l:List Held) (id:Int) (H:qj) (hw:HW l):AC Tryz.prog 113 [.pl (l.map qg),.int .i64 id] H (Ret (.tup [.pl ((q1a l id).1.map qg),.agg (qg (q1a l id).2.1),.int .i64 (q1a l id).2.2]) H):=by
 have hl:=hw.1
 refine AC.body (N:=34) [.tmp 4,.cell 5 60,.tmp 6] Tryz.func113 rfl rfl rfl (Nat.le_of_ble_eq_true rfl) fun B hB=>?_
 refine Z4l ?_
 refine Z9d ?_
 refine Z4 ?_
 refine Z9e ?_
 refine Z4o ?_
 refine Zuz ?_
 refine Z4d ?_
 refine qa rfl (fun hc=>?_) (fun hc=>?_)
 ·have hno:q1s l=false:=by simpa only [Bool.not_eq_true'] using hc
  rw [show q1a l id=(l,qdy,1) by rw [q1a,hno];rfl]
  refine Z4o ?_
  refine Zi0 ?_
  refine Z4w ?_
  refine Zfi ?_
  refine Z4 ?_
  refine Zi1 ?_
  refine Z1 ?_
  exact Zp7
 have hyes:q1s l=true:=by simpa only [Bool.not_eq_false'] using hc
 have hs:=q4a hyes
 have hat:=qa1 hs id
 clear hc
 refine Zbe ?_
 refine ao2 Y11 (V2.call (qga l id _ hl) rfl) ?_
 refine Z4 ?_
 try dsimp only [put]
 rw [hat]
 cases hhit:q23 l id with
 | false =>
  rw [if_neg (by decide)]
  rw [show q1a l id=(l,qdy,6) by rw [q1a,hyes,hhit];rfl]
  refine Z12 ?_
  refine Zqi ?_
  try dsimp only
  refine Z1 ?_
  refine qa rfl (fun hc=>?_) (fun hc=>?_)
  ·refine Z4o ?_
   refine Zi0 ?_
   refine Z4w ?_
   refine Zfi ?_
   refine Z4 ?_
   refine Zi1 ?_
   refine Z1 ?_
   exact Zp7
  ·simp at hc
 | true =>
  rw [if_pos rfl]
  have hk:qw l id<l.length:=by simp only [q23,Bool.and_eq_true,decide_eq_true_eq] at hhit;exact hhit.1
  obtain ⟨x,hx,hxl⟩:=qo hk
  have hr:=qh qg hx
  rw [show q1a l id=(l.eraseIdx (qw l id),x,0) by rw [q1a,hyes,hhit,q5j hx];rfl]
  generalize qw l id=k at *
  refine Z12 ?_
  refine Zqi ?_
  try dsimp only
  refine Z1 ?_
  refine qa rfl (fun hc=>?_) (fun hc=>?_)
  ·simp at hc;omega
  clear hc
  refine Z1 ?_
  refine q2y mixed (some 15) 999 ?_
  refine Z6g ?_
  refine Zv5 ?_
  refine Zv6 ?_
  refine aq0 3 rfl Y17 (by decide) (fun _=>qbj rfl .none (.some rfl rfl) (by omega) Y1c (q6m l)) ?_
  refine Zv2 ?_
  refine Zsp ?_
  refine aq0 7 rfl Y17 (by decide) (fun _=>q5y (r:=((k+1:Nat):Int)) rfl rfl (by rw [show (k:Int)+1=((k+1:Nat):Int) by omega];exact q1b (by omega) (by omega))) ?_
  refine aq0 8 rfl Y17 (by decide) (fun _=>qbj (l:=k+1) rfl (.some rfl rfl) .none Y1c (by simp) (q6m l)) ?_
  refine aq0 10 rfl Y17 (by decide) (fun _=>qd (v:=.pl _) rfl) ?_
  refine Zsq ?_
  refine aq0 12 rfl Y17 (by decide) (fun _=>qe rfl rfl hr rfl) ?_
  refine aq0 13 rfl Y17 (by decide) (fun _=>q3d rfl hr rfl) ?_
  refine aqs 4 rfl Y17 Yv Y11 (q4b rfl (Src.pl rfl (fun r hr=>q6m l r (List.mem_of_mem_drop (List.mem_of_mem_take hr)))) rfl (by decide) Y1c Y1c rfl) ?_
  refine aqs 9 rfl Y17 Yv Y11 (qh1 rfl rfl rfl rfl rfl (Src.pl rfl (fun r hr=>q6m l r (List.mem_of_mem_drop (List.mem_of_mem_take hr)))) rfl (by simp) Y1c Y1c) ?_
  refine aq0 14 rfl Y17 (by decide) (fun _=>q14 (v:=.sl _ _ _ _ _) rfl) ?_
  refine aqs 15 rfl Y17 Yv Y1b (q2p (sz:=4) rfl rfl rfl rfl rfl rfl rfl rfl (Nat.le_of_ble_eq_true rfl)) ?_
  refine aq0 16 rfl Y17 (by decide) (fun _=>q14 (v:=.int _ _) rfl) ?_
  refine Z9q ?_
  try dsimp only [List.length_cons,List.length_nil,Nat.reduceAdd,put,List.cons_append,List.nil_append,List.set_cons_succ,List.set_cons_zero]
  refine Z1d ?_
  refine qu (ys:=(l.eraseIdx k).map qg) 4 rfl rfl rfl rfl ?_ (by simp [List.length_eraseIdx,hk];omega) (q1e 0 _) ?_
  ·simp [List.eraseIdx_eq_take_drop_succ]
   have e:min k l.length=k:=by omega
   rw [e,List.take_take,Nat.min_self,List.take_of_length_le (i:=l.length-(k+1)) (by simp),List.take_of_length_le Y1c]
  refine q33 ?_
  exact Zp7
def rEnd (i:Inst) (id what at_:Int):Inst:={ i with jobs:=(q1n i.jobs id what at_).1,table:=(q1a i.table id).1 }
set_option maxHeartbeats 0 in
theorem qiq (i:Inst) (id what at_:Int) (H:qj) (hi:IW i) (hq:QT i.jobs):AC Tryz.prog 115 [.agg (q19 i),.int .i64 id,.int .i64 what,.int .i64 at_] H (Ret (.agg (q19 (rEnd i id what at_))) H):=by
 have n4:=hi.jobs
 have n5:=hi.table
 refine AC.body (N:=29) [.cell 8 27] Tryz.func115 rfl rfl rfl (Nat.le_of_ble_eq_true rfl) fun B hB=>?_
 refine Zpp ?_
 refine qf ?_
 refine Zhv ?_
 refine Z53 ?_
 refine Z30 ?_
 refine Z8 ?_
 refine ao2 Y11 (V2.call (qbr i.jobs id what at_ _ n4 hq) rfl) ?_
 refine Zpi ?_
 refine Zv7 ?_
 refine Z53 ?_
 refine Z8 ?_
 refine Zv8 ?_
 refine Zph ?_
 refine Z9s ?_
 refine Z15 ?_
 refine Zv7 ?_
 refine Z4c ?_
 refine Zok ?_
 refine qf ?_
 refine Z89 ?_
 exact Zhx
end Go.Av
namespace Go.Av
def qbv (l:List Held) (h:Held) (k:Nat):List Held:=if qw l h.id<k then l.take (qw l h.id)++h :: (l.take k).drop (qw l h.id) else l.take k
theorem qho (l:List Held) (h:Held):qbv l h 0=[]:=by simp [qbv]
theorem qvm {l:List Held} {h x:Held} {k:Nat} (hx:l[k]?=some x) (e:qw l h.id=k):qbv l h (k+1)=(qbv l h k++[h])++[x]:=by
 have hk:=(List.getElem?_eq_some_iff.1 hx).1
 unfold qbv
 rw [e,if_pos (by omega),if_neg (by omega),List.take_add_one,hx,Option.toList_some,List.drop_append_of_le_length Ys]
 rw [List.drop_of_length_le (i:=k) (l:=l.take k) Ys]
 simp
theorem qx8 {l:List Held} {h x:Held} {k:Nat} (hx:l[k]?=some x) (e:qw l h.id≠k):qbv l h (k+1)=qbv l h k++[x]:=by
 have hk:=(List.getElem?_eq_some_iff.1 hx).1
 unfold qbv
 by_cases h1:qw l h.id<k
 ·rw [if_pos (by omega),if_pos h1,List.take_add_one,hx,Option.toList_some,List.drop_append_of_le_length Ys]
  simp
 ·rw [if_neg (by omega),if_neg h1,List.take_add_one,hx,Option.toList_some]
theorem qn5 {l:List Held} {h:Held} {k:Nat} (hk:k≤l.length):(qbv l h k).length=k+if qw l h.id<k then 1 else 0:=by
 unfold qbv
 split
 ·simp only [List.length_append,List.length_cons,List.length_drop,List.length_take];omega
 ·rw [List.length_take];omega
theorem qv8 {l:List Held} {h:Held} (e:qw l h.id<l.length):qbv l h l.length=l.take (qw l h.id)++h :: l.drop (qw l h.id):=by
 unfold qbv
 rw [if_pos e,List.take_length]
theorem qqp {l:List Held} {h:Held} (e:¬ qw l h.id<l.length):qbv l h l.length++[h]=l.take (qw l h.id)++h :: l.drop (qw l h.id):=by
 unfold qbv
 rw [if_neg e,List.take_length,List.take_of_length_le (by omega),List.drop_of_length_le (by omega)]
theorem qwn {l:List Held} {h x:Held} {k:Nat} (hp:l.Pairwise (fun a b=>a.id<b.id)) (hx:l[k]?=some x) (hn:q23 l h.id=false):(h.id<x.id↔qw l h.id≤k):=by
 have hne:x.id≠h.id:=fun e=>by
  have:=(q32 hp (id:=h.id)).2 ⟨x,List.mem_of_getElem? hx,e⟩
  rw [this] at hn;cases hn
 constructor
 ·intro h1
  by_cases e:qw l h.id≤k
  ·exact e
  ·have:=qdh (f:=Held.id) (id:=h.id) (l:=l) (k:=k) (by rw [qae] at e;omega) hx
   omega
 ·intro h1
  have:=qah (f:=Held.id) (id:=h.id) hp (by rw [qae] at h1;exact h1) hx
  omega
def qt5 (needs:List Int) (i:Nat):Bool:=decide ((if i=0 then 0 else needs.getD (i-1) 0)<needs.getD i 0)
theorem qao (needs:List Int):q66 needs=(qh4 (qt5 needs) needs.length&&decide (needs.length≤16)):=rfl
theorem qm2 {needs:List Int} {k:Nat} (h:∀ i,i<k→qt5 needs i=true):∀ i,i<k→0<needs.getD i 0
 | 0,hi=>by have:=h 0 hi;simpa [qt5] using this
 | i+1,hi=>by
  have h1:=qm2 h i (by omega)
  have h2:=h (i+1) hi
  simp only [qt5,Nat.add_one_ne_zero,if_false,Nat.add_sub_cancel,decide_eq_true_eq] at h2
  omega
end Go.Av
namespace Go.Av
open Go.Proofs
theorem qsi (n:Nat) (h:Held) (acc:List Held) {a b:Nat}:∀ o∈([⟨0,4,[qg h]⟩,⟨a,b,acc.map qg⟩]:qj),∀ r∈o.rows,AV.bels n r=true:=by
 intro o ho r hr
 rcases List.mem_cons.1 ho with rfl | ho
 ·simp only [List.mem_singleton] at hr;subst hr;exact q1e _ [h] _ (List.mem_singleton.2 rfl)
 ·simp only [List.mem_singleton] at ho;subst ho;exact q1e _ _ r hr
set_option maxHeartbeats 0 in
theorem qij (l:List Held) (h:Held) (H:qj) (hw:HW l) (hh:h.things.length≤1000000):AC Tryz.prog 159 [.pl (l.map qg),.agg (qg h)] H (Ret (.tup [.pl ((q1f l h).1.map qg),.int .i64 (q1f l h).2]) H):=by
 have hl:=hw.1
 refine AC.body (N:=71) [.tmp 4,.tmp 5] Tryz.func159 rfl rfl rfl (Nat.le_of_ble_eq_true rfl) fun B hB=>?_
 refine Zf8 ?_
 refine Zsx ?_
 refine Z33 ?_
 refine Z1 ?_
 refine qn 16 (.bool (!(q1s l&&hmay h))) ?_ ?_
 ·refine Z4n ?_
  refine Zuz ?_
  refine Z26 ?_
  refine qb rfl rfl (fun hg3=>?_) (fun hg3=>?_)
  ·exact Zgv
  ·refine Z5x ?_
   refine q5b rfl rfl (by decide) (V2.call (qix _ _ Y1d) rfl) ?_
   refine Z6c ?_
   exact Zgu
 unfold q1f
 refine Z1 ?_
 refine qa rfl (fun hc=>?_) (fun hc=>?_)
 ·rw [if_pos hc]
  refine Zuv ?_
  try dsimp only
  exact Zhu
 rw [if_neg Y16]
 have hrm:q1s l=true∧hmay h=true:=by simpa using hc
 obtain ⟨hyes,hmy⟩:=hrm
 have hs:=q4a hyes
 have hat:=qa1 hs h.id
 have h256:=(held_iff.1 hyes).1
 clear hc
 refine Z4o ?_
 refine Z37 ?_
 refine ao2 Y11 (V2.call (qga l h.id _ hl) rfl) ?_
 refine Z1s ?_
 refine Zib ?_
 rw [hat]
 cases hhit:q23 l h.id with
 | true =>
  rw [if_pos rfl,if_pos rfl]
  refine Z1 ?_
  refine qa rfl (fun hc=>?_) (fun hc=>?_)
  ·refine Zuv ?_
   try dsimp only
   exact Zhu
  ·simp at hc<;>omega
 | false =>
  simp only [Bool.false_eq_true,if_false]
  refine Z1 ?_
  refine qa rfl (fun hc=>?_) (fun hc=>?_)
  ·simp at hc
  clear hc hat
  refine Z8u ?_
  refine Z1s ?_
  refine Z9 ?_
  refine qa rfl (fun hc=>?_) (fun hc=>?_)
  ·have e256:l.length=256:=by simp at hc;omega
   rw [if_pos (show (decide (l.length=256)||l.any fun x=>q3p x h)=true by rw [e256];rfl)]
   refine Zuv ?_
   try dsimp only
   exact Zhu
  have n256:l.length≠256:=by simp at hc;omega
  clear hc
  refine Z4m ?_
  refine Z23 ?_
  refine q22 (k:=1) 6 4 rfl (by decide) rfl ?_
  refine qm (G:=Nat) (fun k=>k≤l.length∧∀ x∈l.take k,q3p x h=false) (fun k=>[(0,.pl (l.map qg)),(3,.pt (Lid H.length 0) 0 0 0),(6,.sl (Lid H.length 1) (qbv l h k).length 0 (qbv l h k).length (qbv l h k).length),(7,.bool (decide (qw l h.id<k))),(8,.int .i64 (k:Int))]) (fun k=>H++[⟨0,4,[qg h]⟩,⟨(qbv l h k).length,4,(qbv l h k).map qg⟩]) (fun k=>l.length-k) 0 ⟨Nat.zero_le _,by simp⟩ (by rw [qho];exact Y6) (.inl (by rw [qho];rfl)) ?_
  rintro k ⟨hk,hno⟩
  refine Z8z ?_
  refine qa rfl (fun hc=>?_) (fun hc=>?_)
  ·have hlt:k<l.length:=by simpa using hc
   obtain ⟨x,hx,hxl⟩:=qo hlt
   have hr:=qh qg hx
   have hxw:=hw.2 x hxl
   have sx:=q5r ((held_iff.1 hyes).2.1 x hxl)
   have sh:=q5r hmy
   have hpos:=qwn hs hx hhit
   have hlen:=qn5 (l:=l) (h:=h) (k:=k) (by omega)
   have hle:(qbv l h k).length≤k+1:=by rw [hlen];split<;>omega
   have h1:=qvm (h:=h) hx
   have h2:=qx8 (h:=h) hx
   clear hc
   refine Zo7 ?_
   refine Z92 ?_
   refine Zjx ?_
   refine Zv9 ?_
   refine q48 5 rfl Y17 (by decide) (fun _=>V2.call (qdi x h _ hxw hh sx sh) rfl) ?_
   refine Z1m ?_
   refine qa rfl (fun hc=>?_) (fun hc=>?_)
   ·rw [if_pos (show (decide (l.length=256)||l.any fun x=>q3p x h)=true by rw [Bool.or_eq_true];exact .inr (List.any_eq_true.2 ⟨x,hxl,hc⟩))]
    refine Zuv ?_
    try dsimp only
    exact Zhu
   have hno2:∀ y∈l.take (k+1),q3p y h=false:=by
    intro y hy
    rw [List.take_add_one,hx,Option.toList_some,List.mem_append] at hy
    rcases hy with hy | hy
    ·exact hno y hy
    ·rw [List.mem_singleton] at hy;subst hy;simpa using hc
   clear hc hno
   generalize qbv l h k=acc at *
   refine Z1 ?_
   refine q1l 52 (.bool (decide (qw l h.id=k))) ?_ ?_
   ·refine Zaa ?_
    refine Zab ?_
    refine Zlz ?_
    refine Z9y ?_
    refine qp (g:=43) rfl (fun hg2=>?_) (fun hg2=>?_)
    ·refine q1h (g:=43) 3 rfl Y17 (by decide) rfl rfl (fun _=>qd (v:=.pl _) rfl) ?_
     refine q1h (g:=43) 4 rfl Y17 (by decide) rfl rfl (fun _=>qd (v:=.int _ _) rfl) ?_
     refine q1j (g:=43) 5 rfl Y17 (by decide) rfl rfl (fun G=>qe rfl rfl hr rfl) ?_
     refine q1j (g:=43) 6 rfl Y17 (by decide) rfl rfl (fun G=>qx rfl (by decide)) ?_
     refine q1j (g:=43) 7 rfl Y17 (by decide) rfl rfl (fun G=>qz (v:=.int _ _) rfl hr rfl) ?_
     refine q1j (g:=43) 8 rfl Y17 (by decide) rfl rfl (fun G=>qc rfl (lk rfl rfl) rfl (by decide)) ?_
     refine q1j (g:=43) 9 rfl Y17 (by decide) rfl rfl (fun G=>qi (v:=.int _ _) rfl (lk rfl rfl) rfl rfl rfl) ?_
     refine q1h (g:=43) 10 rfl Y17 (by decide) rfl rfl (fun _=>qjz rfl rfl) ?_
     refine Zbh ?_
     exact Zva
    ·refine qr (g:=43) 3 rfl Y17 (by decide) rfl rfl rfl ?_
     refine qr (g:=43) 4 rfl Y17 (by decide) rfl rfl rfl ?_
     refine qr (g:=43) 5 rfl Y17 (by decide) rfl rfl rfl ?_
     refine qr (g:=43) 6 rfl Y17 (by decide) rfl rfl rfl ?_
     refine Z6o ?_
     refine Z6p ?_
     refine Z6q ?_
     refine Z6r ?_
     refine Zbz ?_
     exact Zva
   refine Z1 ?_
   refine qa rfl (fun hc=>?_) (fun hc=>?_)
   ·have e:=of_decide_eq_true hc
    have h1:=h1 e
    rw [decide_eq_false (by omega)]
    clear hc h2
    refine Zop ?_
    refine Zpo ?_
    rw [show (acc.map qg).take acc.length=acc.map qg from List.take_of_length_le (by simp)]
    refine Z1r ?_
    refine Zb1 ?_
    refine Zfh ?_
    refine Zpo ?_
    rw [show (acc.map qg++[qg h]).take (acc.length+1)=acc.map qg++[qg h] from List.take_of_length_le (by simp)]
    refine Z2l ?_
    refine ⟨k+1,by omega,⟨by omega,hno2⟩,?_,?_⟩
    ·rw [h1,List.length_append,List.length_append,decide_eq_true (show qw l h.id<k+1 by omega)];exact Y6
    ·rw [h1,List.length_append,List.length_append]
     refine Fit.loc hB (by rw [List.map_append,List.map_append];rfl) Y1 ?_
     exact qsi _ h _
   ·have e:=of_decide_eq_false hc
    have h2:=h2 e
    clear hc h1
    refine Zb1 ?_
    refine Zfh ?_
    refine Zpo ?_
    rw [show (acc.map qg).take acc.length=acc.map qg from List.take_of_length_le (by simp)]
    refine Z2l ?_
    refine ⟨k+1,by omega,⟨by omega,hno2⟩,?_,?_⟩
    ·rw [h2,List.length_append,decide_eq_decide.2 (show qw l h.id<k+1↔qw l h.id<k by omega)];exact Y6
    ·rw [h2,List.length_append]
     refine Fit.loc hB Yu Y1 ?_
     exact qsi _ h _
  ·have:k=l.length:=by simp at hc;omega
   subst this
   rw [List.take_length] at hno
   have hnn:¬ (decide (l.length=256)||l.any fun x=>q3p x h)=true:=by
    rw [Bool.or_eq_true,decide_eq_true_eq,List.any_eq_true]
    rintro (e | ⟨x,hx,e⟩)
    ·exact n256 e
    ·rw [hno x hx] at e;cases e
   rw [if_neg hnn]
   have hlen:=qn5 (l:=l) (h:=h) (k:=l.length) (Nat.le_refl _)
   have hle:(qbv l h l.length).length≤l.length+1:=by rw [hlen];split<;>omega
   clear hc hno
   by_cases e:qw l h.id<l.length
   ·rw [decide_eq_true e]
    rw [← qv8 e]
    generalize qbv l h l.length=acc at *
    refine Z2w ?_
    refine Zta ?_
    try dsimp only
    refine Z1 ?_
    refine qa rfl (fun hc=>?_) (fun hc=>?_)
    ·cases hc
    refine Zov ?_
    refine Z1d ?_
    refine qu (ys:=acc.map qg) 4 rfl rfl rfl rfl Yg (by simp) (q1e 0 _) ?_
    exact Zox
   ·rw [decide_eq_false e]
    rw [← qqp e]
    generalize qbv l h l.length=acc at *
    refine Z2w ?_
    refine Zta ?_
    try dsimp only
    refine Z1 ?_
    refine qa rfl (fun hc=>?_) (fun hc=>?_)
    ·refine Zop ?_
     refine Zpo ?_
     rw [show (acc.map qg).take acc.length=acc.map qg from List.take_of_length_le (by simp)]
     refine Zov ?_
     refine Z1d ?_
     refine qu (ys:=(acc++[h]).map qg) 4 rfl rfl rfl rfl (by rw [List.drop_zero,List.map_append];exact List.take_of_length_le (by simp)) (by simp) (q1e 0 _) ?_
     exact Zox
    ·cases hc
theorem qc6 {l:List Job} {s:Spec} {needs:List Int} {now:Int} (h:(!(q24 l&&q2m s&&q66 needs&&tm now)||decide (now<(q15 l).came))=true):q18 l s needs now=(l,0,1):=by
 unfold q18;rw [if_pos h]
theorem qht {l:List Job} {s:Spec} {needs:List Int} {now:Int} (h:(!(q24 l&&q2m s&&q66 needs&&tm now)||decide (now<(q15 l).came))=false):q18 l s needs now=if !(needs.all fun n=>q29 l n) then (l,0,6)
 else if l.length=64 then (l,0,5) else if (q15 l).id=1073741824 then (l,0,9)
 else (l++[⟨(q15 l).id+1,s,needs,0,now,0,0⟩],(q15 l).id+1,0):=by
 conv=>lhs;unfold q18
 rw [if_neg (by rw [h];decide)]
theorem qif {l:List Job} (hr:∀ j∈l,q1q j=true):0≤(q15 l).came:=by
 unfold q15
 split
 ·exact by decide
 ·have hl:l.length-1<l.length:=by omega
  rw [q12 (List.getElem?_eq_getElem hl)]
  have:=hr _ (List.getElem_mem hl)
  have h5:tm (l[l.length-1]).came=true:=by simp only [q1q,Bool.and_eq_true] at this;exact this.1.2
  exact (tm_iff.1 h5).1
theorem qvk {needs:List Int} {k:Nat} {x:Int} (hx:needs[k]?=some x):qt5 needs k=decide ((if k=0 then 0 else needs.getD (k-1) 0)<x):=by
 unfold qt5;rw [List.getD_eq_getElem?_getD (i:=k),hx];rfl
set_option maxHeartbeats 0 in
theorem qq0 (l:List Job) (s:Spec) (needs:List Int) (now:Int) (H:qj) (hl:l.length≤1000000) (hq:QT l) (hs:s.tag.size≤9223372036854775807) (hn:needs.length≤1000000):AC Tryz.prog 117 [.pl (l.map q1d),.agg (q2i s),.pl (needs.map eI),.int .i64 now] H (Ret (.tup [.pl ((q18 l s needs now).1.map q1d),.int .i64 (q18 l s needs now).2.1,.int .i64 (q18 l s needs now).2.2]) H):=by
 refine AC.body (N:=122) [.tmp 8,.tmp 9,.tmp 10] Tryz.func117 rfl rfl rfl (Nat.le_of_ble_eq_true rfl) fun B hB=>?_
 refine Zpz ?_
 refine Z16 ?_
 refine Z33 ?_
 refine Z5 ?_
 refine Z5 ?_
 refine Z8u ?_
 refine Z2q ?_
 refine q4m ([(0,.pl (l.map q1d)),(2,.pl (needs.map eI)),(3,.int .i64 now),(5,.pt (Lid H.length 0) 0 0 0),(11,.int .i64 (if l.length=0 then 1 else (q15 l).id)),(12,.int .i64 (q15 l).came)]) (H++[⟨0,7,[q2i s]⟩]) ?_ ?_
 ·by_cases hl0:l.length=0
  ·have e0:q15 l=qua:=by unfold q15;rw [if_pos hl0]
   rw [if_pos hl0,e0]
   refine qa rfl (fun hc=>?_) (fun hc=>?_)
   ·simp at hc;omega
   ·refine Z1 ?_
    exact q2d Y6 (.inl rfl)
  ·rw [if_neg hl0]
   obtain ⟨x,hx,hxl⟩:=qo (l:=l) (k:=l.length-1) (by omega)
   have e0:q15 l=x:=by unfold q15;rw [if_neg hl0,q12 hx]
   have hr:=qh q1d hx
   rw [e0]
   refine qa rfl (fun hc=>?_) (fun hc=>?_)
   ·refine Z4o ?_
    refine Z8w ?_
    refine Zq1 ?_
    refine Zhh ?_
    refine Z4g ?_
    refine Z4o ?_
    refine Z8w ?_
    refine Zq1 ?_
    refine Zhh ?_
    refine Z4g ?_
    exact q2d Y6 (.inl rfl)
   ·rw [decide_eq_false_iff_not,List.length_map] at hc;omega
 refine Z1 ?_
 refine qn 53 (.bool (!(q24 l&&q2m s&&decide (needs.length≤16))||decide (now<(q15 l).came)||decide (4611686018427387904<now))) ?_ ?_
 ·refine Z4n ?_
  refine Zmx ?_
  refine Z26 ?_
  refine qb rfl rfl (fun hg3=>?_) (fun hg3=>?_)
  ·refine Z3x ?_
   refine Z3l ?_
   refine Z9j ?_
   exact Zvb
  ·refine Z5x ?_
   refine Zvc ?_
   refine Z66 ?_
   refine qb rfl rfl (fun hg8=>?_) (fun hg8=>?_)
   ·refine Z3x ?_
    refine Z9j ?_
    exact Zvb
   ·refine Zcw ?_
    refine Z3o ?_
    refine qb rfl rfl (fun hg13=>?_) (fun hg13=>?_)
    ·refine Z3l ?_
     refine Z9j ?_
     exact Zvd
    ·refine Zj ?_
     refine Z82 ?_
     refine qb rfl rfl (fun hg18=>?_) (fun hg18=>?_)
     ·refine Z9j ?_
      exact Zvb
     ·refine Zt2 ?_
      exact Zvd
 refine Z1 ?_
 refine qa rfl (fun hc=>?_) (fun hc=>?_)
 ·rw [qc6 (by
   simp only [Bool.or_eq_true,Bool.not_eq_true',Bool.and_eq_false_iff,decide_eq_true_eq,decide_eq_false_iff_not,qao,tm] at hc ⊢
   rcases hc with ((((h | h) | h) | h) | h)
   ·exact .inl (.inl (.inl (.inl h)))
   ·exact .inl (.inl (.inl (.inr h)))
   ·exact .inl (.inl (.inr (.inr h)))
   ·exact .inr h
   ·exact .inl (.inr (.inr (by omega))))]
  refine Zic ?_
  refine Z16 ?_
  try dsimp only
  refine Z1 ?_
  exact Zq4
 simp only [Bool.or_eq_false_iff,Bool.not_eq_false',Bool.and_eq_true,decide_eq_true_eq,decide_eq_false_iff_not] at hc
 obtain ⟨⟨⟨⟨hyes,hsr⟩,h16⟩,hcm⟩,hmx⟩:=hc
 have hjr:=(jobs_iff.1 hyes).2.1
 have hc0:=qif hjr
 have htm:tm now=true:=tm_iff.2 ⟨by omega,by omega⟩
 have hso:=q28 hyes
 have h64:=(jobs_iff.1 hyes).1
 have hid:=qfh hjr
 refine Z1e ?_
 refine qm (G:=Nat) (fun k=>k≤needs.length∧∀ i,i<k→qt5 needs i=true) (fun k=>[(0,.pl (l.map q1d)),(2,.pl (needs.map eI)),(3,.int .i64 now),(5,.pt (Lid H.length 0) 0 0 0),(11,.int .i64 (if l.length=0 then 1 else (q15 l).id)),(13,.int .i64 (k:Int))]) (fun _=>H++[⟨0,7,[q2i s]⟩]) (fun k=>needs.length-k) 0 ⟨Nat.zero_le _,fun i h=>by omega⟩ Y6 (.inl rfl) ?_
 rintro k ⟨hk,hri⟩
 refine Z8z ?_
 refine qa rfl (fun hc=>?_) (fun hc=>?_)
 ·have hlt:k<needs.length:=by simpa using hc
  obtain ⟨x,hx,hxl⟩:=qo hlt
  obtain ⟨y,hy,hyl⟩:=qo (l:=needs) (k:=k-1) (by omega)
  have hr:=qh eI hx
  have hr2:=qh eI hy
  have hrb:=qvk hx
  have hps:=qm2 hri
  rw [List.getD_eq_getElem?_getD,hy,Option.getD_some] at hrb
  have hy1:0<k→0<y:=fun h=>by
   have:=hps (k-1) (by omega)
   rwa [List.getD_eq_getElem?_getD,hy,Option.getD_some] at this
  clear hc
  refine Z1 ?_
  refine q1l 81 (.bool (!qt5 needs k)) ?_ ?_
  ·refine Zd5 ?_
   refine Z92 ?_
   refine Z93 ?_
   refine Zbf ?_
   refine Zbg ?_
   refine qp (g:=66) rfl (fun hg5=>?_) (fun hg5=>?_)
   ·refine qr (g:=66) 6 rfl Y17 (by decide) rfl rfl rfl ?_
    refine qr (g:=66) 7 rfl Y17 (by decide) rfl rfl rfl ?_
    refine qr (g:=66) 8 rfl Y17 (by decide) rfl rfl rfl ?_
    refine q2b (g:=69) 9 rfl Y17 (by decide) rfl rfl ?_
    refine q2b (g:=69) 10 rfl Y17 (by decide) rfl rfl ?_
    refine q2b (g:=69) 11 rfl Y17 (by decide) rfl rfl ?_
    refine q2b (g:=69) 12 rfl Y17 (by decide) rfl rfl ?_
    refine q2b (g:=69) 13 rfl Y17 (by decide) rfl rfl ?_
    refine q2b (g:=69) 14 rfl Y17 (by decide) rfl rfl ?_
    refine q2b (g:=69) 15 rfl Y17 (by decide) rfl rfl ?_
    refine q2b (g:=69) 16 rfl Y17 (by decide) rfl rfl ?_
    refine q2b (g:=69) 17 rfl Y17 (by decide) rfl rfl ?_
    refine q2b (g:=69) 18 rfl Y17 (by decide) rfl rfl ?_
    refine qr (g:=66) 19 rfl Y17 (by decide) rfl rfl rfl ?_
    refine Zdo ?_
    exact Zve
   ·refine q1h (g:=66) 6 rfl Y17 (by decide) rfl rfl (fun _=>qd (v:=.int _ _) rfl) ?_
    refine q1h (g:=66) 7 rfl Y17 (by decide) rfl rfl (fun _=>qjz rfl rfl) ?_
    refine q1h (g:=66) 8 rfl Y17 (by decide) rfl rfl (fun _=>qd (v:=.bool _) rfl) ?_
    refine qp (g:=69) rfl (fun hg8=>?_) (fun hg8=>?_)
    ·refine q1h (g:=69) 9 rfl Y17 (by decide) rfl rfl (fun _=>qd (v:=.pl _) rfl) ?_
     refine q1h (g:=69) 10 rfl Y17 (by decide) rfl rfl (fun _=>qd (v:=.int _ _) rfl) ?_
     refine q1j (g:=69) 11 rfl Y17 (by decide) rfl rfl (fun G=>qe rfl rfl hr rfl) ?_
     refine q1j (g:=69) 12 rfl Y17 (by decide) rfl rfl (fun G=>qz (v:=.int _ _) rfl hr rfl) ?_
     refine q1h (g:=69) 13 rfl Y17 (by decide) rfl rfl (fun _=>qd (v:=.pl _) rfl) ?_
     refine q1h (g:=69) 14 rfl Y17 (by decide) rfl rfl (fun _=>qd (v:=.int _ _) rfl) ?_
     refine q1h (g:=69) 15 rfl Y17 (by decide) rfl rfl (fun _=>q5p (r:=((k-1:Nat):Int)) rfl rfl (by have h0:0<k:=(by (simp at hg8;omega));rw [show (k:Int)-1=((k-1:Nat):Int) by omega];exact q1b (by omega) (by omega))) ?_
     refine q1j (g:=69) 16 rfl Y17 (by decide) rfl rfl (fun G=>qe rfl rfl hr2 rfl) ?_
     refine q1j (g:=69) 17 rfl Y17 (by decide) rfl rfl (fun G=>qz (v:=.int _ _) rfl hr2 rfl) ?_
     refine q1h (g:=69) 18 rfl Y17 (by decide) rfl rfl (fun _=>qqc rfl rfl) ?_
     refine q1h (g:=66) 19 rfl Y17 (by decide) rfl rfl (fun _=>q16 (v:=.bool _) rfl rfl) ?_
     refine Zeb ?_
     exact q1i Y17 Yv (Out.mk (by (refine congrArg AV.bool ?_;(rw [hrb];clear hB hr hr2 hrb hps hri hx hy hxl hyl hq hso hjr;grind))) Yb)
    ·refine qr (g:=69) 9 rfl Y17 (by decide) rfl rfl rfl ?_
     refine qr (g:=69) 10 rfl Y17 (by decide) rfl rfl rfl ?_
     refine qr (g:=69) 11 rfl Y17 (by decide) rfl rfl rfl ?_
     refine qr (g:=69) 12 rfl Y17 (by decide) rfl rfl rfl ?_
     refine qr (g:=69) 13 rfl Y17 (by decide) rfl rfl rfl ?_
     refine qr (g:=69) 14 rfl Y17 (by decide) rfl rfl rfl ?_
     refine qr (g:=69) 15 rfl Y17 (by decide) rfl rfl rfl ?_
     refine qr (g:=69) 16 rfl Y17 (by decide) rfl rfl rfl ?_
     refine Zvf ?_
     refine Zvg ?_
     refine q1h (g:=66) 19 rfl Y17 (by decide) rfl rfl (fun _=>q17 (v:=.bool _) rfl rfl) ?_
     refine Zeb ?_
     exact Zve
  refine Z1 ?_
  refine qa rfl (fun hc=>?_) (fun hc=>?_)
  ·have hbad:qt5 needs k=false:=by simpa using hc
   rw [qc6 (by rw [qao,q1z hlt hbad];simp)]
   refine Zic ?_
   refine Z16 ?_
   try dsimp only
   refine Z1 ?_
   exact Zq4
  have hgood:qt5 needs k=true:=by simpa using hc
  refine Z2l ?_
  exact ⟨k+1,by omega,⟨by omega,fun i hi=>by
   by_cases e:i=k
   ·subst e;exact hgood
   ·exact hri i (by omega)⟩,Y6,.refl _ _⟩
 have:k=needs.length:=by simp at hc;omega
 subst this
 have hrs:q66 needs=true:=by rw [qao,q2s hri,decide_eq_true h16];rfl
 rw [qht (by rw [hyes,hsr,hrs,htm,decide_eq_false hcm];rfl)]
 clear hc
 refine Z1e ?_
 refine qm (G:=Nat) (fun k=>k≤needs.length∧∀ n∈needs.take k,q29 l n=true) (fun k=>[(0,.pl (l.map q1d)),(2,.pl (needs.map eI)),(3,.int .i64 now),(5,.pt (Lid H.length 0) 0 0 0),(11,.int .i64 (if l.length=0 then 1 else (q15 l).id)),(14,.int .i64 (k:Int))]) (fun _=>H++[⟨0,7,[q2i s]⟩]) (fun k=>needs.length-k) 0 ⟨Nat.zero_le _,by simp⟩ Y6 (.inl rfl) ?_
 rintro k ⟨hk,hno⟩
 refine Z8z ?_
 refine qa rfl (fun hc=>?_) (fun hc=>?_)
 ·have hlt:k<needs.length:=by simpa using hc
  obtain ⟨x,hx,hxl⟩:=qo hlt
  have hr:=qh eI hx
  have hat:=q6d hso x
  clear hc
  refine Za5 ?_
  refine Z8 ?_
  refine Z5d ?_
  refine ao2 Y11 (V2.call (q7x l x _ hl) rfl) ?_
  refine Zu ?_
  refine Z4q ?_
  rw [hat]
  refine Z1 ?_
  refine qa rfl (fun hc=>?_) (fun hc=>?_)
  ·have hb:q29 l x=false:=by
    cases e:q29 l x with
    | false=>rfl
    | true=>rw [e,if_pos rfl] at hc;simp at hc;omega
   rw [if_pos (show (!(needs.all fun n=>q29 l n))=true by rw [show (needs.all fun n=>q29 l n)=false from by rw [List.all_eq_false];exact ⟨x,hxl,by rw [hb];decide⟩];rfl)]
   refine Zic ?_
   refine Z16 ?_
   try dsimp only
   refine Z1 ?_
   exact Zq4
  have hb:q29 l x=true:=by
   cases e:q29 l x with
   | true=>rfl
   | false=>rw [e,if_neg (by decide)] at hc;simp at hc
  refine Z2l ?_
  refine ⟨k+1,by omega,⟨by omega,fun n hnn=>?_⟩,Y6,.refl _ _⟩
  rw [ql hx] at hnn
  rcases List.mem_append.1 hnn with h | h
  ·exact hno n h
  ·rw [List.mem_singleton] at h;subst h;exact hb
 have:k=needs.length:=by simp at hc;omega
 subst this
 rw [List.take_length] at hno
 rw [if_neg (show ¬ (!(needs.all fun n=>q29 l n))=true by rw [List.all_eq_true.2 hno];decide)]
 clear hc
 refine Z8u ?_
 refine Z1s ?_
 refine Z9 ?_
 refine qa rfl (fun hc=>?_) (fun hc=>?_)
 ·rw [if_pos (show l.length=64 by simp at hc;omega)]
  refine Zic ?_
  refine Z16 ?_
  try dsimp only
  refine Z1 ?_
  exact Zq4
 rw [if_neg (show ¬ l.length=64 by simp at hc;omega)]
 clear hc
 refine Z8u ?_
 refine Z2p ?_
 refine qf ?_
 by_cases h30:(q15 l).id=1073741824
 ·have hl0:l.length≠0:=fun e=>by
   unfold q15 at h30
   rw [if_pos e] at h30
   exact absurd h30 (by decide)
  rw [if_pos h30,if_neg hl0]
  refine Z1 ?_
  refine qa rfl (fun hc=>?_) (fun hc=>?_)
  ·refine Z12 ?_
   refine Z1s ?_
   refine qf ?_
   try dsimp only
   refine Z1 ?_
   refine qa rfl (fun hc=>?_) (fun hc=>?_)
   ·refine Zic ?_
    refine Z3 ?_
    refine Za ?_
    exact Zq4
   ·simp at hc;omega
  ·rw [decide_eq_false_iff_not,List.length_map] at hc;omega
 rw [if_neg h30]
 refine Z1 ?_
 refine q4m ([(0,.pl (l.map q1d)),(2,.pl (needs.map eI)),(3,.int .i64 now),(5,.pt (Lid H.length 0) 0 0 0),(11,.int .i64 ((q15 l).id+1))]) (H++[⟨0,7,[q2i s]⟩]) ?_ ?_
 ·by_cases hl0:l.length=0
  ·have e0:q15 l=qua:=by unfold q15;rw [if_pos hl0]
   rw [if_pos hl0,e0]
   refine qa rfl (fun hc=>?_) (fun hc=>?_)
   ·simp at hc;omega
   ·refine Z1 ?_
    exact q2d Y6 (.inl rfl)
  ·rw [if_neg hl0]
   refine qa rfl (fun hc=>?_) (fun hc=>?_)
   ·refine Z12 ?_
    refine Z1s ?_
    refine qf ?_
    try dsimp only
    refine Z1 ?_
    refine qa rfl (fun hc=>?_) (fun hc=>?_)
    ·simp at hc;omega
    refine Z12 ?_
    refine Z2j ?_
    refine Z4 ?_
    exact q2d Y6 (.inl rfl)
   ·rw [decide_eq_false_iff_not,List.length_map] at hc;omega
 generalize (q15 l).id+1=nid at *
 refine Zqa ?_
 refine Zv5 ?_
 refine Zqb ?_
 refine Zez ?_
 refine Zv9 ?_
 refine q48 5 rfl Y17 (by decide) (fun _=>q6t) ?_
 refine Zu1 ?_
 refine Zvh ?_
 refine Zvi ?_
 refine aqs 2 rfl Y17 Yv Y11 (q4b rfl (Src.pl rfl (q6v l)) rfl (by decide) Y1c Y1c rfl) ?_
 refine q48 7 rfl Y17 (by decide) (fun _=>q55 rfl (Src.pl rfl (qml needs)) rfl (by decide) Y1c Y1c (q1y 0 _)) ?_
 refine aq0 9 rfl Y17 (by decide) (fun _=>V1.up (q4i (cs:=[.int _ _,.int _ _,.int _ _,.int _ _,.str _,.bool _,.int _ _,.int _ _,_,.int _ _,.int _ _,.int _ _,.int _ _]) rfl)) ?_
 refine q48 10 rfl Y17 (by decide) (fun _=>qbc (sz:=13) rfl (by decide) (by decide) rfl rfl rfl rfl (q2t 0 [(⟨nid,s,needs,0,now,0,0⟩:Job)] _ (List.mem_singleton.2 rfl))) ?_
 refine aqs 11 rfl Y17 Yv Y11 (qh1 rfl rfl rfl rfl rfl (Src.pl rfl (q6v [(⟨nid,s,needs,0,now,0,0⟩:Job)])) rfl (by simp) Y1c Y1c) ?_
 refine aq0 13 rfl Y17 (by decide) (fun _=>q14 (v:=.sl _ _ _ _ _) rfl) ?_
 refine aq0 14 rfl Y17 (by decide) (fun _=>q14 (v:=.int _ _) rfl) ?_
 refine aq0 15 rfl Y17 (by decide) (fun _=>q14 (v:=.int _ _) rfl) ?_
 refine Z1l ?_
 try dsimp only [List.length_cons,List.length_nil,Nat.reduceAdd,put,AV.up,AV.cells,List.cons_append,List.nil_append,List.set_cons_succ,List.set_cons_zero]
 refine Z1d ?_
 refine qu (ys:=(l++[(⟨nid,s,needs,0,now,0,0⟩:Job)]).map q1d) 8 rfl rfl rfl rfl (show List.take ((l.map q1d).length+1) (List.drop 0 ((l.map q1d).take (l.map q1d).length++[q1d (⟨nid,s,needs,0,now,0,0⟩:Job)]))=_ by rw [List.drop_zero,List.take_length,List.map_append];exact List.take_of_length_le (by simp)) (by simp) (q2t 0 _) ?_
 exact Zq5
end Go.Av
namespace Go.Av
def qg5 (l:List Job) (j:Job):Bool:=decide (j.state=0)&&j.needs.all fun n=>decide ((q1r l (q11 l n)).state=3)
theorem qhk (l:List Job):q5k l=l.filter (qg5 l):=rfl
def q8j (l:List Job) (i:Nat):Bool:=qg5 l (q1r l i)
def q5m (l:List Job) (i:Nat):Int:=(q1r l i).spec.prio
def qt8 (l:List Job) (t:Nat→Bool):List Nat:=(List.range l.length).filter fun i=>!t i&&q8j l i
def qw2 (l:List Job) (t:Nat→Bool):List Job:=(qt8 l t).map (q1r l)
theorem qeo:∀ l:List Job,(List.range l.length).map (q1r l)=l:=fun l=>by
 apply List.ext_getElem?
 intro i
 rw [List.getElem?_map]
 by_cases h:i<l.length
 ·rw [List.getElem?_range h,Option.map_some,List.getElem?_eq_getElem h,q12 (List.getElem?_eq_getElem h)]
 ·rw [List.getElem?_eq_none (by simpa using h),List.getElem?_eq_none (by omega)];rfl
theorem qtx (l:List Job):qw2 l (fun _=>false)=q5k l:=by
 rw [qhk]
 conv=>rhs;rw [← qeo l]
 unfold qw2 qt8
 rw [List.filter_map]
 congr 1
 refine List.filter_congr fun i _=>?_
 show (!false&&qg5 l (q1r l i))=qg5 ((List.range l.length).map (q1r l)) (q1r l i)
 rw [qeo];rfl
def bst (l:List Job) (t:Nat→Bool):Nat→Int
 | 0=>-1
 | i+1=>if !t i&&q8j l i&&(decide (bst l t i<0)||decide (q5m l (bst l t i).toNat<q5m l i)) then (i:Int) else bst l t i
theorem q9u (l:List Job) (t:Nat→Bool):∀ j,(bst l t j = -1∧∀ i,i<j→(!t i&&q8j l i)=false)∨∃ b:Nat,bst l t j=(b:Int)∧b<j∧(!t b&&q8j l b)=true∧(∀ i,i<j→(!t i&&q8j l i)=true→q5m l i≤q5m l b)∧∀ i,i<b→(!t i&&q8j l i)=true→q5m l i<q5m l b
 | 0=>.inl ⟨rfl,fun i h=>by omega⟩
 | j+1=>by
  rw [bst]
  rcases q9u l t j with ⟨e,h⟩ | ⟨b,e,hb,hc,hm,hf⟩
  ·rw [e]
   cases hj:(!t j&&q8j l j) with
   | true =>
    right
    refine ⟨j,by simp,by omega,hj,fun i hi hci=>?_,fun i hi hci=>?_⟩
    ·by_cases e2:i=j
     ·subst e2;exact Int.le_refl _
     ·rw [h i (by omega)] at hci;cases hci
    ·rw [h i hi] at hci;cases hci
   | false =>
    left
    refine ⟨by simp,fun i hi=>?_⟩
    by_cases e2:i=j
    ·subst e2;exact hj
    ·exact h i (by omega)
  ·right
   rw [e]
   cases hj:(!t j&&q8j l j) with
   | false =>
    refine ⟨b,by simp,by omega,hc,fun i hi hci=>?_,hf⟩
    by_cases e2:i=j
    ·subst e2;rw [hj] at hci;cases hci
    ·exact hm i (by omega) hci
   | true =>
    by_cases hp:q5m l b<q5m l j
    ·refine ⟨j,by rw [if_pos (by simp [hp])],by omega,hj,fun i hi hci=>?_,fun i hi hci=>?_⟩
     ·by_cases e2:i=j
      ·subst e2;exact Int.le_refl _
      ·have:=hm i (by omega) hci;omega
     ·have:=hm i hi hci;omega
    ·refine ⟨b,by rw [if_neg Y1c],by omega,hc,fun i hi hci=>?_,hf⟩
     by_cases e2:i=j
     ·subst e2;omega
     ·exact hm i (by omega) hci
theorem qb5 {b:Job}:∀ (A:List Job) {C:List Job},(∀ a∈A,a.spec.prio<b.spec.prio)→(∀ c∈C,c.spec.prio≤b.spec.prio)→byPrio (A++b :: C)=b :: byPrio (A++C)
 | [],C,_,hC=>by
  show byPrio.insP b (byPrio C)=b :: byPrio C
  cases h:byPrio C with
  | nil=>rfl
  | cons x X =>
   have hx:x∈C:=byPrio_mem.1 (by rw [h];exact List.mem_cons_self)
   unfold byPrio.insP
   rw [if_pos (hC x hx)]
 | a :: A,C,hA,hC=>by
  show byPrio.insP a (byPrio (A++b :: C))=b :: byPrio.insP a (byPrio (A++C))
  rw [qb5 A (fun x hx=>hA x (List.mem_cons_of_mem _ hx)) hC]
  have:=hA a List.mem_cons_self
  rw [byPrio.insP,if_neg (by omega)]
theorem qcy {n b:Nat} (hb:b<n):List.range n=List.range b++b :: List.range' (b+1) (n-b-1):=by
 have h:=List.range'_append_1 (s:=0) (m:=b) (n:=n-b)
 rw [show b+(n-b)=n by omega,Nat.zero_add] at h
 rw [List.range_eq_range',List.range_eq_range',← h]
 rw [show n-b=(n-b-1)+1 by omega,List.range'_succ]
 simp
theorem q9v {p:Nat→Bool} {n b:Nat} (hb:b<n) (hp:p b=true):(List.range n).filter p=(List.range b).filter p++b :: ((List.range' (b+1) (n-b-1)).filter p):=by
 rw [qcy hb,List.filter_append,List.filter_cons,if_pos hp]
theorem qv1 {l:List Job} {t:Nat→Bool} {b:Nat} (hb:bst l t l.length=(b:Int)):b<l.length∧byPrio (qw2 l t)=q1r l b :: byPrio (qw2 l (fun i=>t i||decide (i=b)))∧(qt8 l (fun i=>t i||decide (i=b))).length<(qt8 l t).length:=by
 rcases q9u l t l.length with ⟨e,_⟩ | ⟨b',e,hl,hc,hm,hf⟩
 ·rw [e] at hb;omega
 obtain rfl:b'=b:=by omega
 have s1:=q9v (p:=fun i=>!t i&&q8j l i) hl hc
 have s2:qt8 l (fun i=>t i||decide (i=b'))=(List.range b').filter (fun i=>!t i&&q8j l i)++(List.range' (b'+1) (l.length-b'-1)).filter (fun i=>!t i&&q8j l i):=by
  unfold qt8
  rw [qcy hl,List.filter_append,List.filter_cons,if_neg (by simp)]
  congr 1
  ·refine List.filter_congr fun i hi=>?_
   have:i<b':=by simpa using hi
   show (!(t i||decide (i=b'))&&q8j l i)=_
   rw [decide_eq_false (by omega),Bool.or_false]
  ·refine List.filter_congr fun i hi=>?_
   have:b'+1≤i:=(List.mem_range'_1.1 hi).1
   show (!(t i||decide (i=b'))&&q8j l i)=_
   rw [decide_eq_false (by omega),Bool.or_false]
 refine ⟨hl,?_,?_⟩
 ·unfold qw2
  rw [s2]
  unfold qt8
  rw [s1,List.map_append,List.map_cons,List.map_append]
  refine qb5 _ (fun a ha=>?_) fun c hc2=>?_
  ·obtain ⟨i,hi,rfl⟩:=List.mem_map.1 ha
   rw [List.mem_filter,List.mem_range] at hi
   exact hf i hi.1 hi.2
  ·obtain ⟨i,hi,rfl⟩:=List.mem_map.1 hc2
   rw [List.mem_filter,List.mem_range'_1] at hi
   exact hm i (by omega) hi.2
 ·rw [s2]
  unfold qt8
  rw [s1]
  simp
theorem qv7 {l:List Job} {t:Nat→Bool} (hb:bst l t l.length = -1):qw2 l t=[]:=by
 rcases q9u l t l.length with ⟨e,h⟩ | ⟨b',e,_⟩
 ·unfold qw2 qt8
  rw [List.map_eq_nil_iff,List.filter_eq_nil_iff]
  intro i hi
  rw [h i (by simpa using hi)];decide
 ·rw [hb] at e;omega
theorem qul {l:List Job} (hr:q24 l=true) {k:Nat} {x:Job} (hx:l[k]?=some x):qas l k=(decide (3<x.state)||q3x l k):=by
 have hj:=q53 ((jobs_iff.1 hr).2.1 x (List.mem_of_getElem? hx))
 unfold qas
 rw [q12 hx,q3z,Bool.or_comm]
 congr 1
 rw [Bool.eq_iff_iff]
 simp only [Bool.and_eq_true,decide_eq_true_eq]
 omega
end Go.Av
namespace Go.Av
open Go.Proofs
theorem qq8 {l:List Job} (hr:q24 l=true) (hl:l.length≤1000000) {k:Nat} {j:Job} (hj:l[k]?=some j) {n:Int} (hn:n∈j.needs):q11 l n<k∧∀ H,AC Tryz.prog 112 [.pl (l.map q1d),.int .i64 n] H (Ret (.int .i64 ((q11 l n:Nat):Int)) H):=by
 obtain ⟨h1,h2⟩:=q5s hr hj hn
 refine ⟨h1,fun H=>?_⟩
 have:=q7x l n H hl
 rwa [q6d (q28 hr),h2,if_pos rfl] at this
set_option maxHeartbeats 0 in
theorem qj5 (l:List Job) (hr':q24 l=true):∀ (k:Nat) (j:Job),l[k]?=some j→∀ H:qj,AC Tryz.prog 155 [.pl (l.map q1d),.agg (q1d j)] H (Ret (.bool (q3x l k)) H):=by
 have h64:=(jobs_iff.1 hr').1
 intro k
 induction k using Nat.strongRecOn with
 | _ k ih =>
 intro j hj H
 have hnd:=q5w ((jobs_iff.1 hr').2.1 j (List.mem_of_getElem? hj))
 rw [qhf hr' hj]
 refine AC.body (N:=35) [.tmp 4] Tryz.func155 rfl rfl rfl (Nat.le_of_ble_eq_true rfl) fun B hB=>?_
 refine Z50 ?_
 refine Z34 ?_
 refine Z4i ?_
 refine Z2p ?_
 refine Z56 ?_
 refine qa rfl (fun hc=>?_) (fun hc=>?_)
 ·rw [show decide (j.state≤1)=false by simp at hc;exact decide_eq_false (by omega),Bool.false_and]
  exact Z5m
 rw [show decide (j.state≤1)=true by simp at hc;exact decide_eq_true (by omega),Bool.true_and]
 clear hc
 refine Z1e ?_
 refine qm (G:=Nat) (fun m=>m≤j.needs.length∧∀ n∈j.needs.take m,qas l (q11 l n)=false) (fun m=>[(0,.pl (l.map q1d)),(3,.pt (Lid H.length 0) 0 0 0),(5,.int .i64 (m:Int))]) (fun _=>H++[⟨0,13,[q1d j]⟩]) (fun m=>j.needs.length-m) 0 ⟨Nat.zero_le _,by simp⟩ Y6 (.inl rfl) ?_
 rintro m ⟨hm,hno⟩
 refine Z6e ?_
 refine Z6f ?_
 refine qa rfl (fun hc=>?_) (fun hc=>?_)
 ·have hlt:m<j.needs.length:=by simpa using hc
  obtain ⟨n,hn,hnl⟩:=qo hlt
  have hrn:=qh eI hn
  obtain ⟨hpk,hat⟩:=qq8 hr' (by omega) hj hnl
  have hkl:q11 l n<l.length:=by have:=(List.getElem?_eq_some_iff.1 hj).1;omega
  obtain ⟨x,hx,hxl⟩:=qo hkl
  have hrx:=qh q1d hx
  have hbad:=qul hr' hx
  have ihx:=ih _ hpk x hx
  clear hc
  refine Za5 ?_
  refine Z52 ?_
  refine Z8 ?_
  refine Zvj ?_
  refine Zvk ?_
  refine Zvl ?_
  refine ao1 (by decide) (qe rfl rfl hrx rfl) ?_
  refine ao1 (by decide) (q3d rfl hrx rfl) ?_
  refine Zlv ?_
  refine Z1 ?_
  refine qn 34 (.bool (qas l (q11 l n))) ?_ ?_
  ·refine Z37 ?_
   refine Zf9 ?_
   refine qb rfl rfl (fun hg3=>?_) (fun hg3=>?_)
   ·refine Z3z ?_
    exact qf (Out.mk (by (refine congrArg AV.bool ?_;(rw [hbad];clear hB hrn hrx hbad ihx ih hat hno;(simp_all;done)))) Yb)
   ·refine Zc3 ?_
    refine Z5x ?_
    refine q5b rfl rfl (by decide) (V2.call (ihx _) rfl) ?_
    refine Zr ?_
    exact qf (Out.mk (by (refine congrArg AV.bool ?_;(rw [hbad];clear hB hrn hrx hbad ihx ih hat hno;(simp_all;omega)))) Yb)
  refine Z1 ?_
  refine qa rfl (fun hc=>?_) (fun hc=>?_)
  ·rw [show (j.needs.all fun n=>!qas l (q11 l n))=false by rw [List.all_eq_false];exact ⟨n,hnl,by rw [hc];decide⟩]
   exact Z5m
  refine Z2l ?_
  refine ⟨m+1,by omega,⟨by omega,fun y hy=>?_⟩,Y6,Fit.loc hB rfl Y1 ?_⟩
  ·rw [ql hn] at hy
   rcases List.mem_append.1 hy with h | h
   ·exact hno y h
   ·rw [List.mem_singleton] at h;subst h;exact hc
  ·intro o ho r hr
   simp only [List.mem_singleton] at ho;subst ho;simp only [List.mem_singleton] at hr;subst hr;exact q2t _ [j] _ (List.mem_singleton.2 rfl)
 ·have:m=j.needs.length:=by simp at hc;omega
  subst this
  rw [List.take_length] at hno
  rw [show (j.needs.all fun n=>!qas l (q11 l n))=true by rw [List.all_eq_true];exact fun n hn=>by rw [hno n hn];rfl]
  exact Z5m
set_option maxHeartbeats 0 in
theorem qgv (l:List Job) (hr':q24 l=true) (k:Nat) (j:Job) (hj:l[k]?=some j) (H:qj):AC Tryz.prog 188 [.pl (l.map q1d),.agg (q1d j)] H (Ret (.bool (qg5 l j)) H):=by
 have h64:=(jobs_iff.1 hr').1
 have hnd:=q5w ((jobs_iff.1 hr').2.1 j (List.mem_of_getElem? hj))
 unfold qg5
 refine AC.body (N:=28) [.tmp 4] Tryz.func188 rfl rfl rfl (Nat.le_of_ble_eq_true rfl) fun B hB=>?_
 refine Z50 ?_
 refine Z34 ?_
 refine Z4i ?_
 refine Z2u ?_
 refine Z56 ?_
 refine qa rfl (fun hc=>?_) (fun hc=>?_)
 ·rw [show decide (j.state=0)=false by simpa using hc,Bool.false_and]
  exact Z5m
 rw [show decide (j.state=0)=true by simpa using hc,Bool.true_and]
 clear hc
 refine Z1e ?_
 refine qm (G:=Nat) (fun m=>m≤j.needs.length∧∀ n∈j.needs.take m,(q1r l (q11 l n)).state=3) (fun m=>[(0,.pl (l.map q1d)),(3,.pt (Lid H.length 0) 0 0 0),(5,.int .i64 (m:Int))]) (fun _=>H++[⟨0,13,[q1d j]⟩]) (fun m=>j.needs.length-m) 0 ⟨Nat.zero_le _,by simp⟩ Y6 (.inl rfl) ?_
 rintro m ⟨hm,hno⟩
 refine Z6e ?_
 refine Z6f ?_
 refine qa rfl (fun hc=>?_) (fun hc=>?_)
 ·have hlt:m<j.needs.length:=by simpa using hc
  obtain ⟨n,hn,hnl⟩:=qo hlt
  have hrn:=qh eI hn
  obtain ⟨hpk,hat⟩:=qq8 hr' (by omega) hj hnl
  have hkl:q11 l n<l.length:=by have:=(List.getElem?_eq_some_iff.1 hj).1;omega
  obtain ⟨x,hx,hxl⟩:=qo hkl
  have hr:=qh q1d hx
  clear hc
  refine Za5 ?_
  refine Z52 ?_
  refine Z8 ?_
  refine Zvj ?_
  refine Zvk ?_
  refine Zvl ?_
  refine Zhh ?_
  refine Z2u ?_
  refine Zib ?_
  refine Z1 ?_
  refine qa rfl (fun hc=>?_) (fun hc=>?_)
  ·have h3:x.state≠3:=by simpa using hc
   rw [show (j.needs.all fun n=>decide ((q1r l (q11 l n)).state=3))=false by rw [List.all_eq_false];exact ⟨n,hnl,by rw [q12 hx];simpa using h3⟩]
   exact Z5m
  have h3:x.state=3:=by simpa using hc
  refine Z2l ?_
  refine ⟨m+1,by omega,⟨by omega,fun y hy=>?_⟩,Y6,.refl _ _⟩
  rw [ql hn] at hy
  rcases List.mem_append.1 hy with h | h
  ·exact hno y h
  ·rw [List.mem_singleton] at h;subst h;rw [q12 hx];exact h3
 ·have:m=j.needs.length:=by simp at hc;omega
  subst this
  rw [List.take_length] at hno
  rw [show (j.needs.all fun n=>decide ((q1r l (q11 l n)).state=3))=true by rw [List.all_eq_true];exact fun n hn=>decide_eq_true (hno n hn)]
  exact Z5m
def q46 (l:List Job) (t:Nat→Bool):List (List AV):=(List.range l.length).map fun i=>[AV.bool (t i)]
theorem q5v (l:List Job) (t:Nat→Bool):(q46 l t).length=l.length:=by simp [q46]
theorem q54 {l:List Job} {i:Nat} (t:Nat→Bool) (h:i<l.length):(q46 l t)[i]?=some [.bool (t i)]:=by simp [q46,h]
theorem qis {l:List Job} (t:Nat→Bool) (b:Nat):(q46 l t).set b [.bool true]=q46 l (fun i=>t i||decide (i=b)):=by
 apply List.ext_getElem?
 intro i
 by_cases hi:i<l.length
 ·rw [q54 _ hi]
  by_cases e:b=i
  ·subst e
   rw [List.getElem?_set_self (by rw [q5v];exact hi)];simp
  ·rw [List.getElem?_set_ne e,q54 _ hi,decide_eq_false (fun h=>e h.symm),Bool.or_false]
 ·rw [List.getElem?_eq_none (by rw [List.length_set,q5v];omega),List.getElem?_eq_none (by rw [q5v];omega)]
theorem qgc (l:List Job):q46 l (fun _=>false)=List.replicate l.length [.bool false]:=by
 apply List.ext_getElem?
 intro i
 by_cases hi:i<l.length
 ·rw [q54 _ hi,List.getElem?_replicate,if_pos hi]
 ·rw [List.getElem?_eq_none (by rw [q5v];omega),List.getElem?_replicate,if_neg hi]
theorem qhi (n:Nat) (l:List Job) (t:Nat→Bool):∀ r∈q46 l t,AV.bels n r=true:=by
 intro r hr
 obtain ⟨i,_,rfl⟩:=List.mem_map.1 hr
 rfl
structure TG where
 t:Nat→Bool
 out:List Int
set_option maxHeartbeats 0 in
theorem qku (l:List Job) (H:qj) (hl:l.length≤1000000) (hq:QT l):AC Tryz.prog 157 [.pl (l.map q1d)] H (Ret (.pl ((qy l).map eI)) H):=by
 refine AC.body (N:=66) [.tmp 2] Tryz.func157 rfl rfl rfl (Nat.le_of_ble_eq_true rfl) fun B hB=>?_
 refine Z4m ?_
 refine Z4p ?_
 refine Zmx ?_
 refine Zta ?_
 unfold qy
 refine Z1 ?_
 refine qa rfl (fun hc=>?_) (fun hc=>?_)
 ·rw [if_neg Y19]
  refine Z4t ?_
  exact Zbb
 have hr':q24 l=true:=by simpa using hc
 rw [if_pos hr']
 have h64:=(jobs_iff.1 hr').1
 have hml:(l.map q1d).length=l.length:=by simp
 clear hc
 refine Z8u ?_
 refine Zsh ?_
 refine Zb5 ?_
 refine Zeh ?_
 refine Z1d ?_
 refine Zaw ?_
 refine qm (G:=TG) (fun s=>s.out++(byPrio (qw2 l s.t)).map (·.id)=(byPrio (q5k l)).map (·.id)) (fun s=>[(0,.pl (l.map q1d)),(3,.sl (Lid H.length 1) s.out.length 0 s.out.length s.out.length),(4,.sl (Lid H.length 0) 0 0 l.length l.length)]) (fun s=>H++[⟨0,1,q46 l s.t⟩,⟨s.out.length,1,s.out.map eI⟩]) (fun s=>(qt8 l s.t).length) ⟨fun _=>false,[]⟩ (by rw [List.nil_append,qtx]) Y6 (.inl (by rw [qgc];rfl)) ?_
 rintro ⟨t,out⟩ hI
 simp only at hI ⊢
 have hol:out.length≤l.length:=by
  have:=congrArg List.length hI
  simp only [List.length_append,List.length_map,q3j] at this
  have h2:(q5k l).length≤l.length:=List.length_filter_le _ _
  omega
 refine Zhd ?_
 refine qm (G:=Nat) (fun i=>i≤l.length) (fun i=>[(0,.pl (l.map q1d)),(3,.sl (Lid H.length 1) out.length 0 out.length out.length),(4,.sl (Lid H.length 0) 0 0 l.length l.length),(5,.int .i64 (bst l t i)),(6,.int .i64 (i:Int))]) (fun _=>H++[⟨0,1,q46 l t⟩,⟨out.length,1,out.map eI⟩]) (fun i=>l.length-i) 0 (Nat.zero_le _) Y6 (.inl rfl) ?_
 intro i hi
 refine Z8z ?_
 refine qa rfl (fun hc=>?_) (fun hc=>?_)
 ·have hlt:i<l.length:=by simpa using hc
  obtain ⟨x,hx,hxl⟩:=qo hlt
  have hr:=qh q1d hx
  have ht:=q54 t hlt
  have hrd:=qgv l hr' i x hx
  have hra:q8j l i=qg5 l x:=by unfold q8j;rw [q12 hx]
  have hpr:q5m l i=x.spec.prio:=by unfold q5m;rw [q12 hx]
  have hstep:bst l t (i+1)=if !t i&&q8j l i&&(decide (bst l t i<0)||decide (q5m l (bst l t i).toNat<q5m l i)) then (i:Int) else bst l t i:=rfl
  rw [hra,hpr] at hstep
  obtain ⟨y,hy,hyp⟩:∃ y,((bst l t i<0∧y=x)∨(0≤bst l t i∧l[(bst l t i).toNat]?=some y))∧(0≤bst l t i→q5m l (bst l t i).toNat=y.spec.prio):=by
   rcases q9u l t i with ⟨e,_⟩ | ⟨b,e,hb,_⟩
   ·exact ⟨x,.inl ⟨by omega,rfl⟩,fun h=>by omega⟩
   ·have hbl:b<l.length:=by omega
    refine ⟨l[b],.inr ⟨by omega,by rw [e,Int.toNat_natCast];exact List.getElem?_eq_getElem hbl⟩,fun _=>?_⟩
    rw [e,Int.toNat_natCast,q5m,q12 (List.getElem?_eq_getElem hbl)]
  generalize bst l t i=b at *
  clear hc
  by_cases hneg:b<0
  ·refine Z1 ?_
   refine q1l 50 (.bool (!t i&&qg5 l x)) ?_ ?_
   ·refine Zaa ?_
    refine Zex ?_
    refine Zvm ?_
    refine Zvn ?_
    refine Zvo ?_
    refine Zbg ?_
    refine qp (g:=24) rfl (fun hg5=>?_) (fun hg5=>?_)
    ·refine Zvp ?_
     refine Zvq ?_
     refine Zvr ?_
     refine Zvs ?_
     refine Zvt ?_
     refine Zvu ?_
     refine Zri ?_
     refine Zrj ?_
     refine qp (g:=32) rfl (fun hg13=>?_) (fun hg13=>?_)
     ·refine Zvv ?_
      refine Zvw ?_
      refine Zvx ?_
      refine qp (g:=35) rfl (fun hg16=>?_) (fun hg16=>?_)
      ·refine Zj5 ?_
       refine Zj6 ?_
       refine Zj7 ?_
       refine Zj8 ?_
       refine Zj9 ?_
       refine Zja ?_
       refine Zjb ?_
       refine Zjc ?_
       refine Zjd ?_
       refine Zvy ?_
       refine Zvz ?_
       refine Zw0 ?_
       refine Zw1 ?_
       refine Zw2 ?_
       refine Zw3 ?_
       exact Zw4
      ·exfalso;simp at hg16;omega
     ·refine Zw5 ?_
      refine Zw6 ?_
      refine Zw7 ?_
      refine Zix ?_
      refine Zw8 ?_
      refine Zw9 ?_
      refine Zwa ?_
      refine Zwb ?_
      refine Zwc ?_
      refine Zwd ?_
      exact Zw4
    ·refine Zwe ?_
     refine Zwf ?_
     refine Zwg ?_
     refine Zwh ?_
     refine Zwi ?_
     refine Zwj ?_
     refine Zs2 ?_
     refine Zrj ?_
     refine Zw5 ?_
     refine Zw6 ?_
     refine Zw7 ?_
     refine Zix ?_
     refine Zw8 ?_
     refine Zw9 ?_
     refine Zwa ?_
     refine Zwb ?_
     refine Zwc ?_
     refine Zwd ?_
     exact Zw4
   rw [show (decide (b<0)||decide (q5m l b.toNat<x.spec.prio))=true by rw [decide_eq_true hneg];rfl,Bool.and_true] at hstep
   refine Z1 ?_
   refine qa rfl (fun hc=>?_) (fun hc=>?_)
   ·rw [if_pos hc] at hstep
    refine Z8n ?_
    refine Z4 ?_
    refine Z2l ?_
    exact ⟨i+1,by omega,by omega,by rw [hstep];exact Y6,.refl _ _⟩
   ·rw [if_neg Y16] at hstep
    refine Z2l ?_
    exact ⟨i+1,by omega,by omega,by rw [hstep];exact Y6,.refl _ _⟩
  obtain ⟨c,rfl⟩:∃ c:Nat,b=(c:Int):=⟨b.toNat,by omega⟩
  have hyc:l[c]?=some y:=by
   rcases hy with ⟨h,_⟩ | ⟨_,h⟩
   ·omega
   ·rwa [Int.toNat_natCast] at h
  have hry:=qh q1d hyc
  rw [hyp (by omega),show decide ((c:Int)<0)=false from decide_eq_false (by omega),Bool.false_or] at hstep
  refine Z1 ?_
  refine q1l 50 (.bool (!t i&&qg5 l x&&decide (y.spec.prio<x.spec.prio))) ?_ ?_
  ·refine Zaa ?_
   refine Zex ?_
   refine Zvm ?_
   refine Zvn ?_
   refine Zvo ?_
   refine Zbg ?_
   refine qp (g:=24) rfl (fun hg5=>?_) (fun hg5=>?_)
   ·refine Zvp ?_
    refine Zvq ?_
    refine Zvr ?_
    refine Zvs ?_
    refine Zvt ?_
    refine Zvu ?_
    refine Zri ?_
    refine Zrj ?_
    refine qp (g:=32) rfl (fun hg13=>?_) (fun hg13=>?_)
    ·refine Zvv ?_
     refine Zvw ?_
     refine Zvx ?_
     refine qp (g:=35) rfl (fun hg16=>?_) (fun hg16=>?_)
     ·refine Zj5 ?_
      refine Zj6 ?_
      refine Zj7 ?_
      refine Zj8 ?_
      refine Zj9 ?_
      refine Zja ?_
      refine Zjb ?_
      refine Zjc ?_
      refine Zjd ?_
      refine Zvy ?_
      refine Zvz ?_
      refine Zw0 ?_
      refine Zw1 ?_
      refine Zw2 ?_
      refine Zw3 ?_
      exact q1i Y17 Yv (Out.mk (by (refine congrArg AV.bool ?_;(clear hB hr hry ht hrd hI hy hyp hstep;(simp_all;omega)))) Yb)
     ·refine q1h (g:=35) 17 rfl Y17 (by decide) rfl rfl (fun _=>qd (v:=.pl _) rfl) ?_
      refine q1h (g:=35) 18 rfl Y17 (by decide) rfl rfl (fun _=>qd (v:=.int _ _) rfl) ?_
      refine q1j (g:=35) 19 rfl Y17 (by decide) rfl rfl (fun G=>qe rfl rfl hr rfl) ?_
      refine q1j (g:=35) 20 rfl Y17 (by decide) rfl rfl (fun G=>qx rfl (by decide)) ?_
      refine q1j (g:=35) 21 rfl Y17 (by decide) rfl rfl (fun G=>qx rfl (by decide)) ?_
      refine q1j (g:=35) 22 rfl Y17 (by decide) rfl rfl (fun G=>qz (v:=.int _ _) rfl hr rfl) ?_
      refine q1h (g:=35) 23 rfl Y17 (by decide) rfl rfl (fun _=>qd (v:=.pl _) rfl) ?_
      refine q1h (g:=35) 24 rfl Y17 (by decide) rfl rfl (fun _=>qd (v:=.int _ _) rfl) ?_
      refine q1j (g:=35) 25 rfl Y17 (by decide) rfl rfl (fun G=>qe rfl rfl hry rfl) ?_
      refine q1j (g:=35) 26 rfl Y17 (by decide) rfl rfl (fun G=>qx rfl (by decide)) ?_
      refine q1j (g:=35) 27 rfl Y17 (by decide) rfl rfl (fun G=>qx rfl (by decide)) ?_
      refine q1j (g:=35) 28 rfl Y17 (by decide) rfl rfl (fun G=>qz (v:=.int _ _) rfl hry rfl) ?_
      refine q1h (g:=35) 29 rfl Y17 (by decide) rfl rfl (fun _=>qjz rfl rfl) ?_
      refine q1h (g:=32) 30 rfl Y17 (by decide) rfl rfl (fun _=>q17 (v:=.bool _) rfl rfl) ?_
      refine Zw3 ?_
      exact Zwk
    ·refine Zw5 ?_
     refine Zw6 ?_
     refine Zw7 ?_
     refine Zix ?_
     refine Zw8 ?_
     refine Zw9 ?_
     refine Zwa ?_
     refine Zwb ?_
     refine Zwc ?_
     refine Zwd ?_
     exact Zwk
   ·refine Zwe ?_
    refine Zwf ?_
    refine Zwg ?_
    refine Zwh ?_
    refine Zwi ?_
    refine Zwj ?_
    refine Zs2 ?_
    refine Zrj ?_
    refine Zw5 ?_
    refine Zw6 ?_
    refine Zw7 ?_
    refine Zix ?_
    refine Zw8 ?_
    refine Zw9 ?_
    refine Zwa ?_
    refine Zwb ?_
    refine Zwc ?_
    refine Zwd ?_
    exact Zwk
  refine Z1 ?_
  refine qa rfl (fun hc=>?_) (fun hc=>?_)
  ·rw [if_pos hc] at hstep
   refine Z8n ?_
   refine Z4 ?_
   refine Z2l ?_
   exact ⟨i+1,by omega,by omega,by rw [hstep];exact Y6,.refl _ _⟩
  ·rw [if_neg Y16] at hstep
   refine Z2l ?_
   exact ⟨i+1,by omega,by omega,by rw [hstep];exact Y6,.refl _ _⟩
 ·have:i=l.length:=by simp at hc;omega
  subst this
  clear hc
  refine Z1p ?_
  refine qa rfl (fun hc=>?_) (fun hc=>?_)
  ·have hb:bst l t l.length = -1:=by
    rcases q9u l t l.length with ⟨e,_⟩ | ⟨b,e,_⟩
    ·exact e
    ·simp at hc;omega
   rw [qv7 hb] at hI
   rw [← hI]
   clear hc
   rw [show byPrio ([]:List Job)=[] from rfl,List.map_nil,List.append_nil]
   refine Zba ?_
   refine qu (ys:=out.map eI) 2 rfl rfl rfl rfl Yg (by simp) (q1y 0 _) ?_
   exact Zbb
  obtain ⟨c,hb⟩:∃ c:Nat,bst l t l.length=(c:Int):=⟨(bst l t l.length).toNat,by simp at hc;omega⟩
  obtain ⟨h1,h2,h3⟩:=qv1 hb
  rw [hb]
  obtain ⟨x,hx,hxl⟩:=qo h1
  have hr:=qh q1d hx
  have ht:=q54 t h1
  rw [q12 hx] at h2
  clear hc hb
  refine Zb2 ?_
  refine Zei ?_
  refine ao2 Y1b (q25 (sz:=1) (v:=.bool _) (r':=[_]) rfl rfl rfl rfl (qm1 ht) rfl rfl rfl (Nat.le_of_ble_eq_true rfl) rfl) ?_
  refine Zej ?_
  rw [Nat.zero_add,show (q46 l t).set c [.bool true]=q46 l (fun i=>t i||decide (i=c)) from qis t c]
  refine Zb1 ?_
  refine Zc7 ?_
  refine Zhh ?_
  refine Zb8 ?_
  rw [show (out.map eI).take out.length=out.map eI from List.take_of_length_le (by simp)]
  refine Z1 ?_
  refine ⟨⟨fun i=>t i||decide (i=c),out++[x.id]⟩,h3,?_,?_,?_⟩
  ·simp only
   rw [← hI,h2]
   simp
  ·simp only [List.length_append]
   exact Y6
  ·simp only [List.length_append]
   refine Fit.loc hB Yu Y1 ?_
   intro o ho r hr
   rcases List.mem_cons.1 ho with rfl | ho
   ·exact qhi _ _ _ r hr
   ·simp only [List.mem_singleton] at ho;subst ho;exact q1y _ _ r hr
end Go.Av
namespace Go.Av
theorem g_ok {g:List Thing} (hg:q1o g=true) {k:Nat} {t:Thing} (ht:g[k]?=some t) (h0:0<k):0≤t.up∧t.up<(k:Int)∧q5o t.kind (q2k g t.up.toNat)=true:=by
 have h1:=q1w hg
 have hk:=(List.getElem?_eq_some_iff.1 ht).1
 rw [qqr (by omega) h1.2] at hg
 have:=q4f hg hk
 rw [qh0 ht h0] at this
 simp only [Bool.and_eq_true,decide_eq_true_eq] at this
 exact ⟨this.1.1.1.1,this.1.1.1.2,this.1.1.2⟩
theorem qa7 {g:List Thing} {k:Nat} {t:Thing} (ht:g[k]?=some t):q2k g k=t.kind:=by rw [q2k,ht]
theorem qun {g:List Thing} {k:Nat} {t:Thing} (ht:g[k]?=some t):qh3 g k=t.up:=by rw [qh3,ht]
theorem qex {a b:Int} (h:q5o a b=true) (hb:2≤b):(a=3∨a=4)∧b=2:=by
 simp only [q5o,Bool.or_eq_true,Bool.and_eq_true,decide_eq_true_eq] at h
 omega
theorem qx1 {g:List Thing} (hg:q1o g=true) {k:Nat} (hk:k<g.length):uU g (k:Int) k=true:=by
 have ht:g[k]?=some g[k]:=List.getElem?_eq_getElem hk
 rw [qjm ht (q34 hg ht).1,decide_eq_true rfl,Bool.true_or]
theorem qks {g:List Thing} (hg:q1o g=true) {node:Nat} (hn:node<g.length) (h2:q2k g node=2):∀ k,k<g.length→(uU g (node:Int) k=true↔k=node∨(2<q2k g k∧qh3 g k=(node:Int))):=by
 intro k
 induction k using Nat.strongRecOn with
 | _ k ih =>
  intro hk
  have ht:g[k]?=some g[k]:=List.getElem?_eq_getElem hk
  have hup:=q34 hg ht
  rw [qjm ht hup.1,qa7 ht,qun ht,Bool.or_eq_true,decide_eq_true_eq,Bool.and_eq_true,decide_eq_true_eq]
  constructor
  ·rintro (h | ⟨h0,h⟩)
   ·exact .inl (by omega)
   ·right
    have hk0:0<k:=by omega
    have hgo:=g_ok hg ht hk0
    rcases (ih g[k].up.toNat (by omega) (by omega)).1 h with e | ⟨e1,e2⟩
    ·rw [e,h2] at hgo
     have:=qex hgo.2.2 (by omega)
     exact ⟨by omega,by omega⟩
    ·have:=qex hgo.2.2 (by omega)
     omega
  ·rintro (h | ⟨_,h⟩)
   ·exact .inl (by omega)
   ·refine .inr ⟨by omega,?_⟩
    rw [h,Int.toNat_natCast]
    exact qx1 hg hn
theorem qjl {g:List Thing} (hg:q1o g=true) {node:Nat} (hn:node<g.length) (h2:q2k g node=2):q45 g (node:Int)=(node:Int) :: q3l g node:=by
 have hl:=(q1w hg).2
 have hth:q44 g (node:Int)=true:=by
  rw [q44,hg,decide_eq_true (by omega),decide_eq_true (by omega)];rfl
 rw [q89 hth]
 refine qg8 (qg3 _ hl) (qbs hg (by omega)) fun n=>?_
 rw [Bool.eq_iff_iff,inl_mem,inl_mem,idx_mem,List.mem_cons,mkids_mem]
 constructor
 ·rintro ⟨k,e,hk,hu⟩
  rcases (qks hg hn h2 k hk).1 hu with e2 | e2
  ·exact .inl (by omega)
  ·exact .inr ⟨k,e,hk,e2⟩
 ·rintro (e | ⟨k,e,hk,e2⟩)
  ·exact ⟨node,e,hn,(qks hg hn h2 node hn).2 (.inl rfl)⟩
  ·exact ⟨k,e,hk,(qks hg hn h2 k hk).2 (.inr e2)⟩
theorem qx6 {g:List Thing} (hg:q1o g=true):∀ k,k<g.length→uU g 0 k=true:=by
 intro k
 induction k using Nat.strongRecOn with
 | _ k ih =>
  intro hk
  have ht:g[k]?=some g[k]:=List.getElem?_eq_getElem hk
  rw [qjm ht (q34 hg ht).1,Bool.or_eq_true,decide_eq_true_eq,Bool.and_eq_true,decide_eq_true_eq]
  by_cases h0:k=0
  ·exact .inl (by omega)
  ·have hgo:=g_ok hg ht (by omega)
   exact .inr ⟨hgo.1,ih g[k].up.toNat (by omega) (by omega)⟩
theorem qjh {g:List Thing} (hg:q1o g=true):q45 g 0=idx (fun _=>true) g.length:=by
 have hl:=q1w hg
 have hth:q44 g 0=true:=by
  rw [q44,hg,decide_eq_true (by omega),decide_eq_true (by omega)];rfl
 rw [q89 hth]
 unfold idx
 congr 1
 exact List.filter_congr fun k hk=>qx6 hg k Y18
theorem q7z {l:List Int} (h:sok l=true):l.length≤256:=by
 rw [qsu h];exact qmk _
def pk (g:List Thing) (free:List Int) (c:Int) (x:Int):Bool:=inl free x.toNat&&decide (q2k g x.toNat=c)
theorem qiv {L:List Int} {n:Int} {C:Nat}:(L++[n]).take C=if L.length<C then L.take C++[n] else L.take C:=by
 split
 ·rw [List.take_of_length_le Y1c,List.take_of_length_le (by omega)]
 ·rw [List.take_append_of_le_length (by omega)]
structure GO (g : List Thing) (free : List Int) (C G : Nat) (U : List Int) (k : Nat) (o : List Int) : Prop where
 mem:∀ x,x∈o↔x∈((U.take k).filter (pk g free 3)).take C∨x∈((U.take k).filter (pk g free 4)).take G
 srt:o.Pairwise (· < ·)
 sub:∀ x∈o,x∈U.take k
def ck (g:List Thing) (free:List Int) (c:Int) (U:List Int) (k:Nat):Nat:=((U.take k).filter (pk g free c)).length
theorem qrw {g:List Thing} {free:List Int} {c:Int} {U:List Int} {k:Nat} {n:Int} (hn:U[k]?=some n):ck g free c U (k+1)=ck g free c U k+if pk g free c n then 1 else 0:=by
 unfold ck
 rw [List.take_add_one,hn,Option.toList_some,List.filter_append,List.length_append]
 cases h:pk g free c n<;>simp [h]
theorem qyd (g:List Thing) (free:List Int) (c:Int) (U:List Int) (k:Nat):ck g free c U k≤k:=Nat.le_trans (List.length_filter_le _ _) Ys
theorem GO.zero (g:List Thing) (free:List Int) (C G:Nat) (U:List Int):GO g free C G U 0 []:=⟨fun x=>by simp,List.Pairwise.nil,fun x hx=>by cases hx⟩
theorem GO.no {g:List Thing} {free:List Int} {C G:Nat} {U:List Int} {k:Nat} {o:List Int} (h:GO g free C G U k o) {n:Int} (hn:U[k]?=some n) (h3:pk g free 3 n=true→C≤ck g free 3 U k) (h4:pk g free 4 n=true→G≤ck g free 4 U k):GO g free C G U (k+1) o:=by
 have e:∀ c M,(pk g free c n=true→M≤ck g free c U k)→((U.take (k+1)).filter (pk g free c)).take M=((U.take k).filter (pk g free c)).take M:=fun c M hc=>by
  rw [List.take_add_one,hn,Option.toList_some,List.filter_append]
  cases hp:pk g free c n with
  | false=>simp [hp]
  | true =>
   rw [show [n].filter (pk g free c)=[n] by simp [hp],qiv,if_neg (by have:=hc hp;unfold ck at this;omega)]
 refine ⟨fun x=>by rw [e 3 C h3,e 4 G h4];exact h.mem x,h.srt,fun x hx=>?_⟩
 rw [List.take_add_one]
 exact List.mem_append_left _ (h.sub x hx)
theorem GO.add {g:List Thing} {free:List Int} {C G:Nat} {U:List Int} {k:Nat} {o:List Int} (h:GO g free C G U k o) (hU:U.Pairwise (· < ·)) {n:Int} (hn:U[k]?=some n) (h34:(pk g free 3 n=true∧pk g free 4 n=false∧ck g free 3 U k<C)∨(pk g free 3 n=false∧pk g free 4 n=true∧ck g free 4 U k<G)):GO g free C G U (k+1) (o++[n]):=by
 have hk:=(List.getElem?_eq_some_iff.1 hn)
 have e1:∀ c M,pk g free c n=false→((U.take (k+1)).filter (pk g free c)).take M=((U.take k).filter (pk g free c)).take M:=fun c M hp=>by
  rw [List.take_add_one,hn,Option.toList_some,List.filter_append];simp [hp]
 have e2:∀ c M,pk g free c n=true→ck g free c U k<M→((U.take (k+1)).filter (pk g free c)).take M=((U.take k).filter (pk g free c)).take M++[n]:=fun c M hp hc=>by
  rw [List.take_add_one,hn,Option.toList_some,List.filter_append,show [n].filter (pk g free c)=[n] by simp [hp],qiv,if_pos (by unfold ck at hc;omega)]
 refine ⟨fun x=>?_,?_,fun x hx=>?_⟩
 ·rcases h34 with ⟨h3,h4,hc⟩ | ⟨h3,h4,hc⟩
  ·rw [e2 3 C h3 hc,e1 4 G h4,List.mem_append,List.mem_append,h.mem x]
   constructor
   ·rintro ((a | a) | a)
    ·exact .inl (.inl a)
    ·exact .inr a
    ·exact .inl (.inr a)
   ·rintro ((a | a) | a)
    ·exact .inl (.inl a)
    ·exact .inr a
    ·exact .inl (.inr a)
  ·rw [e1 3 C h3,e2 4 G h4 hc,List.mem_append,List.mem_append,h.mem x]
   constructor
   ·rintro ((a | a) | a)
    ·exact .inl a
    ·exact .inr (.inl a)
    ·exact .inr (.inr a)
   ·rintro (a | (a | a))
    ·exact .inl (.inl a)
    ·exact .inl (.inr a)
    ·exact .inr a
 ·rw [List.pairwise_append]
  refine ⟨h.srt,List.pairwise_singleton _ _,fun a ha b hb=>?_⟩
  rw [List.mem_singleton] at hb;subst hb
  obtain ⟨i,hi,rfl⟩:=List.mem_take_iff_getElem.1 (h.sub a ha)
  obtain ⟨hkl,rfl⟩:=hk
  exact List.pairwise_iff_getElem.1 hU i k (by omega) hkl (by omega)
 ·rw [List.take_add_one,hn,Option.toList_some]
  rcases List.mem_append.1 hx with hx | hx
  ·exact List.mem_append_left _ (h.sub x hx)
  ·exact List.mem_append_right _ hx
theorem q7g {g:List Thing} {free:List Int} {node:Nat} (h2:q2k g node=2) {c:Int} (hc:c≠2):((node:Int) :: q3l g node).filter (pk g free c)=(q3l g node).filter (fun n=>inl free n.toNat&&decide (q2k g n.toNat=c)):=by
 rw [List.filter_cons,if_neg (by unfold pk;rw [Int.toNat_natCast,h2,decide_eq_false (fun e=>hc e.symm)];simp)]
 rfl
theorem GO.all {g:List Thing} {free:List Int} {s:Spec} {node:Nat} {o:List Int} (hg:q1o g=true) (hf:sok free=true) (hn:node<g.length) (h2:q2k g node=2) (h:GO g free s.cores.toNat s.gpus.toNat ((node:Int) :: q3l g node) ((node:Int) :: q3l g node).length o):o=q7t (q4v g free node 3 s.cores) (q4v g free node 4 s.gpus):=by
 have hl:=(q1w hg).2
 have hU:=qbs hg (node:=node) (by omega)
 have s3:=(spart_iff.1 (q88 hg hf node 3 s.cores)).1
 have s4:=(spart_iff.1 (q88 hg hf node 4 s.gpus)).1
 refine qg8 (q3b h.srt fun x hx=>q4h hU (List.mem_of_mem_take (h.sub x hx))) (qq4 _ _) fun n=>?_
 rw [qkc s3 s4,Bool.eq_iff_iff,Bool.or_eq_true,inl_mem,inl_mem,inl_mem,h.mem]
 rw [List.take_length,q7g h2 (by decide),q7g h2 (by decide)]
 rfl
theorem qy8 {g:List Thing} {free:List Int} {node:Nat} (h2:q2k g node=2) {c most:Int} (hc:c≠2) (hm:0≤most):decide (((ck g free c ((node:Int) :: q3l g node) ((node:Int) :: q3l g node).length:Nat):Int)<most)=decide (((q4v g free node c most).length:Int)<most):=by
 unfold ck
 rw [List.take_length,q7g h2 hc]
 unfold q4v
 rw [List.length_take,decide_eq_decide]
 omega
end Go.Av
namespace Go.Av
open Go.Proofs
theorem qbw (n:Nat) (s:Spec) (o:List Int) {a:Nat}:∀ x∈([⟨0,7,[q2i s]⟩,⟨a,1,o.map eI⟩]:qj),∀ r∈x.rows,AV.bels n r=true:=by
 intro x hx r hr
 rcases List.mem_cons.1 hx with rfl | hx
 ·simp only [List.mem_singleton] at hr;subst hr;rfl
 ·simp only [List.mem_singleton] at hx;subst hx;exact q1y _ _ r hr
structure GS2 where
 k:Nat
 o:List Int
set_option maxHeartbeats 0 in
theorem qp5 (g:List Thing) (free:List Int) (s:Spec) (node:Nat) (H:qj) (hg:q1o g=true) (hw:TW g) (hf:sok free=true) (hs:q2m s=true) (hn:node<g.length):AC Tryz.prog 212 [.pl (g.map qq),.pl (free.map eI),.agg (q2i s),.int .i64 (node:Int)] H (Ret (.tup [.pl ((q6n g free s node).1.map eI),.bool (q6n g free s node).2]) H):=by
 have hgl:=q1w hg
 have hfl:=q7z hf
 have hsf:=q5a hs
 obtain ⟨t,ht,htl⟩:=qo hn
 have hr:=qh qq ht
 have hkn:=qa7 ht
 refine AC.body (N:=118) [.tmp 8,.tmp 9] Tryz.func212 rfl rfl rfl (Nat.le_of_ble_eq_true rfl) fun B hB=>?_
 refine Zpz ?_
 refine Z35 ?_
 refine q1l 42 (.bool (!(decide (t.kind=2)&&inl free node&&(decide (s.tag=⟨#[]⟩)||decide (t.tag=s.tag))))) ?_ ?_
 ·refine Zd5 ?_
  refine Zv1 ?_
  refine aq0 5 rfl Y17 (by decide) (fun _=>qpe rfl rfl) ?_
  refine Z6n ?_
  refine qp (g:=22) rfl (fun hg6=>?_) (fun hg6=>?_)
  ·refine qr (g:=22) 7 rfl Y17 (by decide) rfl rfl rfl ?_
   refine qr (g:=22) 8 rfl Y17 (by decide) rfl rfl rfl ?_
   refine qr (g:=22) 9 rfl Y17 (by decide) rfl rfl rfl ?_
   refine qr (g:=22) 10 rfl Y17 (by decide) rfl rfl rfl ?_
   refine Zbh ?_
   refine Zbi ?_
   refine Zwl ?_
   refine Zwm ?_
   refine Zwn ?_
   refine Zwo ?_
   refine Zwp ?_
   refine Zwq ?_
   refine Zwr ?_
   refine Zws ?_
   refine Zwt ?_
   refine Zwu ?_
   refine Zwv ?_
   refine Zww ?_
   refine Zwx ?_
   refine Zdu ?_
   exact Zwy
  ·refine q1h (g:=22) 7 rfl Y17 (by decide) rfl rfl (fun _=>qd (v:=.pl _) rfl) ?_
   refine q1h (g:=22) 8 rfl Y17 (by decide) rfl rfl (fun _=>qd (v:=.int _ _) rfl) ?_
   refine q7c (g:=22) 9 rfl Y17 (by decide) rfl rfl (fun _=>V2.call (qco free node _ (by omega)) rfl) ?_
   refine q1h (g:=22) 10 rfl Y17 (by decide) rfl rfl (fun _=>q8e rfl) ?_
   refine Zbz ?_
   refine Zbi ?_
   refine qp (g:=28) rfl (fun hg12=>?_) (fun hg12=>?_)
   ·refine Zwl ?_
    refine Zwm ?_
    refine Zwn ?_
    refine Zwo ?_
    refine Zwp ?_
    refine Zwq ?_
    refine Zwr ?_
    refine Zws ?_
    refine Zwt ?_
    refine Zwu ?_
    refine Zwv ?_
    refine Zww ?_
    refine Zwx ?_
    refine Zdu ?_
    exact Zwy
   ·refine q1j (g:=28) 13 rfl Y17 (by decide) rfl rfl (fun G=>qc rfl (lk rfl rfl) rfl (by decide)) ?_
    refine q1j (g:=28) 14 rfl Y17 (by decide) rfl rfl (fun G=>qi (v:=.str _) rfl (lk rfl rfl) rfl rfl rfl) ?_
    refine q1h (g:=28) 15 rfl Y17 (by decide) rfl rfl (fun _=>qer rfl rfl) ?_
    refine q1h (g:=28) 16 rfl Y17 (by decide) rfl rfl (fun _=>qd (v:=.bool _) rfl) ?_
    refine qp (g:=32) rfl (fun hg16=>?_) (fun hg16=>?_)
    ·refine q1j (g:=32) 17 rfl Y17 (by decide) rfl rfl (fun G=>qc rfl (lk rfl rfl) rfl (by decide)) ?_
     refine q1j (g:=32) 18 rfl Y17 (by decide) rfl rfl (fun G=>qi (v:=.str _) rfl (lk rfl rfl) rfl rfl rfl) ?_
     refine q1h (g:=32) 19 rfl Y17 (by decide) rfl rfl (fun _=>qd (v:=.pl _) rfl) ?_
     refine q1h (g:=32) 20 rfl Y17 (by decide) rfl rfl (fun _=>qd (v:=.int _ _) rfl) ?_
     refine q1j (g:=32) 21 rfl Y17 (by decide) rfl rfl (fun G=>qe rfl rfl hr rfl) ?_
     refine q1j (g:=32) 22 rfl Y17 (by decide) rfl rfl (fun G=>qx rfl (by decide)) ?_
     refine q1j (g:=32) 23 rfl Y17 (by decide) rfl rfl (fun G=>qz (v:=.str _) rfl hr rfl) ?_
     refine q1h (g:=32) 24 rfl Y17 (by decide) rfl rfl (fun _=>qer rfl rfl) ?_
     refine q1h (g:=28) 25 rfl Y17 (by decide) rfl rfl (fun _=>q16 (v:=.bool _) rfl rfl) ?_
     refine Zed ?_
     exact q1i Y17 Yv (Out.mk (by (refine congrArg AV.bool ?_;(clear hB hr hw hs hsf;rw [hf] at *;grind))) Yb)
    ·refine qr (g:=32) 17 rfl Y17 (by decide) rfl rfl rfl ?_
     refine qr (g:=32) 18 rfl Y17 (by decide) rfl rfl rfl ?_
     refine qr (g:=32) 19 rfl Y17 (by decide) rfl rfl rfl ?_
     refine qr (g:=32) 20 rfl Y17 (by decide) rfl rfl rfl ?_
     refine qr (g:=32) 21 rfl Y17 (by decide) rfl rfl rfl ?_
     refine qr (g:=32) 22 rfl Y17 (by decide) rfl rfl rfl ?_
     refine qr (g:=32) 23 rfl Y17 (by decide) rfl rfl rfl ?_
     refine qr (g:=32) 24 rfl Y17 (by decide) rfl rfl rfl ?_
     refine q1h (g:=28) 25 rfl Y17 (by decide) rfl rfl (fun _=>q17 (v:=.bool _) rfl rfl) ?_
     refine Zed ?_
     exact Zwy
 have hmh:q6n g free s node=if !(decide (t.kind=2)&&inl free node&&(decide (s.tag=⟨#[]⟩)||decide (t.tag=s.tag))) then ([],false)
  else if decide (((q4v g free node 3 s.cores).length:Int)<s.cores)||decide (((q4v g free node 4 s.gpus).length:Int)<s.gpus) then ([],false)
  else if !s.whole then (q7t (q4v g free node 3 s.cores) (q4v g free node 4 s.gpus),true)
  else if (q3l g node).all (fun n=>inl free n.toNat) then ((node:Int) :: q3l g node,true) else ([],false):=by
  rw [q6n,hkn,show qru g node=t.tag by rw [qru,ht]]
 rw [hmh]
 clear hmh
 refine Z1 ?_
 refine qa rfl (fun hc=>?_) (fun hc=>?_)
 ·rw [if_pos hc]
  refine Zrd ?_
  try dsimp only
  refine Z1d ?_
  refine q1c 8 rfl ?_
  exact Zox
 rw [if_neg Y16]
 have hc2:t.kind=2∧inl free node=true:=by
  simp only [Bool.not_eq_false',Bool.and_eq_true,decide_eq_true_eq] at hc
  exact hc.1
 obtain ⟨h2,hnf⟩:=hc2
 rw [h2] at hkn
 clear hc
 have hun:=qjl hg hn hkn
 have hUs:=qbs hg (node:=node) (by omega)
 have hUp:=q49 hUs
 have hUl:=q7z hUs
 have hUm:∀ x∈(node:Int) :: q3l g node,∃ m:Nat,x=(m:Int)∧m<g.length:=fun x hx=>by
  rcases List.mem_cons.1 hx with rfl | hx
  ·exact ⟨node,rfl,hn⟩
  ·exact qgu hx
 refine Zbe ?_
 refine ao2 Y11 (V2.call (qdp g (node:Int) _ (by omega) hw) rfl) ?_
 refine Z4x ?_
 rw [hun]
 have hall:=@GO.all g free s node
 have hc3:=qy8 (g:=g) (free:=free) hkn (c:=3) (most:=s.cores) (by decide) (by omega)
 have hc4:=qy8 (g:=g) (free:=free) hkn (c:=4) (most:=s.gpus) (by decide) (by omega)
 have hwh:(∀ n∈(node:Int) :: q3l g node,inl free n.toNat=true)↔(q3l g node).all (fun n=>inl free n.toNat)=true:=by
  rw [List.all_eq_true]
  constructor
  ·exact fun h x hx=>h x (List.mem_cons_of_mem _ hx)
  ·intro h x hx
   rcases List.mem_cons.1 hx with rfl | hx
   ·rw [Int.toNat_natCast];exact hnf
   ·exact h x hx
 rw [← hc3,← hc4]
 clear hc3 hc4
 generalize hU:(node:Int) :: q3l g node=U at *
 refine Z4m ?_
 refine Z2 ?_
 refine Z16 ?_
 refine Z1e ?_
 refine q22 (k:=1) 11 1 rfl (by decide) rfl ?_
 refine qm (G:=GS2) (fun q=>q.k≤U.length∧(s.whole=true→q.o=[]∧∀ n∈U.take q.k,inl free n.toNat=true)∧(s.whole=false→GO g free s.cores.toNat s.gpus.toNat U q.k q.o)) (fun q=>[(0,.pl (g.map qq)),(1,.pl (free.map eI)),(6,.pt (Lid H.length 0) 0 0 0),(10,.pl (U.map eI)),(11,.sl (Lid H.length 1) q.o.length 0 q.o.length q.o.length),(12,.int .i64 (ck g free 3 U q.k:Int)),(13,.int .i64 (ck g free 4 U q.k:Int)),(14,.int .i64 (q.k:Int))]) (fun q=>H++[⟨0,7,[q2i s]⟩,⟨q.o.length,1,q.o.map eI⟩]) (fun q=>U.length-q.k) ⟨0,[]⟩ ⟨Nat.zero_le _,fun _=>⟨rfl,by simp⟩,fun _=>GO.zero _ _ _ _ _⟩ Y6 (.inl rfl) ?_
 rintro ⟨k,o⟩ ⟨hk,hW,hG⟩
 simp only at hk hW hG ⊢
 have hol:o.length≤1000:=by
  cases e:s.whole with
  | true=>rw [(hW e).1];simp
  | false =>
   have hgo:=hG e
   have:=(q3b hgo.srt fun x hx=>q4h (hU▸hUs) (List.mem_of_mem_take (hgo.sub x hx)))
   have:=q7z this
   omega
 refine Z8z ?_
 refine qa rfl (fun hc=>?_) (fun hc=>?_)
 ·have hlt:k<U.length:=by simpa using hc
  obtain ⟨n,hx,hxl⟩:=qo hlt
  have hru:=qh eI hx
  obtain ⟨m,rfl,hm⟩:=hUm n hxl
  obtain ⟨x,hgx,hgxl⟩:=qo hm
  have hr2:=qh qq hgx
  have hkx:=qa7 hgx
  have s3:=qrw (g:=g) (free:=free) (c:=3) hx
  have s4:=qrw (g:=g) (free:=free) (c:=4) hx
  have l3:=qyd g free 3 U k
  have l4:=qyd g free 4 U k
  have p3:pk g free 3 (m:Int)=(inl free m&&decide (x.kind=3)):=by unfold pk;rw [Int.toNat_natCast,hkx]
  have p4:pk g free 4 (m:Int)=(inl free m&&decide (x.kind=4)):=by unfold pk;rw [Int.toNat_natCast,hkx]
  have hno:=fun h=>(hG h).no hx
  have hadd:=fun h=>(hG h).add hUp hx
  rw [p3,p4] at hno hadd
  rw [p3] at s3
  rw [p4] at s4
  have hWn:s.whole=true→inl free m=true→o=[]∧∀ n∈U.take (k+1),inl free n.toNat=true:=fun h hi=>by
   refine ⟨(hW h).1,fun n hn=>?_⟩
   rw [ql hx] at hn
   rcases List.mem_append.1 hn with hn | hn
   ·exact (hW h).2 n hn
   ·rw [List.mem_singleton] at hn;subst hn;rw [Int.toNat_natCast];exact hi
  clear hc hG
  refine Zbe ?_
  refine Zwz ?_
  refine Zx0 ?_
  refine Z4 ?_
  refine Zbe ?_
  refine ao2 Y11 (V2.call (qco free m _ (by omega)) rfl) ?_
  refine Z1a ?_
  refine Z4q ?_
  rw [hf,Bool.true_and]
  refine Z1 ?_
  refine qa rfl (fun hc=>?_) (fun hc=>?_)
  ·have hnf2:inl free m=false:=by simpa using hc
   rw [hnf2,Bool.false_and] at hno hadd s3 s4
   refine Z2 ?_
   refine Z3h ?_
   refine Z56 ?_
   refine qa rfl (fun hc=>?_) (fun hc=>?_)
   ·have hnall:(q3l g node).all (fun n=>inl free n.toNat)=false:=by
     cases e:(q3l g node).all (fun n=>inl free n.toNat) with
     | false=>rfl
     | true=>have:=hwh.2 e _ hxl;rw [Int.toNat_natCast,hnf2] at this;cases this
    rw [hnall,show (!s.whole)=false by rw [hc];rfl]
    rw [show (if (decide ((ck g free 3 U U.length:Int)<s.cores)||decide ((ck g free 4 U U.length:Int)<s.gpus))=true then (([]:List Int),false) else if false=true then (q7t (q4v g free node 3 s.cores) (q4v g free node 4 s.gpus),true) else if false=true then (U,true) else ([],false))=([],false) by split<;>rfl]
    refine Zrd ?_
    try dsimp only
    refine Z1d ?_
    refine q1c 8 rfl ?_
    exact Zox
   have hw0:s.whole=false:=by simpa using hc
   refine Z2l ?_
   refine ⟨⟨k+1,o⟩,by simp only;omega,⟨by simp only;omega,fun h=>(by rw [h] at hw0;cases hw0),fun h=>hno h (fun e=>by cases e) (fun e=>by cases e)⟩,?_,.refl _ _⟩
   simp only [s3,s4,if_neg (show ¬ false=true by decide),Nat.add_zero]
   exact Y6
  have hnf2:inl free m=true:=by simpa using hc
  rw [hnf2,Bool.true_and] at hno hadd s3 s4
  have hWn:=fun h=>hWn h hnf2
  clear hc
  refine Zbe ?_
  refine Zhe ?_
  refine Zh3 ?_
  refine Zhf ?_
  refine Zjw ?_
  refine qa rfl (fun hc=>?_) (fun hc=>?_)
  ·have h3:x.kind=3:=by simpa using hc
   rw [h3] at hno hadd s3 s4
   rw [decide_eq_true rfl] at hno hadd s3
   rw [show decide ((3:Int)=4)=false by decide] at hno hadd s4
   rw [if_pos rfl] at s3
   rw [if_neg (by decide),Nat.add_zero] at s4
   refine Z12 ?_
   refine ao1 (by decide) (q5y (r:=((ck g free 3 U (k+1):Nat):Int)) rfl rfl (by rw [s3,show ((ck g free 3 U k:Nat):Int)+1=((ck g free 3 U k+1:Nat):Int) by omega];exact q1b (by omega) (by omega))) ?_
   refine Za ?_
   refine qn 78 (.bool (!s.whole&&decide (((ck g free 3 U (k+1):Nat):Int)≤s.cores))) ?_ ?_
   ·refine Z3h ?_
    refine Z26 ?_
    refine qb rfl rfl (fun hg3=>?_) (fun hg3=>?_)
    ·refine Zj ?_
     refine Z39 ?_
     refine Zx ?_
     refine Zm ?_
     exact Zx1
    ·refine Z2i ?_
     exact Zx1
   refine Z1 ?_
   refine qa rfl (fun hc=>?_) (fun hc=>?_)
   ·simp only [Bool.and_eq_true,Bool.not_eq_true',decide_eq_true_eq] at hc
    obtain ⟨hw0,hle⟩:=hc
    have hgo:=hadd hw0 (.inl ⟨rfl,rfl,by omega⟩)
    refine Zcr ?_
    refine Zb8 ?_
    rw [show (o.map eI).take o.length=o.map eI from List.take_of_length_le (by simp)]
    refine Zbe ?_
    refine Zhe ?_
    refine Zh3 ?_
    refine Zhf ?_
    refine Zjw ?_
    refine qa rfl (fun hc=>?_) (fun hc=>?_)
    ·rw [h3] at hc;simp at hc
    refine Z2l ?_
    refine ⟨⟨k+1,o++[(m:Int)]⟩,by simp only;omega,⟨by simp only;omega,fun h=>(by rw [h] at hw0;cases hw0),fun _=>hgo⟩,?_,?_⟩
    ·simp only [s4,List.length_append];exact Y6
    ·simp only [List.length_append]
     refine Fit.loc hB Yu Y1 (qbw _ s _)
   ·refine Zbe ?_
    refine Zhe ?_
    refine Zh3 ?_
    refine Zhf ?_
    refine Z13 ?_
    refine Z55 ?_
    rename_i hcx
    have hgo:s.whole=false→GO g free s.cores.toNat s.gpus.toNat U (k+1) o:=fun h=>hno h (fun _=>by rw [h] at hc;simp at hc;omega) (fun e=>by cases e)
    refine Z1 ?_
    refine qa rfl (fun hc=>?_) (fun hc=>?_)
    ·rw [h3] at hc;simp at hc
    refine Z2l ?_
    refine ⟨⟨k+1,o⟩,by simp only;omega,⟨by simp only;omega,hWn,hgo⟩,?_,.refl _ _⟩
    simp only [s4];exact Y6
  have h3:x.kind≠3:=by simpa using hc
  rw [decide_eq_false h3] at hno hadd s3
  rw [if_neg (by decide),Nat.add_zero] at s3
  clear hc
  refine Zbe ?_
  refine Zhe ?_
  refine Zh3 ?_
  refine Zhf ?_
  refine Zjw ?_
  refine qa rfl (fun hc=>?_) (fun hc=>?_)
  ·have h4:x.kind=4:=by simpa using hc
   rw [decide_eq_true h4] at hno hadd s4
   rw [if_pos rfl] at s4
   refine Z12 ?_
   refine ao1 (by decide) (q5y (r:=((ck g free 4 U (k+1):Nat):Int)) rfl rfl (by rw [s4,show ((ck g free 4 U k:Nat):Int)+1=((ck g free 4 U k+1:Nat):Int) by omega];exact q1b (by omega) (by omega))) ?_
   refine Za ?_
   refine qn 99 (.bool (!s.whole&&decide (((ck g free 4 U (k+1):Nat):Int)≤s.gpus))) ?_ ?_
   ·refine Z3h ?_
    refine Z26 ?_
    refine qb rfl rfl (fun hg3=>?_) (fun hg3=>?_)
    ·refine Zj ?_
     refine Z39 ?_
     refine Zx ?_
     refine Zm ?_
     exact Zx1
    ·refine Z2i ?_
     exact Zx1
   refine Z1 ?_
   refine qa rfl (fun hc=>?_) (fun hc=>?_)
   ·simp only [Bool.and_eq_true,Bool.not_eq_true',decide_eq_true_eq] at hc
    obtain ⟨hw0,hle⟩:=hc
    have hgo:=hadd hw0 (.inr ⟨rfl,rfl,by omega⟩)
    refine Zcr ?_
    refine Zb8 ?_
    rw [show (o.map eI).take o.length=o.map eI from List.take_of_length_le (by simp)]
    refine Z2l ?_
    refine ⟨⟨k+1,o++[(m:Int)]⟩,by simp only;omega,⟨by simp only;omega,fun h=>(by rw [h] at hw0;cases hw0),fun _=>hgo⟩,?_,?_⟩
    ·simp only [s3,List.length_append];exact Y6
    ·simp only [List.length_append]
     refine Fit.loc hB Yu Y1 (qbw _ s _)
   ·have hgo:s.whole=false→GO g free s.cores.toNat s.gpus.toNat U (k+1) o:=fun h=>hno h (fun e=>by cases e) (fun _=>by rw [h] at hc;simp at hc;omega)
    refine Z2l ?_
    refine ⟨⟨k+1,o⟩,by simp only;omega,⟨by simp only;omega,hWn,hgo⟩,?_,.refl _ _⟩
    simp only [s3];exact Y6
  have h4:x.kind≠4:=by simpa using hc
  rw [decide_eq_false h4] at hno hadd s4
  rw [if_neg (by decide),Nat.add_zero] at s4
  have hgo:s.whole=false→GO g free s.cores.toNat s.gpus.toNat U (k+1) o:=fun h=>hno h (fun e=>by cases e) (fun e=>by cases e)
  refine Z2l ?_
  refine ⟨⟨k+1,o⟩,by simp only;omega,⟨by simp only;omega,hWn,hgo⟩,?_,.refl _ _⟩
  simp only [s3,s4];exact Y6
 ·have:k=U.length:=by simp at hc;omega
  subst this
  rw [List.take_length] at hW
  clear hc
  have hfin:=fun h=>hall (o:=o) hg hf hn hkn (hG h)
  clear hall hG
  generalize (ck g free 3 U U.length)=n3 at *
  generalize (ck g free 4 U U.length)=n4 at *
  cases hwhole:s.whole with
  | true =>
   have hWx:=hW hwhole
   obtain rfl:=hWx.1
   rw [hwh.1 hWx.2]
   refine Z2 ?_
   refine Z3h ?_
   refine qf ?_
   try dsimp only [Nat.reduceAdd,List.length_nil]
   refine Z1 ?_
   refine qa rfl (fun hc=>?_) (fun hc=>?_)
   ·refine Zic ?_
    refine Z9 ?_
    refine qn 116 (.bool (decide ((n3:Int)<s.cores)||decide ((n4:Int)<s.gpus))) ?_ ?_
    ·refine Z8 ?_
     refine Z3w ?_
     refine qb rfl rfl (fun hg4=>?_) (fun hg4=>?_)
     ·refine Z5g ?_
      exact qf (Out.mk (by (refine congrArg AV.bool ?_;(clear hB hr hw hs hsf hW hWx hfin hUp hUs hwh;(simp_all;done)))) Yb)
     ·refine Z8t ?_
      refine Zr ?_
      exact qf (Out.mk (by (refine congrArg AV.bool ?_;(clear hB hr hw hs hsf hW hWx hfin hUp hUs hwh;(simp_all;omega)))) Yb)
    refine Z1 ?_
    refine qa rfl (fun hc=>?_) (fun hc=>?_)
    ·rw [if_pos hc]
     refine Zrd ?_
     try dsimp only
     refine Z1d ?_
     refine q1c 8 rfl ?_
     exact Zox
    rw [if_neg Y16]
    refine Zic ?_
    refine Ze ?_
    exact Z7r
   ·rw [hwhole] at hc;cases hc
  | false =>
   rw [← hfin hwhole]
   refine Z2 ?_
   refine Z3h ?_
   refine Z56 ?_
   refine qa rfl (fun hc=>?_) (fun hc=>?_)
   ·rw [hwhole] at hc;cases hc
   refine Z1 ?_
   refine qn 116 (.bool (decide ((n3:Int)<s.cores)||decide ((n4:Int)<s.gpus))) ?_ ?_
   ·refine Z8 ?_
    refine Z3w ?_
    refine qb rfl rfl (fun hg4=>?_) (fun hg4=>?_)
    ·refine Z5g ?_
     exact qf (Out.mk (by (refine congrArg AV.bool ?_;(clear hB hr hw hs hsf hW hfin hUp hUs hwh;(simp_all;done)))) Yb)
    ·refine Z8t ?_
     refine Zr ?_
     exact qf (Out.mk (by (refine congrArg AV.bool ?_;(clear hB hr hw hs hsf hW hfin hUp hUs hwh;(simp_all;omega)))) Yb)
   refine Z1 ?_
   refine qa rfl (fun hc=>?_) (fun hc=>?_)
   ·rw [if_pos hc]
    refine Zrd ?_
    try dsimp only
    refine Z1d ?_
    refine q1c 8 rfl ?_
    exact Zox
   rw [if_neg Y16]
   refine Zos ?_
   refine Z1q ?_
   refine Z1d ?_
   refine qu (ys:=o.map eI) 8 rfl rfl rfl rfl Yg (by simp) (q1y 0 _) ?_
   exact Zox
end Go.Av
