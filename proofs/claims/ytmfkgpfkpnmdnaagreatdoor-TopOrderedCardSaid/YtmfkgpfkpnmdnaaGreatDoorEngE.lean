import Derived.Test.YtmfkgpfkpnmdnaaGreatDoorEngD
import Derived.Laws.Externs
import Derived.Lib.Bytealg
import Derived.Sort.Row
import Derived.Lib.Builder
open Array renaming ext'->Aw, toList_map->Bx, toList_replicate->Dd, getElem?_modify->Hu, toList_append->Hv, replicate->Hx
open Bool renaming and_eq_true->Hy, not_eq_true'->I0
open Eng.Obj renaming none->I1
open Eng.Obj.arr renaming injEq->I2
open Go.IntKind renaming u64->I3, u32->J3
open Go.Sort renaming putCells->J4
open Go.Value renaming int->Lm, slice->Lr
open List renaming mem_singleton->Ls, mem_flatMap->Lv, replicate->M0, map_cons->M1, mem_append->M2, getElem?_append_left->M3, length_take->No, mem_append_right->Pl, mem_of_mem_take->P1, mem_cons->Sz, size_toArray->Tk, map_nil->Ts, append_assoc->U0, length_drop->U3, getElem?_append_right->V1, getElem?_take_of_lt->W0, mem_map->W1, mem_replicate->W2, length_append->ba, getElem?_drop->bb, flatten_cons->bc, length_cons->bd, cons_append->be, length->bh
open List.cons renaming injEq->bm
open Nat renaming eq_of_beq_eq_true->bs, lt_of_lt_of_le->bw, beq->bx, mul_one->b4, le_refl->b5, le_trans->b6
open Ne renaming symm->bF
open Option.some renaming injEq->cb
open Prod.mk renaming injEq->cc
section
namespace Eng
open Go Go.RowKit
variable [Env]
end Eng
end
section
namespace Eng
open Go Go.RowKit
variable [Env]
section
variable {C:Cx} {B:Bd} {F0:Nat->Prop} {w0:World} {F:Nat->Prop} {loc:Where} {st:St} {a:Act} {w:World}
end
end Eng
end
section
namespace Eng
open Go Go.RowKit
variable [Env]
section
variable {C:Cx} {B:Bd} {F0:Nat->Prop} {w0:World} {F:Nat->Prop} {loc:Where} {st:St} {a:Act} {w:World}
variable {dst:Option Nat} {ty:TypeId} {pos:String} {after:Array Edge} {g:Option (Nat×Bool)}
omit [Env] in
theorem zg {f:Nat} {fn:Func} {args:Array Operand} {ts:Array TypeId} (hf:C.P.funcs[f]? =some fn) (hb:fn.body≠none) (hn:fn.name≠ "runtime.NumGoroutine")
 {R:Ending->World->Prop} (hc:Calls C.P f (args.map a.eval) w R) {next:Act->World->Prop} {Q:Exit->Act->World->Prop} (h:∀e w',R e w'->∃v,e= .returned v/\next (a.put dst v) w'):
 Oper.wp C.P ⟨dst,.call ⟨.value (.func f),args,ts⟩,ty,pos,after,g⟩ a w next Q:=by
 have a0:(execOp a.eval ⟨dst,.call ⟨.value (.func f),args,ts⟩,ty,pos,after,g⟩).run C.P w= .ok (.enter f (args.map a.eval)) w:=by simp[execOp,resolve,Act.eval,Deferred.ofValue,invoke,callFunc,hf,hn,hb]
 unfold Oper.wp;rw[a0,Oper.upon_enter];refine hc.mono λe w' he=>?_
 obtain⟨v,rfl,hx⟩:=h e w' he;exact hx
omit [Env] in
theorem EffR.more {wd:Bool} {dst:Option Nat} {l l':List Nat} {ob:List Obj} {r:R} (h:∀k,k∈l->k∈l') (hr:EffR wd dst l ob r):EffR wd dst l' ob r:=by
 cases r with
 |ok v up=>exact⟨λp hp=>⟨(hr.1 p hp).1.imp id λq=>⟨h _ q.1,q.2⟩,(hr.1 p hp).2⟩,hr.2⟩
 |cond c v up=>exact⟨λp hp=>⟨(hr.1 p hp).1.imp id λq=>⟨h _ q.1,q.2⟩,(hr.1 p hp).2⟩,hr.2⟩
 |fail=>trivial
 |look _ _ _ _=>exact hr.elim
 |call _ _ _ _=>exact hr.elim
end
end Eng
end
section
namespace Eng
open Go Go.RowKit
variable [Env]
structure EffAt (C:Cx) (f:Nat) (e:Option Nat->List V->List Obj->R):Prop where
 rs:∀{B:Bd} {F0:Nat->Prop} {w0:World} {F:Nat->Prop} {loc:Where} {st:St} {a:Act} {w:World} {dst:Option Nat} {args:Array Operand} {ts:Array TypeId} {ty:TypeId} {pos:String} {after:Array Edge} {g:Option (Nat×Bool)},
  Conc C B F0 w0 F loc st a w->RSW C B F0 w0 st a w ⟨dst,.call ⟨.value (.func f),args,ts⟩,ty,pos,after,g⟩ (e dst (args.toList.map (ev st)) st.objs)
 ag:∀(dst:Option Nat) (vs:List V) (ob ob':List Obj),(∀k∈jQ ob (vs.flatMap qh),nth .none ob k=nth .none ob' k)->(∀d,Bl (C.wd f) dst d->qx ob d=qx ob' d)->e dst vs ob=e dst vs ob'
 good:∀(dst:Option Nat) (vs:List V) (ob:List Obj),(∀v∈vs,∀k∈qh v,nth .none ob k≠ .none)->(∀k,∀u∈qQ (nth .none ob k),∀j∈qh u,nth .none ob j≠ .none)->EffR (C.wd f) dst (jQ ob (vs.flatMap qh)) ob (e dst vs ob)
structure EffAtC (C:Cx) (f:Nat) (e:Option Nat->List V->List Obj->R):Prop where
 rs:∀{B:Bd} {F0:Nat->Prop} {w0:World} {F:Nat->Prop} {loc:Where} {st:St} {a:Act} {w:World} {dst:Option Nat} {args:Array Operand} {ts:Array TypeId} {ty:TypeId} {pos:String} {after:Array Edge} {g:Option (Nat×Bool)},
  Conc C B F0 w0 F loc st a w->RSW C B F0 w0 st a w ⟨dst,.call ⟨.value (.func f),args,ts⟩,ty,pos,after,g⟩ (e dst (args.toList.map (ev st)) st.objs)
 ag:∀(dst:Option Nat) (vs:List V) (ob ob':List Obj),(∀k∈wC ob (vs.flatMap qh),nth .none ob k=nth .none ob' k)->(∀d,Bl (C.wd f) dst d->qx ob d=qx ob' d)->e dst vs ob=e dst vs ob'
 good:∀(dst:Option Nat) (vs:List V) (ob:List Obj),(∀v∈vs,∀k∈qh v,nth .none ob k≠ .none)->(∀k,∀u∈qQ (nth .none ob k),∀j∈qh u,nth .none ob j≠ .none)->EffR (C.wd f) dst (wC ob (vs.flatMap qh)) ob (e dst vs ob)
theorem EffAt.toC {C:Cx} {f:Nat} {e:Option Nat->List V->List Obj->R} (h:EffAt C f e):EffAtC C f e:=
 ⟨h.rs,λdst vs ob ob' ha hd=>h.ag dst vs ob ob' (λk hk=>ha k (jV hk)) hd,λdst vs ob hv hb=>(h.good dst vs ob hv hb).more λ_=>jV⟩
theorem Qm {C:Cx} (h:∀f e,C.eff f=some e->EffAtC C f e):EffOk C where
 rs hf _ _ _ _ _ _ _ _ _ _ _ _ _ _ _ hc:=(h _ _ hf).rs hc
 ag hf:=(h _ _ hf).ag
 good hf:=(h _ _ hf).good
theorem xd {C:Cx} (h:∀f e,C.eff f=some e->EffAt C f e):EffOk C:=Qm λf e he=>(h f e he).toC
end Eng
end
section
namespace Eng
open Go Go.RowKit Go.Sort
variable [Env]
def aJ (by_ c:Int):List Int->Int
 |[]=>c
 |y::_=>I3.wrap (c+I3.wrap (I3.wrap y*by_))
def Br (x c:Int):List Int->Int
 |[]=>J3.wrap (x+c)
 |y::_=>J3.wrap (J3.wrap (x+c)+y)
def ke (by_:Int):List Int->List Int->Int->Int->List Int×Int×Int
 |[],_,c,b=>([],c,b)
 |x::us,vs,c,b=>
  let t:=aJ by_ c vs
  let y:=I3.wrap (t.tmod 1000000000+b)
  match decide (I3.wrap x<y)with
  |true=>
   let r:=ke by_ us vs.tail (I3.wrap (t.tdiv 1000000000)) 1
   (J3.wrap (I3.wrap (I3.wrap (I3.wrap x+1000000000)-y))::r.1,r.2)
  |false=>
   let r:=ke by_ us vs.tail (I3.wrap (t.tdiv 1000000000)) 0
   (J3.wrap (I3.wrap (I3.wrap x-y))::r.1,r.2)
def Z9:List Int->List Int->Int->List Int
 |[],_,_=>[]
 |x::us,vs,c=>
  let t:=Br x c vs
  match decide (1000000000<=t)with
  |true=>J3.wrap (t-1000000000)::Z9 us vs.tail 1
  |false=>t::Z9 us vs.tail 0
omit [Env] in
theorem XW (by_:Int):∀(us vs:List Int) (c b:Int),(ke by_ us vs c b).1.length=us.length
 |[],_,_,_=>rfl
 |x::us,vs,c,b=>by simp only[ke];split<;>simp[XW by_ us]
omit [Env] in
theorem XX:∀(us vs:List Int) (c:Int),(Z9 us vs c).length=us.length
 |[],_,_=>rfl
 |x::us,vs,c=>by simp only[Z9];split<;>simp[XX us]
structure SubK (P:Program) (fS fR:Nat):Prop where
 there:∀f,f=fS\/f=fR->∃fn,P.funcs[f]? =some fn/\fn.body≠none/\fn.name≠ "runtime.NumGoroutine"
 sub:∀{w:World} {g off cap bv ov cv:Nat} (us vs:List Int) (by_:Int),Holds (Lm .u32) w g off us.toArray->bv≠g->us.length<=1073741824->vs.length<=1073741824->
  (∀j (h:j<vs.length),w.cell? ⟨bv,ov+j,none⟩=some (.int .u32 vs[j]))->
  Calls P fS #[.slice (some ⟨g,off,none⟩) us.length cap,.slice (some ⟨bv,ov,none⟩) vs.length cv,.int .u64 by_] w λe w'=>
   e= .returned (.bool (decide (0<(ke by_ us vs 0 0).2.2)||decide (0<(ke by_ us vs 0 0).2.1)))/\w'=putRow (Lm .u32) w g off (ke by_ us vs 0 0).1.toArray
 res:∀{w:World} {g off cap bv ov cv:Nat} (us vs:List Int),Holds (Lm .u32) w g off us.toArray->bv≠g->us.length<=1073741824->vs.length<=1073741824->
  (∀j (h:j<vs.length),w.cell? ⟨bv,ov+j,none⟩=some (.int .u32 vs[j]))->
  Calls P fR #[.slice (some ⟨g,off,none⟩) us.length cap,.slice (some ⟨bv,ov,none⟩) vs.length cv] w λe w'=>
   e= .returned (.tuple #[])/\w'=putRow (Lm .u32) w g off (Z9 us vs 0).toArray
def intB:List D->Bool
 |[.int .u32 _]=>true
 |_=>false
def yd:List (List D)->Bool
 |[]=>true
 |e::r=>intB e&&yd r
def cO:List D->Int
 |[.int _ n]=>n
 |_=>0
def xi (es:List (List D)):List Int:=es.map cO
def xA (l:List Int):List (List D):=l.map λn=>[.int .u32 n]
omit [Env] in
theorem JZ:∀{es:List (List D)},yd es=true->es=xA (xi es)
 |[],_=>rfl
 |e::r,h=>by
  simp only[yd,Hy]at h;have ih:=JZ h.2;have he:=h.1;unfold intB at he;split at he
  .simp only[xA,xi,M1,cO]at ih ⊢;rw[<-ih]
  .simp at he
omit [Env] in
theorem ZK (l:List Int):(xA l).flatten=l.map (D.int .u32):=by
 induction l with
 |nil=>rfl
 |cons c l ih=>simp only[xA,M1,bc]at ih ⊢;rw[ih];rfl
omit [Env] in
theorem xB (l:List Int):(xA l).length=l.length:=by simp[xA]
omit [Env] in
theorem Jm (l:List Int):∀e∈xA l,e.length=1:=by
 intro e he;simp only[xA,W1]at he;obtain⟨c,_,rfl⟩:=he;rfl
def kQ (c:Prop) [Decidable c] (res:List Int->V) (new:List Int->List Int) (x:V) (ob:List Obj):R:=
 match x with
 | .sub k off len=>match nth .none ob k with
  | .arr s es false=>match bx s 1 with
   |true=> .cond (c/\0<len/\off+len<=es.length/\yd ((es.drop off).take len)=true) (res (xi ((es.drop off).take len))) [(k,.arr 1 (es.take off++xA (new (xi ((es.drop off).take len)))++es.drop (off+len)) false)]
   |false=> .fail
  |_=> .fail
 |_=> .fail
def W3 (_:Option Nat) (vs:List V) (ob:List Obj):R:=
 match vs with
 |[x,.c (.sl ys),.c (.int .u64 n)]=>kQ (ys≠[]/\yd ys=true/\ys.length<=1073741824)
  (λus=> .c (.bool (decide (0<(ke n us (xi ys) 0 0).2.2)||decide (0<(ke n us (xi ys) 0 0).2.1)))) (λus=>(ke n us (xi ys) 0 0).1) x ob
 |_=> .fail
def W4 (_:Option Nat) (vs:List V) (ob:List Obj):R:=
 match vs with
 |[x,.c (.sl ys)]=>kQ (ys≠[]/\yd ys=true/\ys.length<=1073741824) (λ_=> .tp []) (λus=>Z9 us (xi ys) 0) x ob
 |_=> .fail
omit [Env] in
theorem Jn {c:Prop} [Decidable c] {res:List Int->V} {new:List Int->List Int} {x:V} {ob ob':List Obj} (h:∀k∈jQ ob (qh x),nth .none ob k=nth .none ob' k):kQ c res new x ob=kQ c res new x ob':=by
 cases x with
 |sub k off len=>simp only[kQ];rw[h k (by simp[qh,qq])]
 |_=>rfl
omit [Env] in
theorem QB {wd:Bool} {dst:Option Nat} {c:Prop} [Decidable c] {res:List Int->V} {new:List Int->List Int} (hres:∀us,qh (res us)=[]) {x:V} {ob:List Obj}:EffR wd dst (jQ ob (qh x)) ob (kQ c res new x ob):=by
 unfold kQ;split
 .rename_i k off len;split
  .rename_i s es hk;split
   .refine⟨λp hp=>?_,λj hj=>by rw[hres]at hj;simp at hj⟩;simp only[Ls]at hp;subst hp;exact⟨.inr ⟨by simp[qh,qq],by rw[hk];simp⟩,by simp,λu hu=>by simp[qQ]at hu⟩
   .trivial
  .trivial
 .trivial
section
variable {C:Cx} {B:Bd} {F0:Nat->Prop} {w0:World} {F:Nat->Prop} {loc:Where} {st:St} {a:Act} {w:World}
variable {dst:Option Nat} {ty:TypeId} {pos:String} {after:Array Edge} {g:Option (Nat×Bool)}
theorem TB {k off len b c:Nat} {es:List (List D)} {us us':List Int} {v:V} {x:Value} (h:Conc C B F0 w0 F loc st a w) (hk:nth .none st.objs k= .arr 1 es false) (hl:loc k=some (b,c))
 (hle:off+len<=es.length) (hus:(es.drop off).take len=xA us) (hlen:us'.length=us.length)
 (hv:∀(loc:Where) (objs:List Obj) (w:World) (F:Nat->Prop),CV loc objs w F v x/\Ref objs v):
 St.has C B F0 w0 (st.put dst v [(k,.arr 1 (es.take off++xA us'++es.drop (off+len)) false)]) (a.put dst x) (putRow (Lm .u32) w b off us'.toArray):=by
 have hul:us.length=len:=by have:=congrArg bh hus;rw[xB,No,U3]at this;omega
 have a6:=h.objs k;rw[hk]at a6;obtain⟨a5,_,a1,a6⟩:=a6;rcases a6 with⟨h4,_⟩|⟨b',c',cs,t,h4,h5,h6,h7,h8,h9,h10,h11⟩
 .rw[h4]at hl;simp at hl
 rw[h4]at hl;simp only[cb,cc]at hl;obtain⟨rfl,rfl⟩:=hl;have hfk:=h.fresh _ _ _ h4;have hkl:k<st.objs.length:=qW (by rw[hk];simp);generalize hes':es.take off++xA us'++es.drop (off+len)=es' at *;have al:es'.length=es.length:=by rw[<-hes'];simp only[ba,No,U3,xB];omega
 have a3:∀e∈es',e.length=1:=by
  rw[<-hes'];intro e he;simp only[M2]at he;rcases he with(he|he)|he
  .exact a1 e (P1 he)
  .exact Jm us' e he
  .exact a1 e (List.mem_of_mem_drop he)
 have hn:∀j,nth .none (upd st.objs k (.arr 1 es' false)) j=if j=k then .arr 1 es' false else nth .none st.objs j:=by
  intro j;by_cases h1:j=k
  .subst h1;rw[qb _ _ _ hkl,if_pos rfl]
  .rw[qa _ _ _ (bF h1),if_neg h1]
 have a0:∀β,β≠b'->(putRow (Lm .u32) w b' off us'.toArray).heap[β]? =w.heap[β]? :=by intro β hβ;show(w.heap.modify b' _)[β]? =_;rw[Hu,if_neg (bF hβ)]
 have a7:(putRow (Lm .u32) w b' off us'.toArray).heap[b']? =some (.cells (J4 (Lm .u32) off us'.toArray cs) t (0,0)):=by show(w.heap.modify b' _)[b']? =_;rw[Hu,if_pos rfl,h6];rfl
 have ag:∀β,F β->(putRow (Lm .u32) w b' off us'.toArray).heap[β]? =w.heap[β]? :=λβ hβ=>a0 β λe=>h5 (e▸hβ)
 have a4:Le st.objs (upd st.objs k (.arr 1 es' false)) loc loc:=by
  refine⟨rfl,λ_ _=>rfl,λj hj=>?_,λj o' hj hc hbx=>?_,λj s' es2 fz' hj hc=>?_⟩
  .rw[hn];split
   .simp
   .exact hj
  .rw[hn]at hc;split at hc
   .rw[<-hc]at hbx;simp[xD]at hbx
   .exact⟨by rw[hc];exact hbx,rfl⟩
  .rw[hn]at hc;split at hc
   .rename_i e;subst e;simp only[I2]at hc;obtain⟨rfl,rfl,rfl⟩:=hc;exact⟨⟨es,false,hk,al⟩,rfl⟩
   .exact⟨⟨_,_,hc,rfl⟩,rfl⟩
 refine⟨F,loc,h.step (up:=[(k,.arr 1 es' false)]) (λ_ h=>h) ag a4 (h.below.trans ⟨rfl,rfl,rfl,by rw[size_putRow];exact b5 _,λj hj hjX=>a0 j (λe=>by
  rcases hfk.1 with h1|h1
  .omega
  .exact hjX (e▸h1))⟩) (by rw[size_putRow];exact h.hB) (λj=>?_) h.inj (λj β c hβ=>by rw[size_putRow];exact h.fresh j β c hβ) (λβ hβ=>by rw[size_putRow];exact h.bound β hβ) h.fsub (hv _ _ _ _).1 (hv loc _ w F).2⟩
 show CO loc (upd st.objs k (.arr 1 es' false)) _ F j (nth .none (upd st.objs k (.arr 1 es' false)) j);rw[hn];by_cases h1:j=k
 .subst h1;rw[if_pos rfl];refine⟨by rw[al];exact a5,by omega,a3,.inr ⟨b',c',_,t,h4,h5,a7,?_,by omega,λi hi=>?_,h10,h11⟩⟩
  .simp only[J4,Array.size_mapIdx];exact h7
  .rw[b4]at hi;obtain⟨u,hu,hcd⟩:=h9 i (by omega);have a2:=hcd.mono (F':=F) (λ_ h=>h) ag;have ad:(J4 (Lm .u32) off us'.toArray cs)[i]? =some (if off<=i/\i<off+us'.length then Lm .u32 (us'.toArray[i-off]!)else u):=by simp only[J4,Array.getElem?_mapIdx,hu,Option.map_some,Tk]
   refine⟨_,ad,?_⟩;have ap:∀(l:List (List D)),(∀e∈l,e.length=1)->∀i,i<l.length->nth .undef l.flatten i=nth .undef (nth [] l i) 0:=λl hl i hi=>by
    have:=xO hl i 0 hi (by omega)
    simpa using this
   rw[ap es' a3 i hi];rw[ap es a1 i (by omega)]at a2;by_cases hr:off<=i/\i<off+us'.length
   .rw[if_pos hr];have an:i-off<us'.length:=by omega
    have:nth [] es' i=[D.int .u32 (us'[i-off])]:=by
     rw[<-hes',qw,U0,V1 (by simp;omega),M3 (by simp[xB];omega)];have e1:i-(es.take off).length=i-off:=by simp;omega
     rw[e1];simp[xA,an]
    rw[this];have:us'.toArray[i-off]! =us'[i-off]:=by simp[an]
    rw[this];exact .int _ _
   .rw[if_neg hr];have:nth [] es' i=nth [] es i:=by
     rw[<-hes'];simp only[qw];by_cases h2:i<off
     .rw[U0,M3 (by simp;omega),W0 h2]
     .rw[V1 (by simp[xB];omega),bb];congr 2;simp[xB];omega
    rw[this];exact a2
 .rw[if_neg h1];refine CO.le (λ_ h=>h) ag a4 rfl rfl (λβ c hβ=>⟨?_,λh=>h⟩) (h.objs j);refine a0 β λe=>?_
  subst e;exact h1 (h.inj _ _ _ _ _ hβ h4)
theorem Jo {f:Nat} {fn:Func} {x:Operand} {zs:List Operand} {c:Prop} [Decidable c] {res:List Int->V} {new:List Int->List Int} {args:Array Operand} {ts:Array TypeId}
 (h:Conc C B F0 w0 F loc st a w) (hf:C.P.funcs[f]? =some fn) (hb:fn.body≠none) (hn:fn.name≠ "runtime.NumGoroutine") (hargs:args.toList=x::zs)
 (hc:c->∀{g off cap:Nat} (us:List Int),Holds (Lm .u32) w g off us.toArray->¬F g->us.length<=1073741824->(new us).length=us.length/\∃rv,(∀(loc:Where) (objs:List Obj) (w:World) (F:Nat->Prop),CV loc objs w F (res us) rv/\Ref objs (res us))/\
  Calls C.P f (.slice (some ⟨g,off,none⟩) us.length cap::zs.map a.eval).toArray w λe w'=>e= .returned rv/\w'=putRow (Lm .u32) w g off (new us).toArray):
 RSW C B F0 w0 st a w ⟨dst,.call ⟨.value (.func f),args,ts⟩,ty,pos,after,g⟩ (kQ c res new (ev st x) st.objs):=by
 have hx:=(qU h x).1;unfold kQ;split
 .rename_i k off a7 hxv;rw[hxv]at hx;split
  .rename_i s es hk;split
   .rename_i hs;have hs:s=1:=bs hs;subst hs;rintro⟨hcc,hl0,hle,a3⟩;have a3:=JZ a3;generalize hue:xi ((es.drop off).take a7)=us at *;obtain⟨b,cp,hl,hle2,hxe⟩:=(hx 1 es false hk).resolve_right (by rintro(⟨_,_,_,_,h4,_⟩|⟨_,_,_,h4,_⟩)<;>omega);have hul:us.length=a7:=by have:=congrArg bh a3;rw[xB,No,U3]at this;omega
    have a4:=h.objs k;rw[hk]at a4;obtain⟨a2,_,a6,a4⟩:=a4;rcases a4 with⟨h4,_⟩|⟨b',c',cs,t,h4,h5,h6,h7,h8,h9,h10,h11⟩
    .rw[h4]at hl;simp at hl
    rw[h4]at hl;simp only[cb,cc]at hl;obtain⟨rfl,rfl⟩:=hl;have a1:Holds (Lm .u32) w b' off us.toArray:=by
     intro j hj;have hj:j<us.length:=by simpa using hj
     obtain⟨u,hu,ad⟩:=h9 (off+j) (by omega);have hel:nth [] es (off+j)=[D.int .u32 us[j]]:=by
      have:nth [] ((es.drop off).take a7) j=nth [] es (off+j):=by simp only[qw];rw[W0 (by omega),bb]
      rw[<-this,a3,qw];simp[xA,hj]
     have ag:=xO a6 (off+j) 0 (by omega) (by omega);rw[b4,Nat.add_zero,hel]at ag;rw[ag]at ad;have hu':u= .int .u32 us[j]:=by cases(ad:CD _ _ (.int .u32 us[j]) _);rfl
     subst hu';refine⟨?_,?_⟩
     .rw[Lib.cell_of_heap h6,hu];simp[hj]
     .exact Lib.frozen_of_heap h6 _
    have hr:us.length<=1073741824:=by have:es.length<=1073741824:=a2.one;omega
    obtain⟨a5,rv,hrv,a0⟩:=hc hcc (cap:=c'-off) us a1 h5 hr;intro next Q hnx
    have hae:(.slice (some ⟨b',off,none⟩) us.length (c'-off)::zs.map a.eval).toArray=args.map a.eval:=by apply Aw;rw[Bx,hargs,M1,hxe,hul,b4]
    rw[hae]at a0;refine zg hf hb hn a0 λe w' he=>?_
    obtain⟨rfl,rfl⟩:=he;exact⟨_,rfl,hnx _ _ (TB h hk h4 hle a3 a5 hrv)⟩
   .trivial
  .trivial
 .trivial
theorem YQ {ys:List (List D)} {x:Value} (hx:CD w F (.sl ys) x) (hne:ys≠[]) (hl:yd ys=true):∃b o c,x= .slice (some ⟨b,o,none⟩) (xi ys).length c/\F b/\∀j (hj:j<(xi ys).length),w.cell? ⟨b,o+j,none⟩=some (.int .u32 (xi ys)[j]):=by
 have hys:=JZ hl;generalize xi ys=l at *;obtain⟨ad,c,a2,hlc,a0⟩:=hx.slice_inv;rcases a0 with h0|⟨b,o,a1,rfl,a0⟩
 .exact absurd h0 hne
 .subst hys;have hs1:a1=1:=by obtain⟨e,r,he⟩:=List.exists_cons_of_ne_nil hne;have h1:=a0.hs e (by rw[he];simp);have h2:=Jm l e (by rw[he];simp);omega
  subst hs1;rw[xB]at a2;refine⟨b,o,c,a2,a0.hF,λj hj=>?_⟩;obtain⟨v,h1,h2⟩:=a0.hc j (by rw[xB];omega);rw[ZK,qk _ (by simpa using hj),List.getElem_map]at h2;have:v= .int .u32 l[j]:=by cases(h2:CD _ _ (.int .u32 l[j]) _);rfl
  rw[h1,this]
omit [Env] in
theorem QC (ys:List (List D)):(xi ys).length=ys.length:=by simp[xi]
theorem W5 {fS fR:Nat} (hk:SubK C.P fS fR):EffAt C fS W3:=by
 refine⟨λ{B F0 w0 F loc st a w dst args ts ty pos after g} h=>?_,λdst vs ob ob' h hd=>?_,λdst vs ob hv hb=>?_⟩
 .unfold W3;split
  .rename_i v ys n a0;obtain⟨x,y2,z,hax,hx,hy,hz⟩:∃x y2 z,args.toList=[x,y2,z]/\ev st x=v/\ev st y2= .c (.sl ys)/\ev st z= .c (.int .u64 n):=by
    match hl:args.toList with
    |[]=>rw[hl]at a0;simp at a0
    |[x]=>rw[hl]at a0;simp at a0
    |[x,y]=>rw[hl]at a0;simp at a0
    |[x,y,z]=>rw[hl]at a0;simp only[M1,Ts,bm]at a0;exact⟨x,y,z,rfl,a0.1,a0.2.1,a0.2.2.1⟩
    |_::_::_::_::_=>rw[hl]at a0;simp at a0
   obtain⟨fn,hf,hb,hn⟩:=hk.there fS (.inl rfl);have a6:=(qU h y2).1;rw[hy]at a6;have a4:=(qU h z).1;rw[hz]at a4;have a4:=kG a4;rw[<-hx];refine Jo (zs:=[y2,z]) h hf hb hn hax ?_;rintro⟨hne,a2,a3⟩ g off cap us hH hnF a5;obtain⟨b,o,c,hye,hF,a1⟩:=YQ a6 hne a2;refine⟨XW _ _ _ _ _,_,λloc objs w F=>⟨CD.bool _,trivial⟩,?_⟩;have:=hk.sub (cap:=cap) (cv:=c) us (xi ys) n hH (λe=>hnF (e▸hF)) a5 (by rw[QC];exact a3) a1;rw[M1,M1,Ts,hye,a4];exact this
  .trivial
 .unfold W3;split
  .exact Jn λk hk=>h k (by simpa [qh]using hk)
  .rfl
 .unfold W3;split
  .rename_i x ys n;have:=λwd=>QB (wd:=wd) (dst:=dst) (ob:=ob) (x:=x) (c:=ys≠[]/\yd ys=true/\ys.length<=1073741824) (res:=λus=> .c (.bool (decide (0<(ke n us (xi ys) 0 0).2.2)||decide (0<(ke n us (xi ys) 0 0).2.1)))) (new:=λus=>(ke n us (xi ys) 0 0).1) (λ_=>rfl)
   simpa [qh]using this _
  .trivial
theorem W6 {fS fR:Nat} (hk:SubK C.P fS fR):EffAt C fR W4:=by
 refine⟨λ{B F0 w0 F loc st a w dst args ts ty pos after g} h=>?_,λdst vs ob ob' h hd=>?_,λdst vs ob hv hb=>?_⟩
 .unfold W4;split
  .rename_i v ys a0;obtain⟨x,y2,hax,hx,hy⟩:∃x y2,args.toList=[x,y2]/\ev st x=v/\ev st y2= .c (.sl ys):=by
    match hl:args.toList with
    |[]=>rw[hl]at a0;simp at a0
    |[x]=>rw[hl]at a0;simp at a0
    |[x,y]=>rw[hl]at a0;simp only[M1,Ts,bm]at a0;exact⟨x,y,rfl,a0.1,a0.2.1⟩
    |_::_::_::_=>rw[hl]at a0;simp at a0
   obtain⟨fn,hf,hb,hn⟩:=hk.there fR (.inr rfl);have a5:=(qU h y2).1;rw[hy]at a5;rw[<-hx];refine Jo (zs:=[y2]) h hf hb hn hax ?_;rintro⟨hne,a2,a3⟩ g off cap us hH hnF a4;obtain⟨b,o,c,hye,hF,a1⟩:=YQ a5 hne a2;refine⟨XX _ _ _,_,λloc objs w F=>⟨⟨#[],rfl,trivial⟩,trivial⟩,?_⟩;have:=hk.res (cap:=cap) (cv:=c) us (xi ys) hH (λe=>hnF (e▸hF)) a4 (by rw[QC];exact a3) a1;rw[M1,Ts,hye];exact this
  .trivial
 .unfold W4;split
  .exact Jn λk hk=>h k (by simpa [qh]using hk)
  .rfl
 .unfold W4;split
  .rename_i x ys;have:=λwd=>QB (wd:=wd) (dst:=dst) (ob:=ob) (x:=x) (c:=ys≠[]/\yd ys=true/\ys.length<=1073741824) (res:=λ_=> .tp []) (new:=λus=>Z9 us (xi ys) 0) (λ_=>rfl)
   simpa [qh]using this _
  .trivial
end
end Eng
end
section
namespace Eng
open Go Go.RowKit
variable [Env]
def YR (a b:Ann):Nat->Ann
 |0=>a
 |_=>b
def cP (a b c:Ann):Nat->Ann
 |0=>a
 |1=>b
 |_=>c
def wP:List (List D)->Bool
 |[]=>true
 |e::r=>e.all Xy&&wP r
omit [Env] in
theorem W7:∀{es:List (List D)},wP es=true->∀d∈es.flatten,Xy d=true
 |[],_,d,hd=>by simp at hd
 |e::r,h,d,hd=>by
  simp only[wP,Hy]at h;simp only[bc,M2]at hd;rcases hd with hd|hd
  .exact List.all_eq_true.1 h.1 d hd
  .exact W7 h.2 d hd
def E6 (st:St) (rs:List ResultVar):Option (Nat×List (List D)):=
 match rs with
 |[.tmp t]=>match nth .any st.tmps t with
  | .arr k=>match nth .none st.objs k with
   | .arr s es false=>some (s,es)
   |_=>none
  |_=>none
 |_=>none
def E7 (st:St) (rs:List ResultVar):Option (Nat×List (List D)):=
 match E6 st rs with
 |some (s,es)=>match es with
  |[]=>none
  |_::_=>match wP es with
   |true=>some (s,es)
   |false=>none
 |none=>none
omit [Env] in
theorem Bs {st:St} {rs:List ResultVar} {s:Nat} {es:List (List D)} (h:E6 st rs=some (s,es)) (h1:es≠[]) (h2:wP es=true):E7 st rs=some (s,es):=by
 unfold E7;rw[h];cases es with
 |nil=>exact absurd rfl h1
 |cons e r=>simp only[h2]
def jX (C:Cx) (f:Nat) (args:List A) (s:Nat) (es:List (List D)):Prop:=
 ∀(w:World) (F:Nat->Prop) (vs:List Value),(∀b,F b->b<w.heap.size)->Inv C F w->All2 (CA w F) args vs->
  Calls C.P f vs.toArray w λe w'=>Below w.heap.size w w'/\∃b c cs t,e= .returned (.slice (some ⟨b,0,none⟩) es.length c)/\w.heap.size<=b/\b<w'.heap.size/\w'.heap[b]? =some (.cells cs t (0,0))/\cs.size=c*s/\(es.length<=c/\c<=9223372036854775807)/\
   roomS s es.length/\0<s/\(∀e∈es,e.length=s)/\C.P.cellsOf t=s/\∀j,j<es.length*s->∃v,cs[j]? =some v/\∀(w:World) (F:Nat->Prop),CD w F (nth .undef es.flatten j) v
theorem QD {C C':Cx} (hG:C'.G=C.G) {F:Nat->Prop} {w:World} (h:Inv C F w):Inv C' F w:=λg cs hg=>h g cs (hG▸hg)
theorem xP {C C':Cx} (hP:C'.P=C.P) (hG:C'.G=C.G) {f:Nat} {as rs:List A} (h:Gives C f as rs):Gives C' f as rs:=by
 intro w F vs hb hi ha;rw[hP];exact h w F vs hb (QD hG.symm hi) ha
theorem XY {C C':Cx} (hP:C'.P=C.P) (hG:C'.G=C.G) {f s:Nat} {as:List A} {es:List (List D)} (h:jX C f as s es):jX C' f as s es:=by
 intro w F vs hb hi ha;rw[hP];exact h w F vs hb (QD hG.symm hi) ha
section
variable {C:Cx}
theorem Bt {fn:Func} {w:World} {F:Nat->Prop} {s':St} {a':Act} {w':World} {s:Nat} {es:List (List D)} (hh:St.has C ⟨w.heap.size,λ_=>False⟩ F w s' a' w') (has:E7 s' fn.results.toList=some (s,es)):
 a'.defers=[]/\∃v,(results fn a'.tmps).run C.P w'= .ok v w'/\Below w.heap.size w w'/\∃b c cs t,Ending.returned v= .returned (.slice (some ⟨b,0,none⟩) es.length c)/\w.heap.size<=b/\b<w'.heap.size/\w'.heap[b]? =some (.cells cs t (0,0))/\cs.size=c*s/\(es.length<=c/\c<=9223372036854775807)/\
  roomS s es.length/\0<s/\(∀e∈es,e.length=s)/\C.P.cellsOf t=s/\∀j,j<es.length*s->∃v,cs[j]? =some v/\∀(w:World) (F:Nat->Prop),CD w F (nth .undef es.flatten j) v:=by
 obtain⟨F',loc',h⟩:=hh;have a3:∃e r,es=e::r/\wP es=true/\E6 s' fn.results.toList=some (s,es):=by
  unfold E7 at has;split at has
  .rename_i s1 es1 h1;split at has
   .simp at has
   .split at has
    .rename_i a4;simp only[cb,cc]at has;obtain⟨rfl,rfl⟩:=has;exact⟨_,_,rfl,a4,h1⟩
    .simp at has
  .simp at has
 obtain⟨e,r,rfl,a4,has⟩:=a3;unfold E6 at has;split at has
 .rename_i t hrs;split at has
  .rename_i k hk;split at has
   .rename_i s0 es0 a6
    ··simp only[cb,cc]at has;obtain⟨rfl,rfl⟩:=has;have hx:=(wH h t).1;simp only[Act.eval]at hx;rw[hk]at hx;have a2:=h.objs k;rw[a6]at a2;obtain⟨a1,hs0,a0,a2⟩:=a2;rcases hx _ _ _ a6 with⟨b,c,hl,hv⟩|⟨_,h0,_⟩
      .rcases a2 with⟨h4,_⟩|⟨b',c',cs,t',h4,h5,h6,h7,h8,h9,h10,h11⟩
       .rw[h4]at hl;simp at hl
       .rw[h4]at hl;simp only[cb,cc]at hl;obtain⟨rfl,rfl⟩:=hl;have a5:=h.fresh _ _ _ h4;refine⟨h.defers,.slice (some ⟨b',0,none⟩) (e::r).length c',?_,h.below.toBelow,b',c',cs,t',rfl,a5.1.elim id False.elim,a5.2,h6,h7,h8,a1,hs0,a0,by rw[<-h.prog];exact h10,λj hj=>?_⟩
        .have hr:fn.results= #[.tmp t]:=by apply Aw;simpa using hrs
         unfold results;rw[hr];have hv':a'.tmps[t]?.getD undef= .slice (some ⟨b',0,none⟩) (e::r).length c':=by rw[<-hv];simp
         simp[hv']
        .obtain⟨v,q1,q2⟩:=h9 j hj;refine⟨v,q1,λw F=>VE q2 (W7 a4 _ ?_)⟩;rw[qk _ (by rw[qn a0];exact hj)];exact List.getElem_mem _
      .simp at h0
   .simp at has
  .simp at has
 .simp at has
def runFo (tab:Nat->List A->Option (List A)) (C:Cx) (lim n f:Nat) (args:List A):Option (Nat×List (List D)):=
 match C.P.funcs[f]? with
 |none=>none
 |some fn=>match fn.body with
  |none=>none
  |some c=>match jb (wv tab C lim n) C lim c (ki fn.ntmps args)with
   |some (.normal,s)=>E7 s fn.results.toList
   |some (.ret,s)=>E7 s fn.results.toList
   |_=>none
def cQ (C:Cx) (Gv:Nat->List A->List A->Prop) (anns:Nat->Ann) (fn:Func) (args:List A) (Q:Nat->List (List D)->Prop):Prop:=
 match fn.body with
 |none=>False
 |some c=>wpC C Gv anns 0 c (λe s=>match e with
  | .normal| .ret=>match E6 s fn.results.toList with
   |some (k,es)=>(es≠[]/\wP es=true)/\Q k es
   |none=>False
  | .exit _=>False) (ki fn.ntmps args)
theorem Bu [EffOk C] {anns:Nat->Ann} {f:Nat} {fn:Func} {args:List A} {s:Nat} {es:List (List D)} (hm:C.P.follows .mixedOrders=true) (hf:C.P.funcs[f]? =some fn) (h:cQ C (Gives C) anns fn args (λk r=>k=s/\r=es)):jX C f args s es:=by
 intro w F vs hb a2 a0;unfold cQ at h;split at h
 .exact h.elim
 rename_i c hc;refine calls_of_wp hf hc ?_;refine Code.wp_mono (λe a' w' hp=>?_) (T6 hm c 0 _ _ _ _ h (vn hb a2 a0));obtain⟨x,s',hx,hq,_,hh⟩:=hp;have a3:∀k as,E6 s' fn.results.toList=some (k,as)->((as≠[]/\wP as=true)/\k=s/\as=es)->_:=λk as a1 he=>Bt (fn:=fn) hh (by rw[Bs a1 he.1.1 he.1.2,he.2.1,he.2.2])
 cases x with
 |normal=>
  have hx:e= .normal:=hx;subst hx;simp only at hq;split at hq
  .rename_i k as a1;exact a3 k as a1 hq
  .exact hq.elim
 |ret=>
  have hx:e= .ret:=hx;subst hx;simp only at hq;split at hq
  .rename_i k as a1;exact a3 k as a1 hq
  .exact hq.elim
 |exit i=>exact hq.elim
def Jp (own:List A->Option (Nat×List (List D))) (dst:Option Nat) (vs:List V) (ob:List Obj):R:=
 match dst with
 |none=> .fail
 |some d=>match qx ob d,j5 ob vs with
  |true,some (as,us)=>match own as with
   |some (s,es)=> .ok (.arr d) (us++[(d,.arr s es false)])
   |none=> .fail
  |_,_=> .fail
variable {B:Bd} {F0:Nat->Prop} {w0:World} {F:Nat->Prop} {loc:Where} {st:St} {a:Act} {w:World}
theorem Conc.adoptNew {dst:Option Nat} {d s b c:Nat} {es:List (List D)} {cs:Array Value} {t:TypeId} {w':World} (h:Conc C B F0 w0 F loc st a w) (hd:qx st.objs d=true) (hbel:Below w.heap.size w w')
 (hb1:w.heap.size<=b) (hb2:b<w'.heap.size) (hblk:w'.heap[b]? =some (.cells cs t (0,0))) (hsz:cs.size=c*s) (hlc:es.length<=c/\c<=9223372036854775807) (hroom:roomS s es.length) (hs0:0<s) (hlen:∀e∈es,e.length=s) (ht:C.P.cellsOf t=s)
 (hcd:∀j,j<es.length*s->∃v,cs[j]? =some v/\∀(w:World) (F:Nat->Prop),CD w F (nth .undef es.flatten j) v):
 Conc C B F0 w0 F (at_ loc d (b,c) t) (st.put dst (.arr d) [(d,.arr s es false)]) (a.put dst (.slice (some ⟨b,0,none⟩) es.length c)) w':=by
 obtain⟨a0,a1⟩:=qI hd;have hw:∀b,F b->w'.heap[b]? =w.heap[b]? :=λb hb=>hbel.block b (h.bound b hb)
 have a5:=hbel.size;have a4:Le st.objs (upd st.objs d (.arr s es false)) loc (at_ loc d (b,c) t):=by
  refine⟨rfl,λk hk=>by
   have:k≠d:=λe=>by subst e;exact absurd a0 hk
   simp[at_,this],λk hk=>?_,λk o' hk hc hbx=>?_,λk s a2 a3 hk hc=>?_⟩
  .by_cases hkd:d=k
   .subst hkd;exact absurd a0 hk
   .rw[qa _ _ _ hkd];exact hk
  .by_cases hkd:d=k
   .subst hkd;exact absurd a0 hk
   .rw[qa _ _ _ hkd]at hc;exact⟨by rw[hc];exact hbx,by simp[at_,bF hkd]⟩
  .by_cases hkd:d=k
   .subst hkd;exact absurd a0 hk
   .rw[qa _ _ _ hkd]at hc;exact⟨⟨_,_,hc,rfl⟩,by simp[at_,bF hkd]⟩
 refine h.step (up:=[(d,.arr s es false)]) (λ_ h=>h) hw a4 (h.below.trans (.of hbel h.hB)) (by have:=h.hB;omega) (λk=>?_) ?_ ?_ (λb hb=>by have:=h.bound b hb;omega) h.fsub ?_ ?_
 .show CO _ (upd st.objs d (.arr s es false)) _ _ _ (nth .none (upd st.objs d (.arr s es false)) k);by_cases hk:d=k
  .subst hk;rw[qb _ _ _ a1];refine⟨hroom,hs0,hlen,.inr ⟨b,c,cs,t,by simp[at_],λhF=>?_,hblk,hsz,hlc,λj hj=>?_,?_,by simp[at_]⟩⟩
   .have:=h.bound b hF;omega
   .obtain⟨v,q1,q2⟩:=hcd j hj;exact⟨v,q1,q2 _ _⟩
   .show loc.P.cellsOf t=s;rw[h.prog];exact ht
  .rw[qa _ _ _ hk];refine CO.le (λ_ h=>h) hw a4 (by simp[at_,bF hk]) (by simp[at_,bF hk]) (λb c hb=>⟨hbel.block b (h.fresh _ _ _ hb).2,λh=>h⟩) (h.objs k)
 .intro k k' b' c1 c2 h1 h2;have hf:=h.fresh;simp only[at_]at h1 h2;split at h1<;>split at h2
  .rw[‹k=d›,‹k'=d›]
  .simp only[cb,cc]at h1;have:=hf _ _ _ h2;omega
  .simp only[cb,cc]at h2;have:=hf _ _ _ h1;omega
  .exact h.inj _ _ _ _ _ h1 h2
 .intro k b' c1 h1;simp only[at_]at h1;split at h1
  .simp only[cb,cc]at h1;have:=h.hB;exact⟨.inl (by omega),by omega⟩
  .have:=h.fresh _ _ _ h1;exact⟨this.1,by omega⟩
 .intro s' a2 a3 hc;have hc:nth .none (upd st.objs d (.arr s es false)) d= .arr s' a2 a3:=hc;rw[qb _ _ _ a1]at hc;simp only[I2]at hc;obtain⟨rfl,rfl,rfl⟩:=hc;exact .inl ⟨b,c,by simp[at_],rfl⟩
 .show nth .none (upd st.objs d (.arr s es false)) d≠ .none;rw[qb _ _ _ a1];simp
theorem TC {f:Nat} {fn:Func} {own:List A->Option (Nat×List (List D))} (hf:C.P.funcs[f]? =some fn) (hb:fn.body≠none) (hn:fn.name≠ "runtime.NumGoroutine") (h:∀as s es,own as=some (s,es)->jX C f as s es):EffAt C f (Jp own):=by
 refine⟨λ{B F0 w0 F loc st a w dst args ts ty pos after g} hc=>?_,λdst vs ob ob' hh hd=>?_,λdst vs ob hv _=>?_⟩
 .unfold Jp;split
  .trivial
  .rename_i d;split
   .rename_i as us hd ad;split
    .rename_i s es a7;obtain⟨a3,a4⟩:=jZ hc ad (js hc args.toList);obtain⟨F',a6,hF',hb'⟩:=hc.freezes a3 st.dirty;have a2:=a4 F' hF' hb';have a1:(args.toList.map a.eval).toArray=args.map a.eval:=by apply Aw;simp
     intro next Q hnx
     have a0:=h as s es a7 w F' (args.toList.map a.eval) a6.bound a6.inv a2;rw[a1]at a0;refine zg hf hb hn a0 λe w' he=>?_
     obtain⟨a5,b,c,cs,t,rfl,h1,h2,h3,h4,h5,h6,h7,h8,h9,h10⟩:=he;refine⟨_,rfl,hnx _ _ ⟨F',at_ loc d (b,c) t,?_⟩⟩;have h11:=a6.adoptNew (dst:=some d) (zz a3 hd) a5 h1 h2 h3 h4 h5 h6 h7 h8 h9 h10;have:upds st.objs (us++[(d,.arr s es false)])=upds (upds st.objs us) [(d,.arr s es false)]:=xE _ _ _;have hst:(st.put (some d) (.arr d) (us++[(d,.arr s es false)])).objs=upds (upds st.objs us) [(d,.arr s es false)]:=this;have h12:=h11.redirty (dt:=(st.put (some d) (.arr d) (us++[(d,.arr s es false)])).dirty);have e:(st.put (some d) (.arr d) (us++[(d,.arr s es false)]))=⟨upd st.tmps d (.arr d),upds (upds st.objs us) [(d,.arr s es false)],(st.put (some d) (.arr d) (us++[(d,.arr s es false)])).dirty⟩:=by rw[<-hst];rfl
     rw[e];exact h12
    .trivial
   .trivial
 .unfold Jp;cases dst with
  |none=>rfl
  |some d=>
   have h1:j5 ob vs=j5 ob' vs:=z7 (c:=2) λv hv k hk=> .inl (hh k (by
    rw[qq];exact⟨k,Lv.2 ⟨v,hv,hk⟩,.inl rfl⟩))
   simp only[h1];rw[hd d (.inl rfl)]
 .unfold Jp;split
  .trivial
  .rename_i d;split
   .rename_i as us hd ad;split
    .rename_i s es _;have a3:=kb ad;refine⟨λp hp=>?_,λk hk=>?_⟩
     .rcases M2.1 hp with hp|hp
      .obtain⟨⟨v,hv1,hv2⟩,s',es',fz,h1,h2⟩:=a3 p hp;refine⟨.inr ⟨?_,by rw[h1];simp⟩,by rw[h2];simp,λu hu=>by rw[h2]at hu;simp[qQ]at hu⟩;rw[qq];exact⟨p.1,Lv.2 ⟨v,hv1,hv2⟩,.inl rfl⟩
      .simp only[Ls]at hp;subst hp;exact⟨.inl ⟨.inl rfl,hd⟩,by simp,λu hu=>by simp[qQ]at hu⟩
     .simp only[qh,Ls]at hk;subst hk;exact .inr ⟨hd,_,Pl _ (Ls.2 rfl)⟩
    .trivial
   .trivial
end
end Eng
end
section
namespace Eng
open Go Go.RowKit
variable [Env]
structure LentOk (P:Program) (w:World) (F:Nat->Prop) (g c:Nat) (cs:Array Value) (t:TypeId) (s:Nat) (es:List (List D)):Prop where
 nF:¬F g
 lt:g<w.heap.size
 blk:w.heap[g]? =some (.cells cs t (0,0))
 sz:cs.size=c*s
 lc:es.length<=c/\c<=9223372036854775807
 room:Eng.roomS s es.length
 s0:0<s
 lens:∀e∈es,e.length=s
 ct:P.cellsOf t=s
 cd:∀j,j<es.length*s->∃v,cs[j]? =some v/\CD w F (nth .undef es.flatten j) v
def W8 (g c:Nat):Option (Nat×List (List D))->List Value
 |none=>[]
 |some (_,es)=>[.slice (some ⟨g,0,none⟩) es.length c]
def O1 (g:Nat):Option (Nat×List (List D))->Nat->Prop
 |none,_=>False
 |some _,b=>b=g
def XZ (C:Cx) (f:Nat) (pre:List A) (lent:Option (Nat×List (List D))) (post:List A) (s:Nat) (es:List (List D)):Prop:=
 ∀(w:World) (F:Nat->Prop) (vs1 vs2:List Value) (g c0:Nat) (cs0:Array Value) (t0:TypeId),(∀b,F b->b<w.heap.size)->Inv C F w->All2 (CA w F) pre vs1->All2 (CA w F) post vs2->
  (∀s0 es0,lent=some (s0,es0)->LentOk C.P w F g c0 cs0 t0 s0 es0)->
  Calls C.P f (vs1++(W8 g c0 lent++vs2)).toArray w λe w'=>BelowX ⟨w.heap.size,O1 g lent⟩ w w'/\
   ∃(F':Nat->Prop) (b c:Nat) (cs:Array Value) (t:TypeId),e= .returned (.slice (some ⟨b,0,none⟩) es.length c)/\(∀x,F x->F' x)/\(∀x,F' x->x<w'.heap.size/\(F x\/Own ⟨w.heap.size,O1 g lent⟩ x))/\
    Own ⟨w.heap.size,O1 g lent⟩ b/\LentOk C.P w' F' b c cs t s es
def QM (n:Nat):Nat:=n+7
def W9 (n:Nat) (pre:List A) (lent:Option (Nat×List (List D))) (post:List A):St:=
 match lent with
 |none=>ki n (pre++post)
 |some (s,es)=>⟨pre.map Oa++(.arr (QM n)::(post.map Oa++M0 (n-(pre.length+(1+post.length))) .any)),upd (M0 (n+8) .none) (QM n) (.arr s es false),[]⟩
section
variable {C:Cx}
theorem WA {n:Nat} {pre post:List A} {lent:Option (Nat×List (List D))} {vs1 vs2:List Value} {w:World} {F:Nat->Prop} {g c0:Nat} {cs0:Array Value} {t0:TypeId} (hb:∀b,F b->b<w.heap.size) (hinv:Inv C F w) (h1:All2 (CA w F) pre vs1) (h2:All2 (CA w F) post vs2)
 (hl:∀s0 es0,lent=some (s0,es0)->LentOk C.P w F g c0 cs0 t0 s0 es0):
 St.has C ⟨w.heap.size,O1 g lent⟩ F w (W9 n pre lent post) {tmps:=(vs1++(W8 g c0 lent++vs2)).toArray++Hx (n-(vs1++(W8 g c0 lent++vs2)).toArray.size) undef,defers:=[]} w:=by
 cases lent with
 |none=>have h:=vn (n:=n) hb hinv (All2.append h1 h2);exact h
 |some se=>
  obtain⟨s,es⟩:=se;have hL:=hl s es rfl;have hl1:=h1.length;have hl2:=h2.length;have hkl:QM n<(M0 (n+8) I1).length:=by simp[QM]
  have hn:∀k,nth .none (upd (M0 (n+8) I1) (QM n) (.arr s es false)) k=if k=QM n then .arr s es false else .none:=λk=>by
   by_cases hk:QM n=k
   .subst hk;rw[qb _ _ _ hkl,if_pos rfl]
   .rw[qa _ _ _ hk,XR,if_neg (bF hk)]
  refine⟨F,⟨C.P,λk=>if k=QM n then some (g,c0)else none,λ_=>t0⟩,⟨rfl,BelowX.refl _ _,b5 _,rfl,?_,λv hv=>?_,λk=>?_,?_,?_,hb,λb h=> .inl h,λ_ h=>h,hinv⟩⟩
  .simp only[W9,W8,Hv,Dd,Tk,U0,be,List.nil_append];refine kN (vZ h1) ⟨?_,kN (vZ h2) ?_⟩
   .intro s' es' fz' hc;rw[hn,if_pos rfl]at hc;simp only[I2]at hc;obtain⟨rfl,rfl,rfl⟩:=hc;exact .inl ⟨g,c0,by simp,rfl⟩
   .have e:(vs1++Lr (some ⟨g,0,none⟩) es.length c0::vs2).length=pre.length+(1+post.length):=by simp only[ba,bd];omega
    rw[e];exact vm trivial _
  .simp only[W9,M2,Sz,W1,W2]at hv;rcases hv with⟨x,_,rfl⟩|rfl|⟨x,_,rfl⟩|⟨_,rfl⟩
   .exact vk x
   .intro hc;have hc:nth I1 (upd (M0 (n+8) I1) (QM n) (.arr s es false)) (QM n)=I1:=hc;rw[hn,if_pos rfl]at hc;simp at hc
   .exact vk x
   .trivial
  .simp only[W9];rw[hn];split
   .rename_i e;exact⟨hL.room,hL.s0,hL.lens,.inr ⟨g,c0,cs0,t0,by simp[e],hL.nF,hL.blk,hL.sz,hL.lc,hL.cd,hL.ct,rfl⟩⟩
   .rename_i e;show(if k=QM n then some (g,c0)else none)=none;rw[if_neg e]
  .intro k k' b c c' q1 q2;simp only at q1 q2;split at q1
   .split at q2
    .rename_i e1 e2;rw[e1,e2]
    .simp at q2
   .simp at q1
  .intro k b c q1;simp only at q1;split at q1
   .simp only[cb,cc]at q1;obtain⟨rfl,rfl⟩:=q1;exact⟨.inr rfl,hL.lt⟩
   .simp at q1
def Fq (st:St) (rs:List ResultVar):Option (Nat×List (List D)):=
 match rs with
 |[.tmp t]=>match nth .any st.tmps t with
  | .arr k=>match nth .none st.objs k with
   | .arr s es false=>some (s,es)
   |_=>none
  | .sub k 0 n=>match nth .none st.objs k with
   | .arr s es false=>some (s,es.take n)
   |_=>none
  |_=>none
 |_=>none
theorem O2 {fn:Func} {w:World} {B:Bd} {F:Nat->Prop} {s':St} {a':Act} {w':World} {s:Nat} {es:List (List D)} (hh:St.has C B F w s' a' w') (has:Fq s' fn.results.toList=some (s,es)) (hne:es≠[]):
 a'.defers=[]/\∃v,(results fn a'.tmps).run C.P w'= .ok v w'/\BelowX B w w'/\∃(F':Nat->Prop) (b c:Nat) (cs:Array Value) (t:TypeId),Ending.returned v= .returned (.slice (some ⟨b,0,none⟩) es.length c)/\(∀x,F x->F' x)/\(∀x,F' x->x<w'.heap.size/\(F x\/Own B x))/\
  Own B b/\LentOk C.P w' F' b c cs t s es:=by
 obtain⟨F',loc',h⟩:=hh;have a4:∀(t:Nat) (x:Value),fn.results.toList=[.tmp t]->nth undef a'.tmps.toList t=x->(results fn a'.tmps).run C.P w'= .ok x w':=λt x a7 hx=>by
  have hr:fn.results= #[.tmp t]:=by apply Aw;simpa using a7
  unfold results;rw[hr];have hv':a'.tmps[t]?.getD undef=x:=by rw[<-hx,qw];simp
  simp[hv']
 unfold Fq at has;split at has
 .rename_i t a7;have hx:=(wH h t).1;simp only[Act.eval]at hx;have an:∀x,a'.tmps.getD t undef=x->nth undef a'.tmps.toList t=x:=λx e=>by rw[<-e,qw];simp
  split at has
  .rename_i k hk;split at has
   .rename_i s0 a1 a6;simp only[cb,cc]at has;obtain⟨rfl,rfl⟩:=has;rw[hk]at hx;have a2:=h.objs k;rw[a6]at a2;obtain⟨a0,al,a3,a2⟩:=a2;rcases hx _ _ _ a6 with⟨b,c,hl,hv⟩|⟨_,h0,_⟩
    .rcases a2 with⟨h4,_⟩|⟨b',c',cs,t',h4,h5,h6,h7,h8,h9,ad,h11⟩
     .rw[h4]at hl;simp at hl
     .rw[h4]at hl;simp only[cb,cc]at hl;obtain⟨rfl,rfl⟩:=hl;have a5:=h.fresh _ _ _ h4;refine⟨h.defers,_,a4 t _ a7 (an _ (by simpa using hv)),h.below,F',b',c',cs,t',rfl,h.fsup,λx hx=>⟨h.bound x hx,h.fsub x hx⟩,a5.1,⟨by simpa using h5,a5.2,h6,h7,h8,a0,al,a3,by rw[<-h.prog];exact ad,h9⟩⟩
    .exact absurd h0 hne
   .simp at has
  .rename_i k n hk;split at has
   .rename_i s0 a1 a6;simp only[cb,cc]at has;obtain⟨rfl,rfl⟩:=has;rw[hk]at hx;have a2:=h.objs k;rw[a6]at a2;obtain⟨a0,al,a3,a2⟩:=a2;obtain⟨b,c,hl,hnl,hv⟩:=(hx _ _ _ a6).resolve_right (by
     rintro(⟨_,_,h0,_⟩|⟨_,h0,_⟩)
     .rw[h0]at hne;simp at hne
     .omega)
    rcases a2 with⟨h4,_⟩|⟨b',c',cs,t',h4,h5,h6,h7,h8,h9,ad,h11⟩
    .rw[h4]at hl;simp at hl
    .rw[h4]at hl;simp only[cb,cc]at hl;obtain⟨rfl,rfl⟩:=hl;have a5:=h.fresh _ _ _ h4;have ag:(a1.take n).length=n:=by rw[No];omega
     refine⟨h.defers,_,a4 t _ a7 (an _ (by simpa using hv)),h.below,F',b',c',cs,t',by rw[ag],h.fsup,λx hx=>⟨h.bound x hx,h.fsub x hx⟩,a5.1,
      ⟨by simpa using h5,a5.2,h6,h7,by omega,a0.le (by omega),al,λe he=>a3 e (P1 he),by rw[<-h.prog];exact ad,λj hj=>?_⟩⟩
     rw[ag]at hj;have hj2:j<a1.length*s0:=bw hj (Nat.mul_le_mul_right s0 (by omega));obtain⟨v,r1,r2⟩:=h9 j hj2;refine⟨v,r1,?_⟩;have hfl:(a1.take n).flatten.length=n*s0:=by rw[qn (λe' he'=>a3 e' (P1 he')),ag]
     have hsp:a1.flatten=(a1.take n).flatten++(a1.drop n).flatten:=by rw[<-List.flatten_append,List.take_append_drop]
     have:nth .undef (a1.take n).flatten j=nth .undef a1.flatten j:=by rw[hsp,qw,qw,M3 (by omega)]
     rw[this];exact r2
   .simp at has
  .simp at has
 .simp at has
variable {B:Bd} {F0:Nat->Prop} {w0:World} {F:Nat->Prop} {loc:Where} {st:St} {a:Act} {w:World}
theorem Conc.adoptC {dst:Option Nat} {d s b c:Nat} {es:List (List D)} {cs:Array Value} {t:TypeId} {w':World} {F' X:Nat->Prop} {dead:List (Nat×Obj)} (h:Conc C B F0 w0 F loc st a w) (hd:qx st.objs d=true)
 (hdead:∀p∈dead,p.2= .dead/\p.1<st.objs.length/\nth .none st.objs p.1≠ .none) (hX:∀x,X x->¬F x/\∃p∈dead,∃c,loc p.1=some (x,c))
 (hbel:BelowX ⟨w.heap.size,X⟩ w w') (hF1:∀x,F x->F' x) (hF2:∀x,F' x->x<w'.heap.size/\(F x\/Own ⟨w.heap.size,X⟩ x)) (hb1:Own ⟨w.heap.size,X⟩ b) (hL:LentOk C.P w' F' b c cs t s es) (_hne:es≠[]):
 St.has C B F0 w0 (st.put dst (.arr d) (dead++[(d,.arr s es false)])) (a.put dst (.slice (some ⟨b,0,none⟩) es.length c)) w':=by
 obtain⟨a0,hlt⟩:=qI hd;have a5:=hbel.size;have hnd:=λk=>z6 dead st.objs k λp hp=>⟨(hdead p hp).1,(hdead p hp).2.1⟩
 have hdd:¬∃p∈dead,p.1=d:=λ⟨p,hp,e⟩=>(hdead p hp).2.2 (by rw[e];exact a0)
 have hn:∀k,nth .none (upds st.objs (dead++[(d,.arr s es false)])) k=if k=d then .arr s es false else if(∃p∈dead,p.1=k)then .dead else nth .none st.objs k:=λk=>by
  rw[xE];show nth .none (upd (upds st.objs dead) d (.arr s es false)) k=_;by_cases hk:d=k
  .subst hk;rw[qb _ _ _ (by rw[jF];exact hlt),if_pos rfl]
  .rw[qa _ _ _ hk,if_neg (bF hk),hnd]
 have a2:∀x,Own ⟨w.heap.size,X⟩ x->Own B x:=λx hx=>by
  rcases hx with hx|hx
  .exact .inl (b6 h.hB hx)
  .obtain⟨_,p,_,c,hl⟩:=hX x hx;exact(h.fresh _ _ _ hl).1
 have a6:∀x,F x->w'.heap[x]? =w.heap[x]? :=λx hx=>hbel.block x (h.bound x hx) λhX'=>(hX x hX').1 hx
 open Classical in
 let loc':Where:=⟨loc.P,λk=>if k=d then some (b,c)else if(∃p∈dead,p.1=k)then none else loc k,λk=>if k=d then t else loc.ty k⟩
 have a3:∀k x y,loc' k=some (x,y)->(k=d/\x=b/\y=c)\/(k≠d/\(¬∃p∈dead,p.1=k)/\loc k=some (x,y)):=λk x y hl=>by
  simp only[loc']at hl;split at hl
  .simp only[cb,cc]at hl;exact .inl ⟨‹_›,hl.1.symm,hl.2.symm⟩
  .split at hl
   .simp at hl
   .exact .inr ⟨‹_›,‹_›,hl⟩
 have a1:∀k x y,(¬∃p∈dead,p.1=k)->loc k=some (x,y)->¬X x:=λk x y hk hl hx=>by obtain⟨_,p,hp,c',hl2⟩:=hX x hx;exact hk ⟨p,hp,h.inj _ _ _ _ _ hl2 hl⟩
 have a4:Le st.objs (upds st.objs (dead++[(d,.arr s es false)])) loc loc':=by
  refine⟨rfl,λk hk=>by
   have:k≠d:=λe=>by subst e;exact absurd a0 hk
   simp[loc',this],λk hk=>?_,λk o' hk hc hbx=>?_,λk s' es' fz' hk hc=>?_⟩
  .have:k≠d:=λe=>by subst e;exact absurd a0 hk
   rw[hn,if_neg this];split
   .simp
   .exact hk
  .have:k≠d:=λe=>by subst e;exact absurd a0 hk
   rw[hn,if_neg this]at hc;split at hc
   .rw[<-hc]at hbx;simp[xD]at hbx
   .rename_i e;exact⟨by rw[hc];exact hbx,by simp only[loc'];rw[if_neg this,if_neg e]⟩
  .have:k≠d:=λe=>by subst e;exact absurd a0 hk
   rw[hn,if_neg this]at hc;split at hc
   .simp at hc
   .rename_i e;exact⟨⟨_,_,hc,rfl⟩,by simp only[loc'];rw[if_neg this,if_neg e]⟩
 have hbw:BelowX B w w':=⟨hbel.os,hbel.tape,hbel.output,hbel.size,λj hj hjX=>hbel.block j (bw hj h.hB) λhx=>by
  rcases a2 j (.inr hx)with h1|h1
  .omega
  .exact hjX h1⟩
 refine⟨F',loc',h.step hF1 a6 a4 (h.below.trans hbw) (by have:=h.hB;omega) (λk=>?_) ?_ ?_ (λx hx=>(hF2 x hx).1) (λx hx=>?_) ?_ ?_⟩
 .rw[hn];split
  .rename_i e;exact⟨hL.room,hL.s0,hL.lens,.inr ⟨b,c,cs,t,by simp[loc',e],hL.nF,hL.blk,hL.sz,hL.lc,hL.cd,by show loc.P.cellsOf t=s;rw[h.prog];exact hL.ct,by simp[loc',e]⟩⟩
  .rename_i e1;split
   .rename_i e2;show loc' k=none;simp only[loc'];rw[if_neg e1,if_pos e2]
   .rename_i e2;refine CO.le hF1 a6 a4 (by simp only[loc'];rw[if_neg e1,if_neg e2]) (by simp only[loc'];rw[if_neg e1]) (λx y hl=>?_) (h.objs k);have hf:=(h.fresh _ _ _ hl).2;have hx:=a1 _ _ _ e2 hl;refine⟨hbel.block x hf hx,λhnF hF'=>?_⟩;rcases(hF2 x hF').2 with h1|h1|h1
    .exact hnF h1
    .have h1:w.heap.size<=x:=h1;omega
    .exact hx h1
 .intro k k' x y y' q1 q2;rcases a3 _ _ _ q1 with⟨r1,r2,r3⟩|⟨r1,r2,r3⟩<;>rcases a3 _ _ _ q2 with⟨u1,u2,u3⟩|⟨u1,u2,u3⟩
  .rw[r1,u1]
  .subst r2;exfalso;rcases hb1 with hb1|hb1
   .have hb1:w.heap.size<=x:=hb1;have:=(h.fresh _ _ _ u3).2;omega
   .exact a1 _ _ _ u2 u3 hb1
  .subst u2;exfalso;rcases hb1 with hb1|hb1
   .have hb1:w.heap.size<=x:=hb1;have:=(h.fresh _ _ _ r3).2;omega
   .exact a1 _ _ _ r2 r3 hb1
  .exact h.inj _ _ _ _ _ r3 u3
 .intro k x y q1;rcases a3 _ _ _ q1 with⟨r1,r2,r3⟩|⟨r1,r2,r3⟩
  .subst r2;exact⟨a2 _ hb1,hL.lt⟩
  .have:=h.fresh _ _ _ r3;exact⟨this.1,by omega⟩
 .rcases(hF2 x hx).2 with h1|h1
  .exact h.fsub x h1
  .exact .inr (a2 x h1)
 .intro s' es' fz' hc;rw[hn,if_pos rfl]at hc;simp only[I2]at hc;obtain⟨rfl,rfl,rfl⟩:=hc;exact .inl ⟨b,c,by simp[loc'],rfl⟩
 .show nth .none (upds st.objs _) d≠ .none;rw[hn,if_pos rfl];simp
end
end Eng
end
section
namespace Eng
open Go Go.RowKit
variable [Env]
def HA (chk:List A->Bool) (s:Nat) (mk:List A->List (List D)) (dst:Option Nat) (vs:List V) (ob:List Obj):R:=
 match dst with
 |none=> .fail
 |some d=>match qx ob d,j5 ob vs with
  |true,some (al,us)=> .cond (chk al=true) (.arr d) (us++[(d,.arr s (mk al) false)])
  |_,_=> .fail
def VQ:List (Nat×Obj)->List Nat
 |[]=>[]
 |p::r=>p.1::VQ r
def TD (s:Nat) (chk:List (List D)->List A->Bool) (mk:List (List D)->List A->List (List D)) (dst:Option Nat) (vs:List V) (ob:List Obj):R:=
 match dst with
 |none=> .fail
 |some d=>match vs with
  | .arr k::r=>match qx ob d,nth .none ob k,j5 ob r with
   |true,.arr s0 es false,some (al,us)=>match bx s0 s&&!k9 k (VQ us)with
    |true=> .cond (chk es al=true) (.arr d) (us++[(k,.dead),(d,.arr s (mk es al) false)])
    |false=> .fail
   |_,_,_=> .fail
  |_=> .fail
omit [Env] in
theorem yF {k:Nat}:∀{us:List (Nat×Obj)},k∈VQ us↔∃p∈us,p.1=k
 |[]=>by simp[VQ]
 |p::r=>by
  simp only[VQ,Sz];rw[yF];constructor
  .rintro(rfl|⟨q,hq,rfl⟩)
   .exact⟨p,.inl rfl,rfl⟩
   .exact⟨q,.inr hq,rfl⟩
  .rintro⟨q,rfl|hq,rfl⟩
   .exact .inl rfl
   .exact .inr ⟨q,hq,rfl⟩
section
variable {C:Cx}
theorem YS {f s:Nat} {fn:Func} {chk:List A->Bool} {mk:List A->List (List D)} (hf:C.P.funcs[f]? =some fn) (hb:fn.body≠none) (hn:fn.name≠ "runtime.NumGoroutine") (hmk:∀al,chk al=true->mk al≠[]/\XZ C f al none [] s (mk al)):EffAt C f (HA chk s mk):=by
 refine⟨λ{B F0 w0 F loc st a w dst args ts ty pos after g} hc=>?_,λdst vs ob ob' hh hd=>?_,λdst vs ob hv _=>?_⟩
 .unfold HA;split
  .trivial
  .rename_i d;split
   .rename_i al us hd a7;obtain⟨a3,a4⟩:=jZ hc a7 (js hc args.toList);obtain⟨F',a6,hF',hb'⟩:=hc.freezes a3 st.dirty;have a2:=a4 F' hF' hb';intro hck next Q hnx
    obtain⟨hne,hG⟩:=hmk al hck;have a0:=hG w F' (args.toList.map a.eval) [] 0 0 #[] 0 a6.bound a6.inv a2 trivial (λs0 es0 h=>by simp at h);have a1:(args.toList.map a.eval++(W8 0 0 none++[])).toArray=args.map a.eval:=by apply Aw;simp[W8]
    rw[a1]at a0;refine zg hf hb hn a0 λe w' he=>?_
    obtain⟨a5,F2,b,c,cs,t,rfl,h1,h2,h3,h4⟩:=he;refine⟨_,rfl,hnx _ _ ?_⟩;have h5:=a6.adoptC (dst:=some d) (d:=d) (dead:=[]) (zz a3 hd) (λp hp=>by simp at hp) (λx hx=>hx.elim) a5 h1 h2 h3 h4 hne;refine xc h5 rfl ?_;show upds (upds st.objs us) ([]++[(d,.arr s (mk al) false)])=upds st.objs (us++[(d,.arr s (mk al) false)]);rw[xE us];rfl
   .trivial
 .unfold HA;cases dst with
  |none=>rfl
  |some d=>
   have h1:j5 ob vs=j5 ob' vs:=z7 (c:=2) λv hv k hk=> .inl (hh k (by
    rw[qq];exact⟨k,Lv.2 ⟨v,hv,hk⟩,.inl rfl⟩))
   simp only[h1];rw[hd d (.inl rfl)]
 .unfold HA;split
  .trivial
  .rename_i d;split
   .rename_i al us hd a7;have a3:=kb a7;refine⟨λp hp=>?_,λk hk=>?_⟩
    .rcases M2.1 hp with hp|hp
     .obtain⟨⟨v,hv1,hv2⟩,s',es',fz,h1,h2⟩:=a3 p hp;refine⟨.inr ⟨?_,by rw[h1];simp⟩,by rw[h2];simp,λu hu=>by rw[h2]at hu;simp[qQ]at hu⟩;rw[qq];exact⟨p.1,Lv.2 ⟨v,hv1,hv2⟩,.inl rfl⟩
     .simp only[Ls]at hp;subst hp;exact⟨.inl ⟨.inl rfl,hd⟩,by simp,λu hu=>by simp[qQ]at hu⟩
    .simp only[qh,Ls]at hk;subst hk;exact .inr ⟨hd,_,Pl _ (Ls.2 rfl)⟩
   .trivial
theorem O3 {f s:Nat} {fn:Func} {chk:List (List D)->List A->Bool} {mk:List (List D)->List A->List (List D)} (hf:C.P.funcs[f]? =some fn) (hb:fn.body≠none) (hn:fn.name≠ "runtime.NumGoroutine")
 (hmk:∀es al,chk es al=true->es≠[]/\mk es al≠[]/\XZ C f [] (some (s,es)) al s (mk es al)):EffAt C f (TD s chk mk):=by
 refine⟨λ{B F0 w0 F loc st a w dst args ts ty pos after g} hc=>?_,λdst vs ob ob' hh hd=>?_,λdst vs ob hv _=>?_⟩
 .unfold TD;split
  .trivial
  .rename_i d;split
   .rename_i k r a4;split
    .rename_i s0 es al us hd hk b0;split
     .rename_i a6;simp only[Hy,I0]at a6;obtain rfl:=bs a6.1;have hku:¬∃p∈us,p.1=k:=λh=>by have:=xk.2 (yF.2 h);rw[this]at a6;simp at a6
      intro hck next Q hnx
      obtain⟨hne,ap,hG⟩:=hmk es al hck;obtain⟨x0,xs,b3⟩:∃x0 xs,args.toList=x0::xs:=by
       cases h:args.toList with
       |nil=>rw[h]at a4;simp at a4
       |cons x0 xs=>exact⟨x0,xs,rfl⟩
      rw[b3]at a4;simp only[M1,bm]at a4;obtain⟨hx0,rfl⟩:=a4;obtain⟨a5,a7⟩:=jZ hc b0 (js hc xs);obtain⟨F',a3,hF',hb'⟩:=hc.freezes a5 st.dirty;have a2:=a7 F' hF' hb';have b2:=(qU hc x0).1;rw[hx0]at b2;have an:nth .none (upds st.objs us) k= .arr s0 es false:=by rw[xz _ _ λp hp e=>hku ⟨p,hp,e⟩];exact hk
      have ag:=a3.objs k;simp only at ag;rw[an]at ag;obtain⟨q1,q2,q3,q4⟩:=ag;rcases q4 with⟨_,q5⟩|⟨gb,c0,cs0,t0,q5,q6,q7,q8,q9,q10,q11,q12⟩
      .exact absurd q5 hne
      .rcases b2 _ _ _ hk with⟨b1,c1,r1,r2⟩|⟨r1,_⟩
       .rw[q5]at r1;simp only[cb,cc]at r1;obtain⟨rfl,rfl⟩:=r1;have a0:=hG w F' [] (xs.map a.eval) gb c0 cs0 t0 a3.bound a3.inv trivial a2 (λs1 es1 he=>by
         simp only[cb,cc]at he;obtain⟨rfl,rfl⟩:=he;exact⟨by simpa using q6,(a3.fresh _ _ _ q5).2,q7,q8,q9,q1,q2,q3,by rw[<-hc.prog];exact q11,q10⟩)
        have a1:([]++(W8 gb c0 (some (s0,es))++xs.map a.eval)).toArray=args.map a.eval:=by apply Aw;rw[Bx,b3];simp[W8,r2]
        rw[a1]at a0;refine zg hf hb hn a0 λe w' he=>?_
        obtain⟨ad,F2,b,c,cs,t,rfl,h1,h2,h3,h4⟩:=he;refine⟨_,rfl,hnx _ _ ?_⟩;have hkl:k<(upds st.objs us).length:=qW (by rw[an];simp);have h5:=a3.adoptC (dst:=some d) (d:=d) (dead:=[(k,.dead)]) (zz a5 hd) (λp hp=>by
         simp only[Ls]at hp;subst hp;exact⟨rfl,hkl,by rw[an];simp⟩) (λx hx=>by
         have hx:x=gb:=hx;subst hx;exact⟨by simpa using q6,(k,.dead),by simp,c0,q5⟩) ad h1 h2 h3 h4 ap
        refine xc h5 rfl ?_;show upds (upds st.objs us) ([(k,.dead)]++[(d,.arr s0 (mk es al) false)])=upds st.objs (us++[(k,.dead),(d,.arr s0 (mk es al) false)]);rw[xE us];rfl
       .have h6:loc k=some (gb,c0):=q5;rw[h6]at r1;simp at r1
     .trivial
    .trivial
   .trivial
 .unfold TD;cases dst with
  |none=>rfl
  |some d=>
   dsimp only
   cases vs with
   |nil=>rfl
   |cons v r=>
    cases v with
    |arr k=>
     have h0:nth .none ob k=nth .none ob' k:=hh k (by
      rw[qq];exact⟨k,Lv.2 ⟨.arr k,by simp,by simp[qh]⟩,.inl rfl⟩)
     have h1:j5 ob r=j5 ob' r:=z7 (c:=2) λv hv k hk=> .inl (hh k (by
      rw[qq];exact⟨k,Lv.2 ⟨v,by simp[hv],hk⟩,.inl rfl⟩))
     simp only[h0,h1];rw[hd d (.inl rfl)]
    |_=>rfl
 .unfold TD;split
  .trivial
  .rename_i d;split
   .rename_i k r;split
    .rename_i s0 es al us hd hk b0;split
     .have a5:=kb b0;refine⟨λp hp=>?_,λj hj=>?_⟩
      .rcases M2.1 hp with hp|hp
       .obtain⟨⟨v,hv1,hv2⟩,s',es',fz,h1,h2⟩:=a5 p hp;refine⟨.inr ⟨?_,by rw[h1];simp⟩,by rw[h2];simp,λu hu=>by rw[h2]at hu;simp[qQ]at hu⟩;rw[qq];exact⟨p.1,Lv.2 ⟨v,by simp[hv1],hv2⟩,.inl rfl⟩
       .simp only[Sz,List.not_mem_nil,or_false]at hp;rcases hp with rfl|rfl
        .refine⟨.inr ⟨?_,by rw[hk];simp⟩,by simp,λu hu=>by simp[qQ]at hu⟩;rw[qq];exact⟨k,Lv.2 ⟨.arr k,by simp,by simp[qh]⟩,.inl rfl⟩
        .exact⟨.inl ⟨.inl rfl,hd⟩,by simp,λu hu=>by simp[qQ]at hu⟩
      .simp only[qh,Ls]at hj;subst hj;exact .inr ⟨hd,_,Pl _ (List.mem_cons_of_mem _ (Ls.2 rfl))⟩
     .trivial
    .trivial
   .trivial
end
end Eng
end
section
namespace Eng
open Go Go.RowKit
variable [Env]
def WB (C:Cx) (f:Nat) (s:Nat) (es:List (List D)) (post:List A) (res:List A) (es':List (List D)):Prop:=
 ∀(w:World) (F:Nat->Prop) (vs2:List Value) (g c0:Nat) (cs0:Array Value) (t0:TypeId),(∀b,F b->b<w.heap.size)->Inv C F w->All2 (CA w F) post vs2->LentOk C.P w F g c0 cs0 t0 s es->
  Calls C.P f (.slice (some ⟨g,0,none⟩) es.length c0::vs2).toArray w λe w'=>BelowX ⟨w.heap.size,λb=>b=g⟩ w w'/\
   ∃(F':Nat->Prop) (cs:Array Value) (v:Value),e= .returned v/\(∀x,F x->F' x)/\(∀x,F' x->x<w'.heap.size/\(F x\/Own ⟨w.heap.size,λb=>b=g⟩ x))/\vO w' F' res v/\LentOk C.P w' F' g c0 cs t0 s es'/\es'.length=es.length
def ZL (n s:Nat) (es:List (List D)) (post:List A) (g c t:Nat):St:=
 ⟨.arrAt (QM n) g c t::(post.map Oa++M0 (n-(1+post.length)) .any),upd (M0 (n+8) .none) (QM n) (.arr s es false),[]⟩
section
variable {C:Cx}
theorem TE {n s g c0:Nat} {es:List (List D)} {post:List A} {vs2:List Value} {w:World} {F:Nat->Prop} {cs0:Array Value} {t0:TypeId} (hb:∀b,F b->b<w.heap.size) (hinv:Inv C F w) (h2:All2 (CA w F) post vs2) (hL:LentOk C.P w F g c0 cs0 t0 s es):
 St.has C ⟨w.heap.size,λb=>b=g⟩ F w (ZL n s es post g c0 t0) {tmps:=(Lr (some ⟨g,0,none⟩) es.length c0::vs2).toArray++Hx (n-(Lr (some ⟨g,0,none⟩) es.length c0::vs2).toArray.size) undef,defers:=[]} w:=by
 have hl2:=h2.length;have hkl:QM n<(M0 (n+8) I1).length:=by simp[QM]
 have hn:∀k,nth .none (upd (M0 (n+8) I1) (QM n) (.arr s es false)) k=if k=QM n then .arr s es false else .none:=λk=>by
  by_cases hk:QM n=k
  .subst hk;rw[qb _ _ _ hkl,if_pos rfl]
  .rw[qa _ _ _ hk,XR,if_neg (bF hk)]
 refine⟨F,⟨C.P,λk=>if k=QM n then some (g,c0)else none,λ_=>t0⟩,⟨rfl,BelowX.refl _ _,b5 _,rfl,?_,λv hv=>?_,λk=>?_,?_,?_,hb,λb h=> .inl h,λ_ h=>h,hinv⟩⟩
 .simp only[ZL,Hv,Dd,Tk,be];refine⟨?_,kN (vZ h2) ?_⟩
  .intro s' es' fz' hc;rw[hn,if_pos rfl]at hc;simp only[I2]at hc;obtain⟨rfl,rfl,rfl⟩:=hc;exact⟨⟨by simp,rfl⟩,rfl⟩
  .have e:(Lr (some ⟨g,0,none⟩) es.length c0::vs2).length=1+post.length:=by simp only[bd];omega
   rw[e];exact vm trivial _
 .simp only[ZL,M2,Sz,W1,W2]at hv;rcases hv with rfl|⟨x,_,rfl⟩|⟨_,rfl⟩
  .intro hc;have hc:nth I1 (upd (M0 (n+8) I1) (QM n) (.arr s es false)) (QM n)=I1:=hc;rw[hn,if_pos rfl]at hc;simp at hc
  .exact vk x
  .trivial
 .simp only[ZL];rw[hn];split
  .rename_i e;exact⟨hL.room,hL.s0,hL.lens,.inr ⟨g,c0,cs0,t0,by simp[e],hL.nF,hL.blk,hL.sz,hL.lc,hL.cd,hL.ct,rfl⟩⟩
  .rename_i e;show(if k=QM n then some (g,c0)else none)=none;rw[if_neg e]
 .intro k k' b c c' q1 q2;simp only at q1 q2;split at q1
  .split at q2
   .rename_i e1 e2;rw[e1,e2]
   .simp at q2
  .simp at q1
 .intro k b c q1;simp only at q1;split at q1
  .simp only[cb,cc]at q1;obtain⟨rfl,rfl⟩:=q1;exact⟨.inr rfl,hL.lt⟩
  .simp at q1
theorem Ka {F0:Nat->Prop} {w0:World} {B:Bd} {F:Nat->Prop} {loc:Where} {st:St} {a:Act} {w:World} (h:Conc C B F0 w0 F loc st a w) {fn:Func} {as:List A} (hr:resD C st fn.results.toList=some as) (hfl:∀r∈as,Xz r=true):
 a.defers=[]/\∃v,(results fn a.tmps).run C.P w= .ok v w/\∀F':Nat->Prop,vO w F' as v:=by
 obtain⟨us,h1,h2⟩:=Qk h hr;refine⟨h.defers,if h:us.toArray.size=1 then us.toArray[0]else .tuple us.toArray,?_,λF'=>?_⟩
 .unfold results;rw[Array.mapM_eq_mapM_toList];simp only[Sem.run_bind,map_eq_pure_bind];have h5:∀g:ResultVar->Sem Value,g=N1 a.tmps->(fn.results.toList.mapM g).run C.P w= .ok us w:=λg hg=>by rw[hg];exact h1
  rw[h5 _ (by funext r;cases r<;>rfl)];rfl
 .match as,us,h2 with
  |[a],[u],h2=>exact XC h2.1 (hfl _ (by simp))
  |[],[],h2=>exact⟨#[],rfl,trivial⟩
  |a::b::r,u::v::s,h2=>exact⟨(u::v::s).toArray,by simp,h2.mono_mem λr hr v hv=>XC hv (hfl r hr)⟩
variable {B:Bd} {F0:Nat->Prop} {w0:World} {F:Nat->Prop} {loc:Where} {st:St} {a:Act} {w:World}
theorem Conc.turned {dst:Option Nat} {k s g c0:Nat} {es es':List (List D)} {cs:Array Value} {t:TypeId} {w':World} {F':Nat->Prop} {v:V} {x:Value} {us:List (Nat×Obj)} (h:Conc C B F0 w0 F loc st a w) (hk:nth .none st.objs k= .arr s es false) (hl:loc k=some (g,c0)) (hnF:¬F g) (htk:loc.ty k=t)
 (hbel:BelowX ⟨w.heap.size,λb=>b=g⟩ w w') (hF1:∀x,F x->F' x) (hF2:∀x,F' x->x<w'.heap.size/\(F x\/Own ⟨w.heap.size,λb=>b=g⟩ x)) (hL:LentOk C.P w' F' g c0 cs t s es') (hlen:es'.length=es.length) (hus:us=[(k,.arr s es' false)])
 (hv:∀(loc:Where) (objs:List Obj),CV loc objs w' F' v x/\Ref objs v):St.has C B F0 w0 (st.put dst v us) (a.put dst x) w':=by
 subst hus;have hkl:k<st.objs.length:=qW (by rw[hk];simp);have a2:Le st.objs (upd st.objs k (.arr s es' false)) loc loc:=Te hk hlen;have a1:=hbel.size;have a3:∀x,F x->w'.heap[x]? =w.heap[x]? :=λx hx=>hbel.block x (h.bound x hx) λe=>by have e:x=g:=e;exact hnF (e▸hx)
 have hfr:=h.fresh _ _ _ hl;have a0:∀x,Own ⟨w.heap.size,λb=>b=g⟩ x->Own B x:=λx hx=>by
  rcases hx with hx|hx
  .exact .inl (b6 h.hB hx)
  .have hx:x=g:=hx;rw[hx];exact hfr.1
 have hbw:BelowX B w w':=⟨hbel.os,hbel.tape,hbel.output,hbel.size,λj hj hjX=>hbel.block j (bw hj h.hB) λhx=>by
  rcases a0 j (.inr hx)with h1|h1
  .omega
  .exact hjX h1⟩
 refine⟨F',loc,h.step (up:=[(k,.arr s es' false)]) hF1 a3 a2 (h.below.trans hbw) (by have:=h.hB;omega) (λj=>?_) h.inj (λj x y hj=>⟨(h.fresh _ _ _ hj).1,bw (h.fresh _ _ _ hj).2 a1⟩) (λx hx=>(hF2 x hx).1) (λx hx=>?_) (hv _ _).1 (hv loc _).2⟩
 .show CO _ (upd st.objs k (.arr s es' false)) _ _ _ (nth .none (upd st.objs k (.arr s es' false)) j);by_cases hkj:k=j
  .subst hkj;rw[qb _ _ _ hkl];exact⟨hL.room,hL.s0,hL.lens,.inr ⟨g,c0,cs,t,hl,hL.nF,hL.blk,hL.sz,hL.lc,hL.cd,by rw[h.prog];exact hL.ct,htk⟩⟩
  .rw[qa _ _ _ hkj];refine CO.le hF1 a3 a2 rfl rfl (λx y hj=>?_) (h.objs j);have hx:x≠g:=λe=>by subst e;exact hkj (h.inj _ _ _ _ _ hl hj)
   refine⟨hbel.block x (h.fresh _ _ _ hj).2 hx,λhnF2 hF'=>?_⟩;rcases(hF2 x hF').2 with h1|h1|h1
   .exact hnF2 h1
   .have h1:w.heap.size<=x:=h1;have:=(h.fresh _ _ _ hj).2;omega
   .exact hx h1
 .rcases(hF2 x hx).2 with h1|h1
  .exact h.fsub x h1
  .exact .inr (a0 x h1)
end
end Eng
end
section
namespace Eng
open Go Go.RowKit
variable [Env]
def VR (s:Nat) (chk:List (List D)->List A->Bool) (mk:List (List D)->List A->List (List D)) (res:List (List D)->List A->List A) (_:Option Nat) (vs:List V) (ob:List Obj):R:=
 match vs with
 | .arr k::r=>match nth .none ob k,j5 ob r with
  | .arr s0 es false,some (al,us)=>match bx s0 s&&!k9 k (VQ us)with
   |true=> .cond (chk es al=true) (ZC (res es al)) (us++[(k,.arr s (mk es al) false)])
   |false=> .fail
  |_,_=> .fail
 |_=> .fail
section
variable {C:Cx}
theorem YT {f s:Nat} {fn:Func} {chk:List (List D)->List A->Bool} {mk:List (List D)->List A->List (List D)} {res:List (List D)->List A->List A} (hf:C.P.funcs[f]? =some fn) (hb:fn.body≠none) (hn:fn.name≠ "runtime.NumGoroutine")
 (hmk:∀es al,chk es al=true->es≠[]/\WB C f s es al (res es al) (mk es al)):EffAt C f (VR s chk mk res):=by
 refine⟨λ{B F0 w0 F loc st a w dst args ts ty pos after g} hc=>?_,λdst vs ob ob' hh hd=>?_,λdst vs ob hv _=>?_⟩
 .unfold VR;split
  .rename_i k r a4;split
   .rename_i s0 es al us hk an;split
    .rename_i a5;simp only[Hy,I0]at a5;obtain rfl:=bs a5.1;have hku:¬∃p∈us,p.1=k:=λh=>by have:=xk.2 (yF.2 h);rw[this]at a5;simp at a5
     intro hck next Q hnx
     obtain⟨hne,hG⟩:=hmk es al hck;obtain⟨x0,xs,b2⟩:∃x0 xs,args.toList=x0::xs:=by
      cases h:args.toList with
      |nil=>rw[h]at a4;simp at a4
      |cons x0 xs=>exact⟨x0,xs,rfl⟩
     rw[b2]at a4;simp only[M1,bm]at a4;obtain⟨hx0,rfl⟩:=a4;obtain⟨ag,a6⟩:=jZ hc an (js hc xs);obtain⟨F',a3,hF',hb'⟩:=hc.freezes ag st.dirty;have a2:=a6 F' hF' hb';have b0:=(qU hc x0).1;rw[hx0]at b0;have ap:nth .none (upds st.objs us) k= .arr s0 es false:=by rw[xz _ _ λp hp e=>hku ⟨p,hp,e⟩];exact hk
     have ad:=a3.objs k;simp only at ad;rw[ap]at ad;obtain⟨q1,q2,q3,q4⟩:=ad;rcases q4 with⟨_,q5⟩|⟨gb,c0,cs0,t0,q5,q6,q7,q8,q9,q10,q11,q12⟩
     .exact absurd q5 hne
     .rcases b0 _ _ _ hk with⟨b1,c1,r1,r2⟩|⟨r1,_⟩
      .rw[q5]at r1;simp only[cb,cc]at r1;obtain⟨rfl,rfl⟩:=r1;have a0:=hG w F' (xs.map a.eval) gb c0 cs0 t0 a3.bound a3.inv a2 ⟨by simpa using q6,(a3.fresh _ _ _ q5).2,q7,q8,q9,q1,q2,q3,by rw[<-hc.prog];exact q11,q10⟩;have a1:(Lr (some ⟨gb,0,none⟩) es.length c0::xs.map a.eval).toArray=args.map a.eval:=by apply Aw;rw[Bx,b2];simp[r2]
       rw[a1]at a0;refine zg hf hb hn a0 λe w' he=>?_
       obtain⟨a7,F2,cs,v,rfl,h1,h2,h3,h4,h5⟩:=he;refine⟨_,rfl,hnx _ _ ?_⟩;have h6:=a3.turned (dst:=dst) (k:=k) (es':=mk es al) (v:=ZC (res es al)) (x:=v) ap q5 (by simpa using q6) q12 a7 h1 h2 h4 h5 rfl (λloc objs=>ZZ h3);refine xc h6 rfl ?_;show upds (upds st.objs us) [(k,.arr s0 (mk es al) false)]=upds st.objs (us++[(k,.arr s0 (mk es al) false)]);rw[xE us]
      .have h6:loc k=some (gb,c0):=q5;rw[h6]at r1;simp at r1
    .trivial
   .trivial
  .trivial
 .unfold VR;cases vs with
  |nil=>rfl
  |cons v r=>
   cases v with
   |arr k=>
    have h0:nth .none ob k=nth .none ob' k:=hh k (by
     rw[qq];exact⟨k,Lv.2 ⟨.arr k,by simp,by simp[qh]⟩,.inl rfl⟩)
    have h1:j5 ob r=j5 ob' r:=z7 (c:=2) λv hv k hk=> .inl (hh k (by
     rw[qq];exact⟨k,Lv.2 ⟨v,by simp[hv],hk⟩,.inl rfl⟩))
    simp only[h0,h1]
   |_=>rfl
 .unfold VR;split
  .rename_i k r;split
   .rename_i s0 es al us hk an;split
    .have ag:=kb an;refine⟨λp hp=>?_,λj hj=>by rw[km]at hj;simp at hj⟩;rcases M2.1 hp with hp|hp
     .obtain⟨⟨v,hv1,hv2⟩,s',es',fz,h1,h2⟩:=ag p hp;refine⟨.inr ⟨?_,by rw[h1];simp⟩,by rw[h2];simp,λu hu=>by rw[h2]at hu;simp[qQ]at hu⟩;rw[qq];exact⟨p.1,Lv.2 ⟨v,by simp[hv1],hv2⟩,.inl rfl⟩
     .simp only[Ls]at hp;subst hp;refine⟨.inr ⟨?_,by rw[hk];simp⟩,by simp,λu hu=>by simp[qQ]at hu⟩;rw[qq];exact⟨k,Lv.2 ⟨.arr k,by simp,by simp[qh]⟩,.inl rfl⟩
    .trivial
   .trivial
  .trivial
end
end Eng
end
section
namespace Eng
open Go Go.RowKit
variable [Env]
def Kb (tab:Nat->List A->Option (List A)) (C:Cx) (lim n f:Nat) (pre:List A) (lent:Option (Nat×List (List D))) (post:List A):Option (Nat×List (List D)):=
 match C.P.funcs[f]? with
 |none=>none
 |some fn=>match fn.body with
  |none=>none
  |some c=>match jb (wv tab C lim n) C lim c (W9 fn.ntmps pre lent post)with
   |some (.normal,s)=>Fq s fn.results.toList
   |some (.ret,s)=>Fq s fn.results.toList
   |_=>none
def Bv (C:Cx) (fn:Func) (st:St):Option (List A×List (List D)×Nat×Nat×Nat×Nat):=
 match resD C st fn.results.toList with
 |none=>none
 |some as=>match nth .any st.tmps 0 with
  | .arrAt k g c t=>match bx k (QM fn.ntmps),nth .none st.objs (QM fn.ntmps)with
   |true,.arr s es false=>some (as,es,s,g,c,t)
   |_,_=>none
  |_=>none
def WC (tab:Nat->List A->Option (List A)) (C:Cx) (lim n f s:Nat) (es:List (List D)) (post:List A) (g c t:Nat):Option (List A×List (List D)×Nat×Nat×Nat×Nat):=
 match C.P.funcs[f]? with
 |none=>none
 |some fn=>match fn.body with
  |none=>none
  |some b=>match jb (wv tab C lim n) C lim b (ZL fn.ntmps s es post g c t)with
   |some (.normal,st)=>Bv C fn st
   |some (.ret,st)=>Bv C fn st
   |_=>none
section
variable {C:Cx}
theorem Kc [EffOk C] {tab:Nat->List A->Option (List A)} {lim:Nat} (hm:C.P.follows .mixedOrders=true) (htab:∀f as rs,tab f as=some rs->Gives C f as rs) {n f s:Nat} {pre post:List A} {lent:Option (Nat×List (List D))} {es:List (List D)} (hne:es≠[])
 (h:Kb tab C lim n f pre lent post=some (s,es)):XZ C f pre lent post s es:=by
 unfold Kb at h;split at h
 .simp at h
 rename_i fn hf;split at h
 .simp at h
 rename_i c hc;have a3:∀(x:X) (s':St),(x= .normal\/x= .ret)->jb (wv tab C lim n) C lim c (W9 fn.ntmps pre lent post)=some (x,s')->Fq s' fn.results.toList=some (s,es)->XZ C f pre lent post s es:=by
  intro x s' hx hr a1 w F vs1 vs2 g c0 cs0 t0 hb a0 h1 h2 hl;refine calls_of_wp hf hc (Code.wp_mono (λe a' w' hp=>?_) (yc hm (λf as rs h=>z9 hm htab n f as rs h) lim c _ s' x _ w hr (WA hb a0 h1 h2 hl)));obtain⟨he,hh⟩:=hp;have a2:=O2 (fn:=fn) hh a1 hne;rcases hx with rfl|rfl
  .have he:e= .normal:=he;subst he;exact a2
  .have he:e= .ret:=he;subst he;exact a2
 split at h
 .rename_i s' hr;exact a3 _ _ (.inl rfl) hr h
 .rename_i s' hr;exact a3 _ _ (.inr rfl) hr h
 .simp at h
theorem O4 [EffOk C] {tab:Nat->List A->Option (List A)} {lim:Nat} (hm:C.P.follows .mixedOrders=true) (htab:∀f as rs,tab f as=some rs->Gives C f as rs) {n f s:Nat} {es es':List (List D)} {post res:List A} (hfl:z8 res=true) (hlen:bx es'.length es.length=true)
 (h:∀g c t,WC tab C lim n f s es post g c t=some (res,es',s,g,c,t)):WB C f s es post res es':=by
 intro w F vs2 g c0 cs0 t0 hb a2 h2 hL;have h:=h g c0 t0;have hlen:=bs hlen;unfold WC at h;split at h
 .simp at h
 rename_i fn hf;split at h
 .simp at h
 rename_i b hbd;have a7:∀(x:X) (s':St),(x= .normal\/x= .ret)->jb (wv tab C lim n) C lim b (ZL fn.ntmps s es post g c0 t0)=some (x,s')->Bv C fn s'=some (res,es',s,g,c0,t0)->
  Calls C.P f (.slice (some ⟨g,0,none⟩) es.length c0::vs2).toArray w λe w'=>BelowX ⟨w.heap.size,λb=>b=g⟩ w w'/\
  ∃(F':Nat->Prop) (cs:Array Value) (v:Value),e= .returned v/\(∀x,F x->F' x)/\(∀x,F' x->x<w'.heap.size/\(F x\/Own ⟨w.heap.size,λb=>b=g⟩ x))/\vO w' F' res v/\LentOk C.P w' F' g c0 cs t0 s es'/\es'.length=es.length:=by
  intro x s' hx hr a0;refine calls_of_wp hf hbd (Code.wp_mono (λe a' w' hp=>?_) (yc hm (λf as rs h=>z9 hm htab n f as rs h) lim b _ s' x _ w hr (TE hb a2 h2 hL)));obtain⟨he,hh⟩:=hp;have a3:a'.defers=[]/\∃v,(results fn a'.tmps).run C.P w'= .ok v w'/\BelowX ⟨w.heap.size,λb=>b=g⟩ w w'/\
   ∃(F':Nat->Prop) (cs:Array Value) (u:Value),Ending.returned v= .returned u/\(∀x,F x->F' x)/\(∀x,F' x->x<w'.heap.size/\(F x\/Own ⟨w.heap.size,λb=>b=g⟩ x))/\vO w' F' res u/\LentOk C.P w' F' g c0 cs t0 s es'/\es'.length=es.length:=by
   obtain⟨F',loc',a1⟩:=hh;unfold Bv at a0;split at a0
   .simp at a0
   rename_i as has;split at a0
   .rename_i k g1 c1 t1 h0;split at a0
    .rename_i s1 es1 hkb a6;simp only[cb,cc]at a0;obtain⟨rfl,rfl,rfl,rfl,rfl,rfl⟩:=a0;obtain⟨hd,v,hv1,hv2⟩:=Ka a1 has (ja hfl);have hk:=bs hkb;subst hk;have a4:=(wH a1 0).1;rw[h0]at a4;obtain⟨⟨q1,q3⟩,q2⟩:=a4 _ _ _ a6;have a5:=a1.objs (QM fn.ntmps);rw[a6]at a5;obtain⟨p1,p2,p3,p4⟩:=a5;rcases p4 with⟨p4,_⟩|⟨b,c,cs,t,p4,p5,p6,p7,p8,p9,p10,p11⟩
     .rw[p4]at q1;simp at q1
     .rw[p4]at q1;simp only[cb,cc]at q1;obtain⟨rfl,rfl⟩:=q1;obtain rfl:t=t1:=by rw[<-p11];exact q3
      exact⟨hd,v,hv1,a1.below,F',cs,v,rfl,a1.fsup,λx hx=>⟨a1.bound x hx,a1.fsub x hx⟩,hv2 F',⟨by simpa using p5,(a1.fresh _ _ _ p4).2,p6,p7,p8,p1,p2,p3,by rw[<-a1.prog];exact p10,p9⟩,hlen⟩
    .simp at a0
   .simp at a0
  rcases hx with rfl|rfl
  .have he:e= .normal:=he;subst he;exact a3
  .have he:e= .ret:=he;subst he;exact a3
 split at h
 .rename_i s' hr;exact a7 _ _ (.inl rfl) hr h
 .rename_i s' hr;exact a7 _ _ (.inr rfl) hr h
 .simp at h
theorem Za {C C':Cx} (hP:C'.P=C.P) (hG:C'.G=C.G) {f s:Nat} {pre post:List A} {lent:Option (Nat×List (List D))} {es:List (List D)} (h:XZ C f pre lent post s es):XZ C' f pre lent post s es:=by
 intro w F vs1 vs2 g c0 cs0 t0 hb hi h1 h2 hl;rw[hP]at hl ⊢;exact h w F vs1 vs2 g c0 cs0 t0 hb (QD hG.symm hi) h1 h2 hl
theorem TF {C C':Cx} (hP:C'.P=C.P) (hG:C'.G=C.G) {f s:Nat} {es es':List (List D)} {post res:List A} (h:WB C f s es post res es'):WB C' f s es post res es':=by
 intro w F vs2 g c0 cs0 t0 hb hi h2 hl;rw[hP]at hl ⊢;exact h w F vs2 g c0 cs0 t0 hb (QD hG.symm hi) h2 hl
end
end Eng
end
section
namespace Eng
open Go Go.RowKit
variable [Env]
section
variable {C:Cx}
theorem Bw {B:Bd} {F0:Nat->Prop} {w0:World} {F:Nat->Prop} {loc:Where} {st:St} {a:Act} {w:World} (hc:Conc C B F0 w0 F loc st a w) {x:Operand} {k s:Nat} {es:List (List D)} (hv:ev st x= .arr k) (hk:nth .none st.objs k= .arr s es false) (hne:es≠[]):
 ∃(g c0:Nat) (cs0:Array Value) (t0:TypeId),loc k=some (g,c0)/\a.eval x= .slice (some ⟨g,0,none⟩) es.length c0/\LentOk C.P w F g c0 cs0 t0 s es:=by
 have a1:=(qU hc x).1;rw[hv]at a1;have a0:=hc.objs k;rw[hk]at a0;obtain⟨q1,q2,q3,q4⟩:=a0;rcases q4 with⟨_,q5⟩|⟨gb,c0,cs0,t0,q5,q6,q7,q8,q9,q10,q11,q12⟩
 .exact absurd q5 hne
 .rcases a1 _ _ _ hk with⟨b1,c1,r1,r2⟩|⟨r1,_⟩
  .rw[q5]at r1;simp only[cb,cc]at r1;obtain⟨rfl,rfl⟩:=r1;exact⟨gb,c0,cs0,t0,q5,r2,⟨by simpa using q6,(hc.fresh _ _ _ q5).2,q7,q8,q9,q1,q2,q3,by rw[<-hc.prog];exact q11,q10⟩⟩
  .rw[q5]at r1;simp at r1
end
end Eng
end
section
namespace Eng
open Go Go.RowKit
variable [Env]
def Vr (n:Nat):Nat:=n
def vOfB (k:Nat) (es:List (List D)):V:=match es with
 |[]=> .nilS
 |_::_=> .arr k
def ZM:List (List D)->Bool
 |[]=>false
 |_::_=>true
section
variable {C:Cx}
end
end Eng
end
section
namespace Eng
open Go Go.RowKit
variable [Env]
section
variable {C:Cx} {B:Bd} {F0:Nat->Prop} {w0:World} {F:Nat->Prop} {loc:Where} {st:St} {a:Act} {w:World}
end
section
variable {C:Cx}
end
end Eng
end
