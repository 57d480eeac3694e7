import Derived.Test.YtkaghlcopjaclaaGreatDoorEngC
import Derived.Deep.AppendSrc
import Derived.Laws.Externs
import Derived.Lib.Bytealg
import Derived.Sort.Row
import Derived.Lib.Builder
open Array renaming ext'->B0, toList_map->Dd, getElem?_modify->Hu
open Bool renaming and_eq_true->Hv, not_eq_true'->Hx
open Eng.Obj.arr renaming injEq->Hy
open Go.IntKind renaming u64->HZ, u32->I0
open Go.Sort renaming putCells->I1
open Go.Value renaming int->I2, slice->I3
open List renaming mem_singleton->J3, mem_flatMap->J4, mem_append->J5, map_cons->J7, replicate->J8, getElem?_append_left->J9, length_take->Lm, mem_append_right->Lr, mem_of_mem_take->Ls, append_assoc->Lv, length_drop->M0, getElem?_append_right->M1, mem_cons->M2, getElem?_take_of_lt->M3, length_append->No, getElem?_drop->Pl, size_toArray->P1, flatten_cons->Sz, mem_map->Ts, length->T1
open List.cons renaming injEq->U0
open Nat renaming lt_of_lt_of_le->U3, eq_of_beq_eq_true->V1, mul_one->W0, le_trans->W1, beq->W2, le_refl->W3
open Ne renaming symm->W4
open Option.some renaming injEq->aE
open Prod.mk renaming injEq->ba
section
namespace Eng
open Go Go.RowKit
end Eng
end
section
namespace Eng
open Go Go.RowKit
end Eng
end
section
namespace Eng
open Go Go.RowKit
section
variable {C:Cx}{B:Bd}{F0:Nat->Prop}{w0:World}{F:Nat->Prop}{loc:Where}{st:St}{a:Act}{w:World}
end
end Eng
end
section
namespace Eng
open Go Go.RowKit
section
variable {C:Cx}{B:Bd}{F0:Nat->Prop}{w0:World}{F:Nat->Prop}{loc:Where}{st:St}{a:Act}{w:World}
variable {dst:Option Nat}{ty:TypeId}{pos:String}{after:Array Edge}{g:Option (Nat×Bool)}
theorem kK{f:Nat}{fn:Func}{args:Array Operand}{ts:Array TypeId}(hf:C.P.funcs[f]? =some fn)(hb:fn.body≠none)(hn:fn.name≠ "runtime.NumGoroutine"){R:Ending->World->Prop}(hc:Calls C.P f (args.map a.eval) w R){next:Act->World->Prop}{Q:Exit->Act->World->Prop}(h:∀e w',R e w'->∃v,e= .returned v/\next (a.put dst v) w'):
 Oper.wp C.P ⟨dst,.call ⟨.value (.func f),args,ts⟩,ty,pos,after,g⟩ a w next Q:=by
 have a3:(execOp a.eval ⟨dst,.call ⟨.value (.func f),args,ts⟩,ty,pos,after,g⟩).run C.P w= .ok (.enter f (args.map a.eval)) w:=by simp[execOp,resolve,Act.eval,Deferred.ofValue,invoke,callFunc,hf,hn,hb]
 unfold Oper.wp;rw[a3];refine hc.mono λe w' he=>?_
 grind
end
end Eng
end
section
namespace Eng
open Go Go.RowKit
structure EffAt (C:Cx) (f:Nat) (e:Option Nat->List V->List Obj->R):Prop where
 rs:∀{B:Bd} {F0:Nat->Prop} {w0:World} {F:Nat->Prop} {loc:Where} {st:St} {a:Act} {w:World} {dst:Option Nat} {args:Array Operand} {ts:Array TypeId} {ty:TypeId} {pos:String} {after:Array Edge} {g:Option (Nat×Bool)},
  Conc C B F0 w0 F loc st a w->RSW C B F0 w0 st a w ⟨dst,.call ⟨.value (.func f),args,ts⟩,ty,pos,after,g⟩ (e dst (args.toList.map (ev st)) st.objs)
 ag:∀(dst:Option Nat) (vs:List V) (ob ob':List Obj),(∀k∈yy ob (vs.flatMap qn),nth .none ob k=nth .none ob' k)->(∀d,ij (C.wd f) dst d->qD ob d=qD ob' d)->e dst vs ob=e dst vs ob'
 good:∀(dst:Option Nat) (vs:List V) (ob:List Obj),(∀v∈vs,∀k∈qn v,nth .none ob k≠ .none)->(∀k,∀u∈qZ (nth .none ob k),∀j∈qn u,nth .none ob j≠ .none)->pq (C.wd f) dst (yy ob (vs.flatMap qn)) ob (e dst vs ob)
theorem zY{C:Cx}(h:∀f e,C.eff f=some e->EffAt C f e):EffOk C where
 rs hf _ _ _ _ _ _ _ _ _ _ _ _ _ _ _ hc:=(h _ _ hf).rs hc
 ag hf:=(h _ _ hf).ag
 good hf:=(h _ _ hf).good
end Eng
end
section
namespace Eng
open Go Go.RowKit Go.Sort
def ou (by_ c:Int):List Int->Int
 |[]=>c
 |y::_=>HZ.wrap (c+HZ.wrap (HZ.wrap y*by_))
def dr (x c:Int):List Int->Int
 |[]=>I0.wrap (x+c)
 |y::_=>I0.wrap (I0.wrap (x+c)+y)
def vd (by_:Int):List Int->List Int->Int->Int->List Int×Int×Int
 |[],_,c,b=>([],c,b)
 |x::us,vs,c,b=>
  let t:=ou by_ c vs
  let y:=HZ.wrap (t.tmod 1000000000+b)
  match decide (HZ.wrap x<y)with
  |true=>
   let r:=vd by_ us vs.tail (HZ.wrap (t.tdiv 1000000000)) 1
   (I0.wrap (HZ.wrap (HZ.wrap (HZ.wrap x+1000000000)-y))::r.1,r.2)
  |false=>
   let r:=vd by_ us vs.tail (HZ.wrap (t.tdiv 1000000000)) 0
   (I0.wrap (HZ.wrap (HZ.wrap x-y))::r.1,r.2)
def Vk:List Int->List Int->Int->List Int
 |[],_,_=>[]
 |x::us,vs,c=>
  let t:=dr x c vs
  match decide (1000000000<=t)with
  |true=>I0.wrap (t-1000000000)::Vk us vs.tail 1
  |false=>t::Vk us vs.tail 0
theorem KT(by_:Int):∀(us vs:List Int) (c b:Int),(vd by_ us vs c b).1.length=us.length
 |[],_,_,_=>rfl
 |x::us,vs,c,b=>by simp only[vd];split<;>simp[KT by_ us]
theorem KU:∀(us vs:List Int) (c:Int),(Vk us vs c).length=us.length
 |[],_,_=>rfl
 |x::us,vs,c=>by simp only[Vk];split<;>simp[KU us]
structure SubK (P:Program) (fS fR:Nat):Prop where
 there:∀f,f=fS\/f=fR->∃fn,P.funcs[f]? =some fn/\fn.body≠none/\fn.name≠ "runtime.NumGoroutine"
 sub:∀{w:World} {g off cap bv ov cv:Nat} (us vs:List Int) (by_:Int),Holds (I2 .u32) w g off us.toArray->bv≠g->us.length<=1073741824->vs.length<=1073741824->
  (∀j (h:j<vs.length),w.cell? ⟨bv,ov+j,none⟩=some (.int .u32 vs[j]))->
  Calls P fS #[.slice (some ⟨g,off,none⟩) us.length cap,.slice (some ⟨bv,ov,none⟩) vs.length cv,.int .u64 by_] w λe w'=>
   e= .returned (.bool (decide (0<(vd by_ us vs 0 0).2.2)||decide (0<(vd by_ us vs 0 0).2.1)))/\w'=putRow (I2 .u32) w g off (vd by_ us vs 0 0).1.toArray
 res:∀{w:World} {g off cap bv ov cv:Nat} (us vs:List Int),Holds (I2 .u32) w g off us.toArray->bv≠g->us.length<=1073741824->vs.length<=1073741824->
  (∀j (h:j<vs.length),w.cell? ⟨bv,ov+j,none⟩=some (.int .u32 vs[j]))->
  Calls P fR #[.slice (some ⟨g,off,none⟩) us.length cap,.slice (some ⟨bv,ov,none⟩) vs.length cv] w λe w'=>
   e= .returned (.tuple #[])/\w'=putRow (I2 .u32) w g off (Vk us vs 0).toArray
def intB:List D->Bool
 |[.int .u32 _]=>true
 |_=>false
def QT:List (List D)->Bool
 |[]=>true
 |e::r=>intB e&&QT r
def pB:List D->Int
 |[.int _ n]=>n
 |_=>0
def xj (es:List (List D)):List Int:=es.map pB
def xQ (l:List Int):List (List D):=l.map λn=>[.int .u32 n]
theorem YZ:∀{es:List (List D)},QT es=true->es=xQ (xj es)
 |[],_=>rfl
 |e::r,h=>by
  simp only[QT,Hv]at h;have ih:=YZ h.2;have he:=h.1;unfold intB at he;split at he
  .simp only[xQ,xj,J7,pB]at ih ⊢
   grind
  grind
theorem Vv(l:List Int):(xQ l).flatten=l.map (D.int .u32):=by
 induction l with
 |nil=>rfl
 |cons c l ih=>simp only[xQ,J7,Sz]at ih ⊢;grind
theorem xR(l:List Int):(xQ l).length=l.length:=by simp[xQ]
theorem VN(l:List Int):∀e∈xQ l,e.length=1:=by
 intro e he;simp only[xQ,Ts]at he
 grind
def vU (c:Prop) [Decidable c] (res:List Int->V) (new:List Int->List Int) (x:V) (ob:List Obj):R:=
 match x with
 | .sub k off len=>match nth .none ob k with
  | .arr s es false=>match W2 s 1 with
   |true=> .cond (c/\0<len/\off+len<=es.length/\QT ((es.drop off).take len)=true) (res (xj ((es.drop off).take len))) [(k,.arr 1 (es.take off++xQ (new (xj ((es.drop off).take len)))++es.drop (off+len)) false)]
   |false=> .fail
  |_=> .fail
 |_=> .fail
def Ub (_:Option Nat) (vs:List V) (ob:List Obj):R:=
 match vs with
 |[x,.c (.sl ys),.c (.int .u64 n)]=>vU (ys≠[]/\QT ys=true/\ys.length<=1073741824)
  (λus=> .c (.bool (decide (0<(vd n us (xj ys) 0 0).2.2)||decide (0<(vd n us (xj ys) 0 0).2.1)))) (λus=>(vd n us (xj ys) 0 0).1) x ob
 |_=> .fail
def Uc (_:Option Nat) (vs:List V) (ob:List Obj):R:=
 match vs with
 |[x,.c (.sl ys)]=>vU (ys≠[]/\QT ys=true/\ys.length<=1073741824) (λ_=> .tp []) (λus=>Vk us (xj ys) 0) x ob
 |_=> .fail
theorem VO{c:Prop}[Decidable c]{res:List Int->V}{new:List Int->List Int}{x:V}{ob ob':List Obj}(h:∀k∈yy ob (qn x),nth .none ob k=nth .none ob' k):vU c res new x ob=vU c res new x ob':=by
 cases x with
 |sub k off len=>simp only[vU];rw[h k (by simp[qn,qE])]
 |_=>rfl
theorem Jp{wd:Bool}{dst:Option Nat}{c:Prop}[Decidable c]{res:List Int->V}{new:List Int->List Int}(hres:∀us,qn (res us)=[]){x:V}{ob:List Obj}:pq wd dst (yy ob (qn x)) ob (vU c res new x ob):=by
 unfold vU;split
 .rename_i k off len;split
  .rename_i s es hk;split
   .refine⟨λp hp=>?_,λj hj=>by grind⟩;simp only[J3]at hp;subst hp;exact⟨.inr ⟨by simp[qn,qE],by grind⟩,by simp,λu hu=>by simp[qZ]at hu⟩
   .trivial
  .trivial
 .trivial
section
variable {C:Cx}{B:Bd}{F0:Nat->Prop}{w0:World}{F:Nat->Prop}{loc:Where}{st:St}{a:Act}{w:World}
variable {dst:Option Nat}{ty:TypeId}{pos:String}{after:Array Edge}{g:Option (Nat×Bool)}
theorem Bo{k off len b c:Nat}{es:List (List D)}{us us':List Int}{v:V}{x:Value}(h:Conc C B F0 w0 F loc st a w)(hk:nth .none st.objs k= .arr 1 es false)(hl:loc k=some (b,c))(hle:off+len<=es.length)(hus:(es.drop off).take len=xQ us)(hlen:us'.length=us.length)(hv:∀(loc:Where) (objs:List Obj) (w:World) (F:Nat->Prop),CV loc objs w F v x/\Ref objs v):
 St.has C B F0 w0 (st.put dst v [(k,.arr 1 (es.take off++xQ us'++es.drop (off+len)) false)]) (a.put dst x) (putRow (I2 .u32) w b off us'.toArray):=by
 have hul:us.length=len:=by have:=congrArg T1 hus;rw[xR,Lm,M0]at this;omega
 have a9:=h.objs k;rw[hk]at a9;obtain⟨a8,_,a4,a9⟩:=a9;rcases a9 with⟨h4,_⟩|⟨b',c',cs,t,h4,h5,h6,h7,h8,h9,h10,h11⟩
 .rw[h4]at hl;simp at hl
 rw[h4]at hl;simp only[aE,ba]at hl;obtain⟨rfl,rfl⟩:=hl;have hfk:=h.fresh _ _ _ h4;have hkl:k<st.objs.length:=xO (by rw[hk];simp);generalize hes':es.take off++xQ us'++es.drop (off+len)=es' at *;have an:es'.length=es.length:=by rw[<-hes'];simp only[No,Lm,M0,xR];omega
 have a6:∀e∈es',e.length=1:=by
  rw[<-hes'];intro e he;simp only[J5]at he;rcases he with(he|he)|he
  .exact a4 e (Ls he)
  .exact VN us' e he
  .exact a4 e (List.mem_of_mem_drop he)
 have hn:∀j,nth .none (upd st.objs k (.arr 1 es' false)) j=if j=k then .arr 1 es' false else nth .none st.objs j:=by
  intro j;by_cases h1:j=k
  .subst h1;rw[qc _ _ _ hkl,if_pos rfl]
  .rw[qb _ _ _ (W4 h1),if_neg h1]
 have a3:∀β,β≠b'->(putRow (I2 .u32) w b' off us'.toArray).heap[β]? =w.heap[β]? :=by intro β hβ;show(w.heap.modify b' _)[β]? =_;rw[Hu,if_neg (W4 hβ)]
 have ad:(putRow (I2 .u32) w b' off us'.toArray).heap[b']? =some (.cells (I1 (I2 .u32) off us'.toArray cs) t (0,0)):=by show(w.heap.modify b' _)[b']? =_;rw[Hu,if_pos rfl,h6];rfl
 have al:∀β,F β->(putRow (I2 .u32) w b' off us'.toArray).heap[β]? =w.heap[β]? :=λβ hβ=>a3 β λe=>h5 (e▸hβ)
 have a7:Le st.objs (upd st.objs k (.arr 1 es' false)) loc loc:=by
  refine⟨rfl,λ_ _=>rfl,λj hj=>?_,λj o' hj hc hbx=>?_,λj s' es2 fz' hj hc=>?_⟩
  .rw[hn];split
   .simp
   .exact hj
  .rw[hn]at hc;split at hc
   .rw[<-hc]at hbx;simp[kl]at hbx
   .exact⟨by rw[hc];exact hbx,rfl⟩
  .rw[hn]at hc;split at hc
   .rename_i e;subst e;simp only[Hy]at hc;obtain⟨rfl,rfl,rfl⟩:=hc;exact⟨⟨es,false,hk,an⟩,rfl⟩
   .exact⟨⟨_,_,hc,rfl⟩,rfl⟩
 refine⟨F,loc,h.step (up:=[(k,.arr 1 es' false)]) (λ_ h=>h) al a7 (h.below.trans ⟨rfl,rfl,rfl,by rw[size_putRow];exact W3 _,λj hj hjX=>a3 j (λe=>by
  rcases hfk.1 with h1|h1
  .omega
  .exact hjX (e▸h1))⟩) (by rw[size_putRow];exact h.hB) (λj=>?_) h.inj (λj β c hβ=>by rw[size_putRow];exact h.fresh j β c hβ) (λβ hβ=>by rw[size_putRow];exact h.bound β hβ) h.fsub (hv _ _ _ _).1 (hv loc _ w F).2⟩
 show CO loc (upd st.objs k (.arr 1 es' false)) _ F j (nth .none (upd st.objs k (.arr 1 es' false)) j);rw[hn];by_cases h1:j=k
 .subst h1;rw[if_pos rfl];refine⟨by rw[an];exact a8,by omega,a6,.inr ⟨b',c',_,t,h4,h5,ad,?_,by omega,λi hi=>?_,h10,h11⟩⟩
  .simp only[I1,Array.size_mapIdx];exact h7
  .rw[W0]at hi;obtain⟨u,hu,hcd⟩:=h9 i (by omega);have a5:=hcd.mono (F':=F) (λ_ h=>h) al;have ag:(I1 (I2 .u32) off us'.toArray cs)[i]? =some (if off<=i/\i<off+us'.length then I2 .u32 (us'.toArray[i-off]!)else u):=by simp only[I1,Array.getElem?_mapIdx,hu,Option.map_some,P1]
   refine⟨_,ag,?_⟩;have b1:∀(l:List (List D)),(∀e∈l,e.length=1)->∀i,i<l.length->nth .undef l.flatten i=nth .undef (nth [] l i) 0:=λl hl i hi=>by
    have:=xd hl i 0 hi (by omega)
    simpa using this
   rw[b1 es' a6 i hi];rw[b1 es a4 i (by omega)]at a5;by_cases hr:off<=i/\i<off+us'.length
   .rw[if_pos hr];have ap:i-off<us'.length:=by omega
    have:nth [] es' i=[D.int .u32 (us'[i-off])]:=by
     rw[<-hes',qF,Lv,M1 (by simp;omega),J9 (by simp[xR];omega)];have e1:i-(es.take off).length=i-off:=by simp;omega
     rw[e1];simp[xQ,ap]
    rw[this];have:us'.toArray[i-off]! =us'[i-off]:=by simp[ap]
    rw[this];exact .int _ _
   .rw[if_neg hr];have:nth [] es' i=nth [] es i:=by
     rw[<-hes'];simp only[qF];by_cases h2:i<off
     .rw[Lv,J9 (by simp;omega),M3 h2]
     .rw[M1 (by simp[xR];omega),Pl];congr 2;simp[xR];omega
    rw[this];exact a5
 .rw[if_neg h1];refine CO.le (λ_ h=>h) al a7 rfl rfl (λβ c hβ=>⟨?_,λh=>h⟩) (h.objs j);refine a3 β λe=>?_
  subst e;exact h1 (h.inj _ _ _ _ _ hβ h4)
theorem VP{f:Nat}{fn:Func}{x:Operand}{zs:List Operand}{c:Prop}[Decidable c]{res:List Int->V}{new:List Int->List Int}{args:Array Operand}{ts:Array TypeId}(h:Conc C B F0 w0 F loc st a w)(hf:C.P.funcs[f]? =some fn)(hb:fn.body≠none)(hn:fn.name≠ "runtime.NumGoroutine")(hargs:args.toList=x::zs)(hc:c->∀{g off cap:Nat} (us:List Int),Holds (I2 .u32) w g off us.toArray->¬F g->us.length<=1073741824->(new us).length=us.length/\∃rv,(∀(loc:Where) (objs:List Obj) (w:World) (F:Nat->Prop),CV loc objs w F (res us) rv/\Ref objs (res us))/\
  Calls C.P f (.slice (some ⟨g,off,none⟩) us.length cap::zs.map a.eval).toArray w λe w'=>e= .returned rv/\w'=putRow (I2 .u32) w g off (new us).toArray):
 RSW C B F0 w0 st a w ⟨dst,.call ⟨.value (.func f),args,ts⟩,ty,pos,after,g⟩ (vU c res new (ev st x) st.objs):=by
 have hx:=(xg h x).1;unfold vU;split
 .rename_i k off a8 hxv;rw[hxv]at hx;split
  .rename_i s es hk;split
   .rename_i hs;have hs:s=1:=V1 hs;subst hs;rintro⟨hcc,hl0,hle,a6⟩;have a6:=YZ a6;generalize hue:xj ((es.drop off).take a8)=us at *;obtain⟨b,cp,hl,hle2,hxe⟩:=(hx 1 es false hk).resolve_right (by rintro(⟨_,_,_,_,h4,_⟩|⟨_,_,_,h4,_⟩)<;>omega);have hul:us.length=a8:=by have:=congrArg T1 a6;rw[xR,Lm,M0]at this;omega
    have a5:=h.objs k;rw[hk]at a5;obtain⟨a4,_,a7,a5⟩:=a5;rcases a5 with⟨h4,_⟩|⟨b',c',cs,t,h4,h5,h6,h7,h8,h9,h10,h11⟩
    .rw[h4]at hl;simp at hl
    rw[h4]at hl;simp only[aE,ba]at hl;obtain⟨rfl,rfl⟩:=hl;have a3:Holds (I2 .u32) w b' off us.toArray:=by
     intro j hj;have hj:j<us.length:=by simpa using hj
     obtain⟨u,hu,ad⟩:=h9 (off+j) (by omega);have hel:nth [] es (off+j)=[D.int .u32 us[j]]:=by
      have:nth [] ((es.drop off).take a8) j=nth [] es (off+j):=by simp only[qF];rw[M3 (by omega),Pl]
      rw[<-this,a6,qF];simp[xQ,hj]
     have ag:=xd a7 (off+j) 0 (by omega) (by omega);rw[W0,Nat.add_zero,hel]at ag;rw[ag]at ad;have hu':u= .int .u32 us[j]:=by cases(ad:CD _ _ (.int .u32 us[j]) _);rfl
     subst hu';refine⟨?_,?_⟩
     .rw[Lib.cell_of_heap h6,hu];simp[hj]
     .exact Lib.frozen_of_heap h6 _
    have hr:us.length<=1073741824:=by have:es.length<=1073741824:=a4.one;omega
    obtain⟨hlen,rv,hrv,a9⟩:=hc hcc (cap:=c'-off) us a3 h5 hr;intro next Q hnx
    have hae:(.slice (some ⟨b',off,none⟩) us.length (c'-off)::zs.map a.eval).toArray=args.map a.eval:=by apply B0;rw[Dd,hargs,J7,hxe,hul,W0]
    grind [kK,Bo]
   .trivial
  .trivial
 .trivial
theorem N8{ys:List (List D)}{x:Value}(hx:CD w F (.sl ys) x)(hne:ys≠[])(hl:QT ys=true):∃b o c,x= .slice (some ⟨b,o,none⟩) (xj ys).length c/\F b/\∀j (hj:j<(xj ys).length),w.cell? ⟨b,o+j,none⟩=some (.int .u32 (xj ys)[j]):=by
 have hys:=YZ hl;generalize xj ys=l at *;obtain⟨ad,c,a5,hlc,a3⟩:=hx.slice_inv;rcases a3 with h0|⟨b,o,a4,rfl,a3⟩
 .grind
 .subst hys;have hs1:a4=1:=by obtain⟨e,r,he⟩:=List.exists_cons_of_ne_nil hne;have h1:=a3.hs e (by grind);have h2:=VN l e (by grind);omega
  subst hs1;rw[xR]at a5;refine⟨b,o,c,a5,a3.hF,λj hj=>?_⟩;obtain⟨v,h1,h2⟩:=a3.hc j (by rw[xR];omega);rw[Vv,qm _ (by grind),List.getElem_map]at h2;have:v= .int .u32 l[j]:=by cases(h2:CD _ _ (.int .u32 l[j]) _);rfl
  grind
theorem Jq(ys:List (List D)):(xj ys).length=ys.length:=by simp[xj]
theorem Ud{fS fR:Nat}(hk:SubK C.P fS fR):EffAt C fS Ub:=by
 refine⟨λ{B F0 w0 F loc st a w dst args ts ty pos after g} h=>?_,λdst vs ob ob' h hd=>?_,λdst vs ob hv hb=>?_⟩
 .unfold Ub;split
  .rename_i v ys n a3;obtain⟨x,y2,z,hax,hx,hy,hz⟩:∃x y2 z,args.toList=[x,y2,z]/\ev st x=v/\ev st y2= .c (.sl ys)/\ev st z= .c (.int .u64 n):=by
    match hl:args.toList with
    |[]=>rw[hl]at a3;simp at a3
    |[x]=>rw[hl]at a3;simp at a3
    |[x,y]=>rw[hl]at a3;simp at a3
    |[x,y,z]=>rw[hl]at a3;simp only[J7,List.map_nil,U0]at a3;exact⟨x,y,z,rfl,a3.1,a3.2.1,a3.2.2.1⟩
    |_::_::_::_::_=>rw[hl]at a3;simp at a3
   obtain⟨fn,hf,hb,hn⟩:=hk.there fS (.inl rfl);have a9:=(xg h y2).1;rw[hy]at a9;have a8:=(xg h z).1;rw[hz]at a8;have a8:=vM a8;rw[<-hx];refine VP (zs:=[y2,z]) h hf hb hn hax ?_;rintro⟨hne,a5,a6⟩ g off cap us hH hnF a7;obtain⟨b,o,c,hye,hF,a4⟩:=N8 a9 hne a5;refine⟨KT _ _ _ _ _,_,λloc objs w F=>⟨CD.bool _,trivial⟩,?_⟩;have:=hk.sub (cap:=cap) (cv:=c) us (xj ys) n hH (λe=>hnF (e▸hF)) a7 (by rw[Jq];exact a6) a4
   grind
  .trivial
 .unfold Ub;split
  .exact VO λk hk=>h k (by simpa [qn]using hk)
  .rfl
 .unfold Ub;split
  .rename_i x ys n;have:=λwd=>Jp (wd:=wd) (dst:=dst) (ob:=ob) (x:=x) (c:=ys≠[]/\QT ys=true/\ys.length<=1073741824) (res:=λus=> .c (.bool (decide (0<(vd n us (xj ys) 0 0).2.2)||decide (0<(vd n us (xj ys) 0 0).2.1)))) (new:=λus=>(vd n us (xj ys) 0 0).1) (λ_=>rfl)
   simpa [qn]using this _
  .trivial
theorem Ue{fS fR:Nat}(hk:SubK C.P fS fR):EffAt C fR Uc:=by
 refine⟨λ{B F0 w0 F loc st a w dst args ts ty pos after g} h=>?_,λdst vs ob ob' h hd=>?_,λdst vs ob hv hb=>?_⟩
 .unfold Uc;split
  .rename_i v ys a4;obtain⟨x,y2,hax,hx,hy⟩:∃x y2,args.toList=[x,y2]/\ev st x=v/\ev st y2= .c (.sl ys):=by
    match hl:args.toList with
    |[]=>rw[hl]at a4;simp at a4
    |[x]=>rw[hl]at a4;simp at a4
    |[x,y]=>
     grind
    |_::_::_::_=>rw[hl]at a4;simp at a4
   obtain⟨fn,hf,hb,hn⟩:=hk.there fR (.inr rfl);have a8:=(xg h y2).1;rw[hy]at a8;rw[<-hx];refine VP (zs:=[y2]) h hf hb hn hax ?_;rintro⟨hne,a5,a6⟩ g off cap us hH hnF a7;obtain⟨b,o,c,hye,hF,a3⟩:=N8 a8 hne a5;refine⟨KU _ _ _,_,λloc objs w F=>⟨⟨#[],rfl,trivial⟩,trivial⟩,?_⟩;have:=hk.res (cap:=cap) (cv:=c) us (xj ys) hH (λe=>hnF (e▸hF)) a7 (by rw[Jq];exact a6) a3
   grind
  .trivial
 .unfold Uc;split
  .exact VO λk hk=>h k (by simpa [qn]using hk)
  .rfl
 .unfold Uc;split
  .rename_i x ys;have:=λwd=>Jp (wd:=wd) (dst:=dst) (ob:=ob) (x:=x) (c:=ys≠[]/\QT ys=true/\ys.length<=1073741824) (res:=λ_=> .tp []) (new:=λus=>Vk us (xj ys) 0) (λ_=>rfl)
   simpa [qn]using this _
  .trivial
end
end Eng
end
section
namespace Eng
open Go Go.RowKit
def Vl (a b:Ann):Nat->Ann
 |0=>a
 |_=>b
def lz (a b c:Ann):Nat->Ann
 |0=>a
 |1=>b
 |_=>c
def yF:List (List D)->Bool
 |[]=>true
 |e::r=>e.all K1&&yF r
theorem Uf:∀{es:List (List D)},yF es=true->∀d∈es.flatten,K1 d=true
 |[],_,d,hd=>by simp at hd
 |e::r,h,d,hd=>by
  simp only[yF,Hv]at h;simp only[Sz,J5]at hd;rcases hd with hd|hd
  .exact List.all_eq_true.1 h.1 d hd
  .exact Uf h.2 d hd
def il (st:St) (rs:List ResultVar):Option (Nat×List (List D)):=
 match rs with
 |[.tmp t]=>match nth .any st.tmps t with
  | .arr k=>match nth .none st.objs k with
   | .arr s es false=>some (s,es)
   |_=>none
  |_=>none
 |_=>none
def io (st:St) (rs:List ResultVar):Option (Nat×List (List D)):=
 match il st rs with
 |some (s,es)=>match es with
  |[]=>none
  |_::_=>match yF es with
   |true=>some (s,es)
   |false=>none
 |none=>none
theorem du{st:St}{rs:List ResultVar}{s:Nat}{es:List (List D)}(h:il st rs=some (s,es))(h1:es≠[])(h2:yF es=true):io st rs=some (s,es):=by
 unfold io;rw[h];cases es with
 |nil=>exact absurd rfl h1
 |cons e r=>simp only[h2]
def wB (C:Cx) (f:Nat) (args:List A) (s:Nat) (es:List (List D)):Prop:=
 ∀(w:World) (F:Nat->Prop) (vs:List Value),(∀b,F b->b<w.heap.size)->Inv C F w->All2 (CA w F) args vs->
  Calls C.P f vs.toArray w λe w'=>Below w.heap.size w w'/\∃b c cs t,e= .returned (.slice (some ⟨b,0,none⟩) es.length c)/\w.heap.size<=b/\b<w'.heap.size/\w'.heap[b]? =some (.cells cs t (0,0))/\cs.size=c*s/\(es.length<=c/\c<=9223372036854775807)/\
   roomS s es.length/\0<s/\(∀e∈es,e.length=s)/\C.P.cellsOf t=s/\∀j,j<es.length*s->∃v,cs[j]? =some v/\∀(w:World) (F:Nat->Prop),CD w F (nth .undef es.flatten j) v
theorem Ug{C C':Cx}(hG:C'.G=C.G){F:Nat->Prop}{w:World}(h:Inv C F w):Inv C' F w:=λg cs hg=>h g cs (hG▸hg)
theorem zb{C C':Cx}(hP:C'.P=C.P)(hG:C'.G=C.G){f:Nat}{as rs:List A}(h:qa C f as rs):qa C' f as rs:=by
 intro w F vs hb hi ha;rw[hP];exact h w F vs hb (Ug hG.symm hi) ha
theorem KV{C C':Cx}(hP:C'.P=C.P)(hG:C'.G=C.G){f s:Nat}{as:List A}{es:List (List D)}(h:wB C f as s es):wB C' f as s es:=by
 intro w F vs hb hi ha;rw[hP];exact h w F vs hb (Ug hG.symm hi) ha
section
variable {C:Cx}
theorem dw{fn:Func}{w:World}{F:Nat->Prop}{s':St}{a':Act}{w':World}{s:Nat}{es:List (List D)}(hh:St.has C ⟨w.heap.size,λ_=>False⟩ F w s' a' w')(has:io s' fn.results.toList=some (s,es)):
 a'.defers=[]/\∃v,(results fn a'.tmps).run C.P w'= .ok v w'/\Below w.heap.size w w'/\∃b c cs t,Ending.returned v= .returned (.slice (some ⟨b,0,none⟩) es.length c)/\w.heap.size<=b/\b<w'.heap.size/\w'.heap[b]? =some (.cells cs t (0,0))/\cs.size=c*s/\(es.length<=c/\c<=9223372036854775807)/\
  roomS s es.length/\0<s/\(∀e∈es,e.length=s)/\C.P.cellsOf t=s/\∀j,j<es.length*s->∃v,cs[j]? =some v/\∀(w:World) (F:Nat->Prop),CD w F (nth .undef es.flatten j) v:=by
 obtain⟨F',loc',h⟩:=hh;have a6:∃e r,es=e::r/\yF es=true/\il s' fn.results.toList=some (s,es):=by
  unfold io at has;split at has
  .rename_i s1 es1 h1;split at has
   .simp at has
   .split at has
    .rename_i a7;simp only[aE,ba]at has;obtain⟨rfl,rfl⟩:=has;exact⟨_,_,rfl,a7,h1⟩
    .simp at has
  .simp at has
 obtain⟨e,r,rfl,a7,has⟩:=a6;unfold il at has;split at has
 .rename_i t hrs;split at has
  .rename_i k hk;split at has
   .rename_i s0 es0 a9
    ··simp only[aE,ba]at has;obtain⟨rfl,rfl⟩:=has;have hx:=(wP h t).1;simp only[Act.eval]at hx;rw[hk]at hx;have a5:=h.objs k;rw[a9]at a5;obtain⟨a4,hs0,a3,a5⟩:=a5;rcases hx _ _ _ a9 with⟨b,c,hl,hv⟩|⟨_,h0,_⟩
      .rcases a5 with⟨h4,_⟩|⟨b',c',cs,t',h4,h5,h6,h7,h8,h9,h10,h11⟩
       .rw[h4]at hl;simp at hl
       .rw[h4]at hl;simp only[aE,ba]at hl;obtain⟨rfl,rfl⟩:=hl;have a8:=h.fresh _ _ _ h4;refine⟨h.defers,.slice (some ⟨b',0,none⟩) (e::r).length c',?_,h.below.toBelow,b',c',cs,t',rfl,a8.1.elim id False.elim,a8.2,h6,h7,h8,a4,hs0,a3,by rw[<-h.prog];exact h10,λj hj=>?_⟩
        .have hr:fn.results= #[.tmp t]:=by apply B0;simpa using hrs
         unfold results;rw[hr];have hv':a'.tmps[t]?.getD undef= .slice (some ⟨b',0,none⟩) (e::r).length c':=by rw[<-hv];simp
         simp[hv']
        .obtain⟨v,q1,q2⟩:=h9 j hj;refine⟨v,q1,λw F=>Ll q2 (Uf a7 _ ?_)⟩;rw[qm _ (by rw[qk a3];exact hj)];exact List.getElem_mem _
      .simp at h0
   .simp at has
  .simp at has
 .simp at has
def runFo (tab:Nat->List A->Option (List A)) (C:Cx) (lim n f:Nat) (args:List A):Option (Nat×List (List D)):=
 match C.P.funcs[f]? with
 |none=>none
 |some fn=>match fn.body with
  |none=>none
  |some c=>match Jo (EQ tab C lim n) C lim c (Q7 fn.ntmps args)with
   |some (.normal,s)=>io s fn.results.toList
   |some (.ret,s)=>io s fn.results.toList
   |_=>none
def pC (C:Cx) (Gv:Nat->List A->List A->Prop) (anns:Nat->Ann) (fn:Func) (args:List A) (Q:Nat->List (List D)->Prop):Prop:=
 match fn.body with
 |none=>False
 |some c=>wpC C Gv anns 0 c (λe s=>match e with
  | .normal| .ret=>match il s fn.results.toList with
   |some (k,es)=>(es≠[]/\yF es=true)/\Q k es
   |none=>False
  | .exit _=>False) (Q7 fn.ntmps args)
theorem dx[EffOk C]{anns:Nat->Ann}{f:Nat}{fn:Func}{args:List A}{s:Nat}{es:List (List D)}(hm:C.P.follows .mixedOrders=true)(hf:C.P.funcs[f]? =some fn)(h:pC C (qa C) anns fn args (λk r=>k=s/\r=es)):wB C f args s es:=by
 intro w F vs hb a5 a3;unfold pC at h;split at h
 .exact h.elim
 rename_i c hc;refine calls_of_wp hf hc ?_;refine Code.wp_mono (λe a' w' hp=>?_) (Bf hm c 0 _ _ _ _ h (XB hb a5 a3));obtain⟨x,s',hx,hq,_,hh⟩:=hp;have a6:∀k as,il s' fn.results.toList=some (k,as)->((as≠[]/\yF as=true)/\k=s/\as=es)->_:=λk as a4 he=>dw (fn:=fn) hh (by rw[du a4 he.1.1 he.1.2,he.2.1,he.2.2])
 cases x with
 |normal=>
  have hx:e= .normal:=hx;subst hx;simp only at hq;split at hq
  .rename_i k as a4;exact a6 k as a4 hq
  .exact hq.elim
 |ret=>
  have hx:e= .ret:=hx;subst hx;simp only at hq;split at hq
  .rename_i k as a4;exact a6 k as a4 hq
  .exact hq.elim
 |exit i=>exact hq.elim
def VQ (own:List A->Option (Nat×List (List D))) (dst:Option Nat) (vs:List V) (ob:List Obj):R:=
 match dst with
 |none=> .fail
 |some d=>match qD ob d,yx ob vs with
  |true,some (as,us)=>match own as with
   |some (s,es)=> .ok (.arr d) (us++[(d,.arr s es false)])
   |none=> .fail
  |_,_=> .fail
variable {B:Bd}{F0:Nat->Prop}{w0:World}{F:Nat->Prop}{loc:Where}{st:St}{a:Act}{w:World}
theorem Conc.adoptNew{dst:Option Nat}{d s b c:Nat}{es:List (List D)}{cs:Array Value}{t:TypeId}{w':World}(h:Conc C B F0 w0 F loc st a w)(hd:qD st.objs d=true)(hbel:Below w.heap.size w w')(hb1:w.heap.size<=b)(hb2:b<w'.heap.size)(hblk:w'.heap[b]? =some (.cells cs t (0,0)))(hsz:cs.size=c*s)(hlc:es.length<=c/\c<=9223372036854775807)(hroom:roomS s es.length)(hs0:0<s)(hlen:∀e∈es,e.length=s)(ht:C.P.cellsOf t=s)(hcd:∀j,j<es.length*s->∃v,cs[j]? =some v/\∀(w:World) (F:Nat->Prop),CD w F (nth .undef es.flatten j) v):
 Conc C B F0 w0 F (at_ loc d (b,c) t) (st.put dst (.arr d) [(d,.arr s es false)]) (a.put dst (.slice (some ⟨b,0,none⟩) es.length c)) w':=by
 obtain⟨a3,a4⟩:=qR hd;have hw:∀b,F b->w'.heap[b]? =w.heap[b]? :=λb hb=>hbel.block b (h.bound b hb)
 have a8:=hbel.size;have a7:Le st.objs (upd st.objs d (.arr s es false)) loc (at_ loc d (b,c) t):=by
  refine⟨rfl,λk hk=>by
   have:k≠d:=λe=>by subst e;exact absurd a3 hk
   simp[at_,this],λk hk=>?_,λk o' hk hc hbx=>?_,λk s a5 a6 hk hc=>?_⟩
  .by_cases hkd:d=k
   .subst hkd;exact absurd a3 hk
   .rw[qb _ _ _ hkd];exact hk
  .by_cases hkd:d=k
   .subst hkd;exact absurd a3 hk
   .rw[qb _ _ _ hkd]at hc;exact⟨by rw[hc];exact hbx,by simp[at_,W4 hkd]⟩
  .by_cases hkd:d=k
   .subst hkd;exact absurd a3 hk
   .rw[qb _ _ _ hkd]at hc;exact⟨⟨_,_,hc,rfl⟩,by simp[at_,W4 hkd]⟩
 refine h.step (up:=[(d,.arr s es false)]) (λ_ h=>h) hw a7 (h.below.trans (.of hbel h.hB)) (by have:=h.hB;omega) (λk=>?_) ?_ ?_ (λb hb=>by have:=h.bound b hb;omega) h.fsub ?_ ?_
 .show CO _ (upd st.objs d (.arr s es false)) _ _ _ (nth .none (upd st.objs d (.arr s es false)) k);by_cases hk:d=k
  .subst hk;rw[qc _ _ _ a4];refine⟨hroom,hs0,hlen,.inr ⟨b,c,cs,t,by simp[at_],λhF=>?_,hblk,hsz,hlc,λj hj=>?_,?_,by simp[at_]⟩⟩
   .have:=h.bound b hF;omega
   .obtain⟨v,q1,q2⟩:=hcd j hj;exact⟨v,q1,q2 _ _⟩
   .show loc.P.cellsOf t=s;rw[h.prog];exact ht
  .rw[qb _ _ _ hk];refine CO.le (λ_ h=>h) hw a7 (by simp[at_,W4 hk]) (by simp[at_,W4 hk]) (λb c hb=>⟨hbel.block b (h.fresh _ _ _ hb).2,λh=>h⟩) (h.objs k)
 .intro k k' b' c1 c2 h1 h2;have hf:=h.fresh;simp only[at_]at h1 h2;split at h1<;>split at h2
  .rw[‹k=d›,‹k'=d›]
  .simp only[aE,ba]at h1;have:=hf _ _ _ h2;omega
  .simp only[aE,ba]at h2;have:=hf _ _ _ h1;omega
  .exact h.inj _ _ _ _ _ h1 h2
 .intro k b' c1 h1;simp only[at_]at h1;split at h1
  .simp only[aE,ba]at h1;have:=h.hB;exact⟨.inl (by omega),by omega⟩
  .have:=h.fresh _ _ _ h1;exact⟨this.1,by omega⟩
 .intro s' a5 a6 hc;have hc:nth .none (upd st.objs d (.arr s es false)) d= .arr s' a5 a6:=hc;rw[qc _ _ _ a4]at hc;simp only[Hy]at hc;obtain⟨rfl,rfl,rfl⟩:=hc;exact .inl ⟨b,c,by simp[at_],rfl⟩
 .show nth .none (upd st.objs d (.arr s es false)) d≠ .none;rw[qc _ _ _ a4];simp
theorem Bp{f:Nat}{fn:Func}{own:List A->Option (Nat×List (List D))}(hf:C.P.funcs[f]? =some fn)(hb:fn.body≠none)(hn:fn.name≠ "runtime.NumGoroutine")(h:∀as s es,own as=some (s,es)->wB C f as s es):EffAt C f (VQ own):=by
 refine⟨λ{B F0 w0 F loc st a w dst args ts ty pos after g} hc=>?_,λdst vs ob ob' hh hd=>?_,λdst vs ob hv _=>?_⟩
 .unfold VQ;split
  .trivial
  .rename_i d;split
   .rename_i as us hd ag;split
    .rename_i s es ad;obtain⟨a6,a7⟩:=QJ hc ag (vP hc args.toList);obtain⟨F',a9,hF',hb'⟩:=hc.freezes a6 st.dirty;have a5:=a7 F' hF' hb';have a4:(args.toList.map a.eval).toArray=args.map a.eval:=by apply B0;simp
     intro next Q hnx
     have a3:=h as s es ad w F' (args.toList.map a.eval) a9.bound a9.inv a5;rw[a4]at a3;refine kK hf hb hn a3 λe w' he=>?_
     obtain⟨a8,b,c,cs,t,rfl,h1,h2,h3,h4,h5,h6,h7,h8,h9,h10⟩:=he;refine⟨_,rfl,hnx _ _ ⟨F',at_ loc d (b,c) t,?_⟩⟩;have h11:=a9.adoptNew (dst:=some d) (kc a6 hd) a8 h1 h2 h3 h4 h5 h6 h7 h8 h9 h10;have:upds st.objs (us++[(d,.arr s es false)])=upds (upds st.objs us) [(d,.arr s es false)]:=zI _ _ _;have hst:(st.put (some d) (.arr d) (us++[(d,.arr s es false)])).objs=upds (upds st.objs us) [(d,.arr s es false)]:=this;have h12:=h11.redirty (dt:=(st.put (some d) (.arr d) (us++[(d,.arr s es false)])).dirty);have e:(st.put (some d) (.arr d) (us++[(d,.arr s es false)]))=⟨upd st.tmps d (.arr d),upds (upds st.objs us) [(d,.arr s es false)],(st.put (some d) (.arr d) (us++[(d,.arr s es false)])).dirty⟩:=by rw[<-hst];rfl
     rw[e];exact h12
    .trivial
   .trivial
 .unfold VQ;cases dst with
  |none=>rfl
  |some d=>
   have h1:yx ob vs=yx ob' vs:=wa (c:=2) λv hv k hk=> .inl (hh k (by
    rw[qE];exact⟨k,J4.2 ⟨v,hv,hk⟩,.inl rfl⟩))
   simp only[h1];rw[hd d (.inl rfl)]
 .unfold VQ;split
  .trivial
  .rename_i d;split
   .rename_i as us hd ag;split
    .rename_i s es _;have a6:=vR ag;refine⟨λp hp=>?_,λk hk=>?_⟩
     .rcases J5.1 hp with hp|hp
      .obtain⟨⟨v,hv1,hv2⟩,s',es',fz,h1,h2⟩:=a6 p hp;refine⟨.inr ⟨?_,by rw[h1];simp⟩,by rw[h2];simp,λu hu=>by rw[h2]at hu;simp[qZ]at hu⟩;rw[qE];exact⟨p.1,J4.2 ⟨v,hv1,hv2⟩,.inl rfl⟩
      .simp only[J3]at hp;subst hp;exact⟨.inl ⟨.inl rfl,hd⟩,by simp,λu hu=>by simp[qZ]at hu⟩
     .simp only[qn,J3]at hk;subst hk;exact .inr ⟨hd,_,Lr _ (J3.2 rfl)⟩
    .trivial
   .trivial
end
end Eng
end
section
namespace Eng
open Go Go.RowKit
structure LentOk (P:Program) (w:World) (F:Nat->Prop) (g c:Nat) (cs:Array Value) (t:TypeId) (s:Nat) (es:List (List D)):Prop where
 nF:¬F g
 lt:g<w.heap.size
 blk:w.heap[g]? =some (.cells cs t (0,0))
 sz:cs.size=c*s
 lc:es.length<=c/\c<=9223372036854775807
 room:Eng.roomS s es.length
 s0:0<s
 lens:∀e∈es,e.length=s
 ct:P.cellsOf t=s
 cd:∀j,j<es.length*s->∃v,cs[j]? =some v/\CD w F (nth .undef es.flatten j) v
def Uh (g c:Nat):Option (Nat×List (List D))->List Value
 |none=>[]
 |some (_,es)=>[.slice (some ⟨g,0,none⟩) es.length c]
def F9 (g:Nat):Option (Nat×List (List D))->Nat->Prop
 |none,_=>False
 |some _,b=>b=g
def wC (C:Cx) (f:Nat) (pre:List A) (lent:Option (Nat×List (List D))) (post:List A) (s:Nat) (es:List (List D)):Prop:=
 ∀(w:World) (F:Nat->Prop) (vs1 vs2:List Value) (g c0:Nat) (cs0:Array Value) (t0:TypeId),(∀b,F b->b<w.heap.size)->Inv C F w->All2 (CA w F) pre vs1->All2 (CA w F) post vs2->
  (∀s0 es0,lent=some (s0,es0)->LentOk C.P w F g c0 cs0 t0 s0 es0)->
  Calls C.P f (vs1++(Uh g c0 lent++vs2)).toArray w λe w'=>BelowX ⟨w.heap.size,F9 g lent⟩ w w'/\
   ∃(F':Nat->Prop) (b c:Nat) (cs:Array Value) (t:TypeId),e= .returned (.slice (some ⟨b,0,none⟩) es.length c)/\(∀x,F x->F' x)/\(∀x,F' x->x<w'.heap.size/\(F x\/Own ⟨w.heap.size,F9 g lent⟩ x))/\
    Own ⟨w.heap.size,F9 g lent⟩ b/\LentOk C.P w' F' b c cs t s es
def Bq (n:Nat):Nat:=n+7
def Br (n:Nat) (pre:List A) (lent:Option (Nat×List (List D))) (post:List A):St:=
 match lent with
 |none=>Q7 n (pre++post)
 |some (s,es)=>⟨pre.map cG++(.arr (Bq n)::(post.map cG++J8 (n-(pre.length+(1+post.length))) .any)),upd (J8 (n+8) .none) (Bq n) (.arr s es false),[]⟩
section
variable {C:Cx}
theorem Bs{n:Nat}{pre post:List A}{lent:Option (Nat×List (List D))}{vs1 vs2:List Value}{w:World}{F:Nat->Prop}{g c0:Nat}{cs0:Array Value}{t0:TypeId}(hb:∀b,F b->b<w.heap.size)(hinv:Inv C F w)(h1:All2 (CA w F) pre vs1)(h2:All2 (CA w F) post vs2)(hl:∀s0 es0,lent=some (s0,es0)->LentOk C.P w F g c0 cs0 t0 s0 es0):
 St.has C ⟨w.heap.size,F9 g lent⟩ F w (Br n pre lent post) {tmps:=(vs1++(Uh g c0 lent++vs2)).toArray++Array.replicate (n-(vs1++(Uh g c0 lent++vs2)).toArray.size) undef,defers:=[]} w:=by
 cases lent with
 |none=>have h:=XB (n:=n) hb hinv (All2.append h1 h2);exact h
 |some se=>
  obtain⟨s,es⟩:=se;have hL:=hl s es rfl;have hl1:=h1.length;have hl2:=h2.length;have hkl:Bq n<(J8 (n+8) Obj.none).length:=by simp[Bq]
  have hn:∀k,nth .none (upd (J8 (n+8) Obj.none) (Bq n) (.arr s es false)) k=if k=Bq n then .arr s es false else .none:=λk=>by
   by_cases hk:Bq n=k
   .subst hk;rw[qc _ _ _ hkl,if_pos rfl]
   .rw[qb _ _ _ hk,YU,if_neg (W4 hk)]
  refine⟨F,⟨C.P,λk=>if k=Bq n then some (g,c0)else none,λ_=>t0⟩,⟨rfl,BelowX.refl _ _,W3 _,rfl,?_,λv hv=>?_,λk=>?_,?_,?_,hb,λb h=> .inl h,λ_ h=>h,hinv⟩⟩
  .simp only[Br,Uh,Array.toList_append,Array.toList_replicate,P1,Lv,List.cons_append,List.nil_append];refine XA (KP h1) ⟨?_,XA (KP h2) ?_⟩
   .intro s' es' fz' hc;rw[hn,if_pos rfl]at hc;simp only[Hy]at hc;obtain⟨rfl,rfl,rfl⟩:=hc;exact .inl ⟨g,c0,by simp,rfl⟩
   .have e:(vs1++I3 (some ⟨g,0,none⟩) es.length c0::vs2).length=pre.length+(1+post.length):=by simp only[No,List.length_cons];omega
    rw[e];exact JJ trivial _
  .simp only[Br,J5,M2,Ts,List.mem_replicate]at hv;rcases hv with⟨x,_,rfl⟩|rfl|⟨x,_,rfl⟩|⟨_,rfl⟩
   .exact JI x
   .intro hc;have hc:nth Obj.none (upd (J8 (n+8) Obj.none) (Bq n) (.arr s es false)) (Bq n)=Obj.none:=hc;rw[hn,if_pos rfl]at hc;simp at hc
   .exact JI x
   .trivial
  .simp only[Br];rw[hn];split
   .rename_i e;exact⟨hL.room,hL.s0,hL.lens,.inr ⟨g,c0,cs0,t0,by simp[e],hL.nF,hL.blk,hL.sz,hL.lc,hL.cd,hL.ct,rfl⟩⟩
   .rename_i e;show(if k=Bq n then some (g,c0)else none)=none;rw[if_neg e]
  .intro k k' b c c' q1 q2;simp only at q1 q2;split at q1
   .split at q2
    .rename_i e1 e2;rw[e1,e2]
    .simp at q2
   .simp at q1
  .intro k b c q1;simp only at q1;split at q1
   .simp only[aE,ba]at q1;obtain⟨rfl,rfl⟩:=q1;exact⟨.inr rfl,hL.lt⟩
   .simp at q1
def ow (st:St) (rs:List ResultVar):Option (Nat×List (List D)):=
 match rs with
 |[.tmp t]=>match nth .any st.tmps t with
  | .arr k=>match nth .none st.objs k with
   | .arr s es false=>some (s,es)
   |_=>none
  | .sub k 0 n=>match nth .none st.objs k with
   | .arr s es false=>some (s,es.take n)
   |_=>none
  |_=>none
 |_=>none
theorem FA{fn:Func}{w:World}{B:Bd}{F:Nat->Prop}{s':St}{a':Act}{w':World}{s:Nat}{es:List (List D)}(hh:St.has C B F w s' a' w')(has:ow s' fn.results.toList=some (s,es))(hne:es≠[]):
 a'.defers=[]/\∃v,(results fn a'.tmps).run C.P w'= .ok v w'/\BelowX B w w'/\∃(F':Nat->Prop) (b c:Nat) (cs:Array Value) (t:TypeId),Ending.returned v= .returned (.slice (some ⟨b,0,none⟩) es.length c)/\(∀x,F x->F' x)/\(∀x,F' x->x<w'.heap.size/\(F x\/Own B x))/\
  Own B b/\LentOk C.P w' F' b c cs t s es:=by
 obtain⟨F',loc',h⟩:=hh;have a7:∀(t:Nat) (x:Value),fn.results.toList=[.tmp t]->nth undef a'.tmps.toList t=x->(results fn a'.tmps).run C.P w'= .ok x w':=λt x ad hx=>by
  have hr:fn.results= #[.tmp t]:=by apply B0;simpa using ad
  unfold results;rw[hr];have hv':a'.tmps[t]?.getD undef=x:=by rw[<-hx,qF];simp
  simp[hv']
 unfold ow at has;split at has
 .rename_i t ad;have hx:=(wP h t).1;simp only[Act.eval]at hx;have ap:∀x,a'.tmps.getD t undef=x->nth undef a'.tmps.toList t=x:=λx e=>by rw[<-e,qF];simp
  split at has
  .rename_i k hk;split at has
   .rename_i s0 a4 a9;simp only[aE,ba]at has;obtain⟨rfl,rfl⟩:=has;rw[hk]at hx;have a5:=h.objs k;rw[a9]at a5;obtain⟨a3,an,a6,a5⟩:=a5;rcases hx _ _ _ a9 with⟨b,c,hl,hv⟩|⟨_,h0,_⟩
    .rcases a5 with⟨h4,_⟩|⟨b',c',cs,t',h4,h5,h6,h7,h8,h9,ag,h11⟩
     .rw[h4]at hl;simp at hl
     .rw[h4]at hl;simp only[aE,ba]at hl;obtain⟨rfl,rfl⟩:=hl;have a8:=h.fresh _ _ _ h4;refine⟨h.defers,_,a7 t _ ad (ap _ (by simpa using hv)),h.below,F',b',c',cs,t',rfl,h.fsup,λx hx=>⟨h.bound x hx,h.fsub x hx⟩,a8.1,⟨by simpa using h5,a8.2,h6,h7,h8,a3,an,a6,by rw[<-h.prog];exact ag,h9⟩⟩
    .exact absurd h0 hne
   .simp at has
  .rename_i k n hk;split at has
   .rename_i s0 a4 a9;simp only[aE,ba]at has;obtain⟨rfl,rfl⟩:=has;rw[hk]at hx;have a5:=h.objs k;rw[a9]at a5;obtain⟨a3,an,a6,a5⟩:=a5;obtain⟨b,c,hl,hnl,hv⟩:=(hx _ _ _ a9).resolve_right (by
     rintro(⟨_,_,h0,_⟩|⟨_,h0,_⟩)
     .rw[h0]at hne;simp at hne
     .omega)
    rcases a5 with⟨h4,_⟩|⟨b',c',cs,t',h4,h5,h6,h7,h8,h9,ag,h11⟩
    .rw[h4]at hl;simp at hl
    .rw[h4]at hl;simp only[aE,ba]at hl;obtain⟨rfl,rfl⟩:=hl;have a8:=h.fresh _ _ _ h4;have al:(a4.take n).length=n:=by rw[Lm];omega
     refine⟨h.defers,_,a7 t _ ad (ap _ (by simpa using hv)),h.below,F',b',c',cs,t',by rw[al],h.fsup,λx hx=>⟨h.bound x hx,h.fsub x hx⟩,a8.1,
      ⟨by simpa using h5,a8.2,h6,h7,by omega,a3.le (by omega),an,λe he=>a6 e (Ls he),by rw[<-h.prog];exact ag,λj hj=>?_⟩⟩
     rw[al]at hj;have hj2:j<a4.length*s0:=U3 hj (Nat.mul_le_mul_right s0 (by omega));obtain⟨v,r1,r2⟩:=h9 j hj2;refine⟨v,r1,?_⟩;have hfl:(a4.take n).flatten.length=n*s0:=by rw[qk (λe' he'=>a6 e' (Ls he')),al]
     have hsp:a4.flatten=(a4.take n).flatten++(a4.drop n).flatten:=by rw[<-List.flatten_append,List.take_append_drop]
     have:nth .undef (a4.take n).flatten j=nth .undef a4.flatten j:=by rw[hsp,qF,qF,J9 (by omega)]
     rw[this];exact r2
   .simp at has
  .simp at has
 .simp at has
def dz (C:Cx) (Gv:Nat->List A->List A->Prop) (anns:Nat->Ann) (fn:Func) (pre:List A) (lent:Option (Nat×List (List D))) (post:List A) (Q:Nat->List (List D)->Prop):Prop:=
 match fn.body with
 |none=>False
 |some c=>wpC C Gv anns 0 c (λe s=>match e with
  | .normal| .ret=>match ow s fn.results.toList with
   |some (k,es)=>es≠[]/\Q k es
   |none=>False
  | .exit _=>False) (Br fn.ntmps pre lent post)
theorem KW[EffOk C]{anns:Nat->Ann}{f:Nat}{fn:Func}{pre post:List A}{lent:Option (Nat×List (List D))}{s:Nat}{es:List (List D)}(hm:C.P.follows .mixedOrders=true)(hf:C.P.funcs[f]? =some fn)(h:dz C (qa C) anns fn pre lent post (λk r=>k=s/\r=es)):wC C f pre lent post s es:=by
 intro w F vs1 vs2 g c0 cs0 t0 hb a4 h1 h2 hl;unfold dz at h;split at h
 .exact h.elim
 rename_i c hc;refine calls_of_wp hf hc ?_;refine Code.wp_mono (λe a' w' hp=>?_) (Bf hm c 0 _ _ _ _ h (Bs hb a4 h1 h2 hl));obtain⟨x,s',hx,hq,_,hh⟩:=hp;have a5:∀k as,ow s' fn.results.toList=some (k,as)->(as≠[]/\k=s/\as=es)->_:=λk as a3 he=>FA (fn:=fn) hh (by rw[a3,he.2.1,he.2.2]) (he.2.2▸he.1)
 cases x with
 |normal=>
  have hx:e= .normal:=hx;subst hx;simp only at hq;split at hq
  .rename_i k as a3;exact a5 k as a3 hq
  .exact hq.elim
 |ret=>
  have hx:e= .ret:=hx;subst hx;simp only at hq;split at hq
  .rename_i k as a3;exact a5 k as a3 hq
  .exact hq.elim
 |exit i=>exact hq.elim
variable {B:Bd}{F0:Nat->Prop}{w0:World}{F:Nat->Prop}{loc:Where}{st:St}{a:Act}{w:World}
theorem Conc.adoptC{dst:Option Nat}{d s b c:Nat}{es:List (List D)}{cs:Array Value}{t:TypeId}{w':World}{F' X:Nat->Prop}{dead:List (Nat×Obj)}(h:Conc C B F0 w0 F loc st a w)(hd:qD st.objs d=true)(hdead:∀p∈dead,p.2= .dead/\p.1<st.objs.length/\nth .none st.objs p.1≠ .none)(hX:∀x,X x->¬F x/\∃p∈dead,∃c,loc p.1=some (x,c))(hbel:BelowX ⟨w.heap.size,X⟩ w w')(hF1:∀x,F x->F' x)(hF2:∀x,F' x->x<w'.heap.size/\(F x\/Own ⟨w.heap.size,X⟩ x))(hb1:Own ⟨w.heap.size,X⟩ b)(hL:LentOk C.P w' F' b c cs t s es):
 St.has C B F0 w0 (st.put dst (.arr d) (dead++[(d,.arr s es false)])) (a.put dst (.slice (some ⟨b,0,none⟩) es.length c)) w':=by
 obtain⟨a3,hlt⟩:=qR hd;have a8:=hbel.size;have hnd:=λk=>vQ dead st.objs k λp hp=>⟨(hdead p hp).1,(hdead p hp).2.1⟩
 have hdd:¬∃p∈dead,p.1=d:=λ⟨p,hp,e⟩=>(hdead p hp).2.2 (by rw[e];exact a3)
 have hn:∀k,nth .none (upds st.objs (dead++[(d,.arr s es false)])) k=if k=d then .arr s es false else if(∃p∈dead,p.1=k)then .dead else nth .none st.objs k:=λk=>by
  rw[zI];show nth .none (upd (upds st.objs dead) d (.arr s es false)) k=_;by_cases hk:d=k
  .subst hk;rw[qc _ _ _ (by rw[vS];exact hlt),if_pos rfl]
  .rw[qb _ _ _ hk,if_neg (W4 hk),hnd]
 have a5:∀x,Own ⟨w.heap.size,X⟩ x->Own B x:=λx hx=>by
  rcases hx with hx|hx
  .exact .inl (W1 h.hB hx)
  .obtain⟨_,p,_,c,hl⟩:=hX x hx;exact(h.fresh _ _ _ hl).1
 have a9:∀x,F x->w'.heap[x]? =w.heap[x]? :=λx hx=>hbel.block x (h.bound x hx) λhX'=>(hX x hX').1 hx
 open Classical in
 let loc':Where:=⟨loc.P,λk=>if k=d then some (b,c)else if(∃p∈dead,p.1=k)then none else loc k,λk=>if k=d then t else loc.ty k⟩
 have a6:∀k x y,loc' k=some (x,y)->(k=d/\x=b/\y=c)\/(k≠d/\(¬∃p∈dead,p.1=k)/\loc k=some (x,y)):=λk x y hl=>by
  simp only[loc']at hl;split at hl
  .simp only[aE,ba]at hl;exact .inl ⟨‹_›,hl.1.symm,hl.2.symm⟩
  .split at hl
   .simp at hl
   .exact .inr ⟨‹_›,‹_›,hl⟩
 have a4:∀k x y,(¬∃p∈dead,p.1=k)->loc k=some (x,y)->¬X x:=λk x y hk hl hx=>by obtain⟨_,p,hp,c',hl2⟩:=hX x hx;exact hk ⟨p,hp,h.inj _ _ _ _ _ hl2 hl⟩
 have a7:Le st.objs (upds st.objs (dead++[(d,.arr s es false)])) loc loc':=by
  refine⟨rfl,λk hk=>by
   have:k≠d:=λe=>by subst e;exact absurd a3 hk
   simp[loc',this],λk hk=>?_,λk o' hk hc hbx=>?_,λk s' es' fz' hk hc=>?_⟩
  .have:k≠d:=λe=>by subst e;exact absurd a3 hk
   rw[hn,if_neg this];split
   .simp
   .exact hk
  .have:k≠d:=λe=>by subst e;exact absurd a3 hk
   rw[hn,if_neg this]at hc;split at hc
   .rw[<-hc]at hbx;simp[kl]at hbx
   .rename_i e;exact⟨by rw[hc];exact hbx,by simp only[loc'];rw[if_neg this,if_neg e]⟩
  .have:k≠d:=λe=>by subst e;exact absurd a3 hk
   rw[hn,if_neg this]at hc;split at hc
   .simp at hc
   .rename_i e;exact⟨⟨_,_,hc,rfl⟩,by simp only[loc'];rw[if_neg this,if_neg e]⟩
 have hbw:BelowX B w w':=⟨hbel.os,hbel.tape,hbel.output,hbel.size,λj hj hjX=>hbel.block j (U3 hj h.hB) λhx=>by
  rcases a5 j (.inr hx)with h1|h1
  .omega
  .exact hjX h1⟩
 refine⟨F',loc',h.step hF1 a9 a7 (h.below.trans hbw) (by have:=h.hB;omega) (λk=>?_) ?_ ?_ (λx hx=>(hF2 x hx).1) (λx hx=>?_) ?_ ?_⟩
 .rw[hn];split
  .rename_i e;exact⟨hL.room,hL.s0,hL.lens,.inr ⟨b,c,cs,t,by simp[loc',e],hL.nF,hL.blk,hL.sz,hL.lc,hL.cd,by show loc.P.cellsOf t=s;rw[h.prog];exact hL.ct,by simp[loc',e]⟩⟩
  .rename_i e1;split
   .rename_i e2;show loc' k=none;simp only[loc'];rw[if_neg e1,if_pos e2]
   .rename_i e2;refine CO.le hF1 a9 a7 (by simp only[loc'];rw[if_neg e1,if_neg e2]) (by simp only[loc'];rw[if_neg e1]) (λx y hl=>?_) (h.objs k);have hf:=(h.fresh _ _ _ hl).2;have hx:=a4 _ _ _ e2 hl;refine⟨hbel.block x hf hx,λhnF hF'=>?_⟩;rcases(hF2 x hF').2 with h1|h1|h1
    .exact hnF h1
    .have h1:w.heap.size<=x:=h1;omega
    .exact hx h1
 .intro k k' x y y' q1 q2;rcases a6 _ _ _ q1 with⟨r1,r2,r3⟩|⟨r1,r2,r3⟩<;>rcases a6 _ _ _ q2 with⟨u1,u2,u3⟩|⟨u1,u2,u3⟩
  .rw[r1,u1]
  .subst r2;exfalso;rcases hb1 with hb1|hb1
   .have hb1:w.heap.size<=x:=hb1;have:=(h.fresh _ _ _ u3).2;omega
   .exact a4 _ _ _ u2 u3 hb1
  .subst u2;exfalso;rcases hb1 with hb1|hb1
   .have hb1:w.heap.size<=x:=hb1;have:=(h.fresh _ _ _ r3).2;omega
   .exact a4 _ _ _ r2 r3 hb1
  .exact h.inj _ _ _ _ _ r3 u3
 .intro k x y q1;rcases a6 _ _ _ q1 with⟨r1,r2,r3⟩|⟨r1,r2,r3⟩
  .subst r2;exact⟨a5 _ hb1,hL.lt⟩
  .have:=h.fresh _ _ _ r3;exact⟨this.1,by omega⟩
 .rcases(hF2 x hx).2 with h1|h1
  .exact h.fsub x h1
  .exact .inr (a5 x h1)
 .intro s' es' fz' hc;rw[hn,if_pos rfl]at hc;simp only[Hy]at hc;obtain⟨rfl,rfl,rfl⟩:=hc;exact .inl ⟨b,c,by simp[loc'],rfl⟩
 .show nth .none (upds st.objs _) d≠ .none;rw[hn,if_pos rfl];simp
end
end Eng
end
section
namespace Eng
open Go Go.RowKit
def XE (chk:List A->Bool) (s:Nat) (mk:List A->List (List D)) (dst:Option Nat) (vs:List V) (ob:List Obj):R:=
 match dst with
 |none=> .fail
 |some d=>match qD ob d,yx ob vs with
  |true,some (al,us)=> .cond (chk al=true) (.arr d) (us++[(d,.arr s (mk al) false)])
  |_,_=> .fail
def L9:List (Nat×Obj)->List Nat
 |[]=>[]
 |p::r=>p.1::L9 r
def KX (s:Nat) (chk:List (List D)->List A->Bool) (mk:List (List D)->List A->List (List D)) (dst:Option Nat) (vs:List V) (ob:List Obj):R:=
 match dst with
 |none=> .fail
 |some d=>match vs with
  | .arr k::r=>match qD ob d,nth .none ob k,yx ob r with
   |true,.arr s0 es false,some (al,us)=>match W2 s0 s&&!V6 k (L9 us)with
    |true=> .cond (chk es al=true) (.arr d) (us++[(k,.dead),(d,.arr s (mk es al) false)])
    |false=> .fail
   |_,_,_=> .fail
  |_=> .fail
theorem XF{k:Nat}:∀{us:List (Nat×Obj)},k∈L9 us↔∃p∈us,p.1=k
 |[]=>by simp[L9]
 |p::r=>by
  simp only[L9,M2];rw[XF];constructor
  .rintro(rfl|⟨q,hq,rfl⟩)
   .exact⟨p,.inl rfl,rfl⟩
   .exact⟨q,.inr hq,rfl⟩
  .rintro⟨q,rfl|hq,rfl⟩
   .exact .inl rfl
   .exact .inr ⟨q,hq,rfl⟩
section
variable {C:Cx}
theorem JK{f s:Nat}{fn:Func}{chk:List A->Bool}{mk:List A->List (List D)}(hf:C.P.funcs[f]? =some fn)(hb:fn.body≠none)(hn:fn.name≠ "runtime.NumGoroutine")(hmk:∀al,chk al=true->mk al≠[]/\wC C f al none [] s (mk al)):EffAt C f (XE chk s mk):=by
 refine⟨λ{B F0 w0 F loc st a w dst args ts ty pos after g} hc=>?_,λdst vs ob ob' hh hd=>?_,λdst vs ob hv _=>?_⟩
 .unfold XE;split
  .trivial
  .rename_i d;split
   .rename_i al us hd ad;obtain⟨a6,a7⟩:=QJ hc ad (vP hc args.toList);obtain⟨F',a9,hF',hb'⟩:=hc.freezes a6 st.dirty;have a5:=a7 F' hF' hb';intro hck next Q hnx
    obtain⟨hne,hG⟩:=hmk al hck;have a3:=hG w F' (args.toList.map a.eval) [] 0 0 #[] 0 a9.bound a9.inv a5 trivial (λs0 es0 h=>by simp at h);have a4:(args.toList.map a.eval++(Uh 0 0 none++[])).toArray=args.map a.eval:=by apply B0;simp[Uh]
    rw[a4]at a3;refine kK hf hb hn a3 λe w' he=>?_
    obtain⟨a8,F2,b,c,cs,t,rfl,h1,h2,h3,h4⟩:=he;refine⟨_,rfl,hnx _ _ ?_⟩;have h5:=a9.adoptC (dst:=some d) (d:=d) (dead:=[]) (kc a6 hd) (λp hp=>by simp at hp) (λx hx=>hx.elim) a8 h1 h2 h3 h4;refine xE h5 rfl ?_;show upds (upds st.objs us) ([]++[(d,.arr s (mk al) false)])=upds st.objs (us++[(d,.arr s (mk al) false)]);rw[zI us];rfl
   .trivial
 .unfold XE;cases dst with
  |none=>rfl
  |some d=>
   have h1:yx ob vs=yx ob' vs:=wa (c:=2) λv hv k hk=> .inl (hh k (by
    rw[qE];exact⟨k,J4.2 ⟨v,hv,hk⟩,.inl rfl⟩))
   simp only[h1];rw[hd d (.inl rfl)]
 .unfold XE;split
  .trivial
  .rename_i d;split
   .rename_i al us hd ad;have a6:=vR ad;refine⟨λp hp=>?_,λk hk=>?_⟩
    .rcases J5.1 hp with hp|hp
     .obtain⟨⟨v,hv1,hv2⟩,s',es',fz,h1,h2⟩:=a6 p hp;refine⟨.inr ⟨?_,by rw[h1];simp⟩,by rw[h2];simp,λu hu=>by rw[h2]at hu;simp[qZ]at hu⟩;rw[qE];exact⟨p.1,J4.2 ⟨v,hv1,hv2⟩,.inl rfl⟩
     .simp only[J3]at hp;subst hp;exact⟨.inl ⟨.inl rfl,hd⟩,by simp,λu hu=>by simp[qZ]at hu⟩
    .simp only[qn,J3]at hk;subst hk;exact .inr ⟨hd,_,Lr _ (J3.2 rfl)⟩
   .trivial
theorem Ga{f s:Nat}{fn:Func}{chk:List (List D)->List A->Bool}{mk:List (List D)->List A->List (List D)}(hf:C.P.funcs[f]? =some fn)(hb:fn.body≠none)(hn:fn.name≠ "runtime.NumGoroutine")(hmk:∀es al,chk es al=true->es≠[]/\wC C f [] (some (s,es)) al s (mk es al)):EffAt C f (KX s chk mk):=by
 refine⟨λ{B F0 w0 F loc st a w dst args ts ty pos after g} hc=>?_,λdst vs ob ob' hh hd=>?_,λdst vs ob hv _=>?_⟩
 .unfold KX;split
  .trivial
  .rename_i d;split
   .rename_i k r a7;split
    .rename_i s0 es al us hd hk b2;split
     .rename_i a9;simp only[Hv,Hx]at a9;obtain rfl:=V1 a9.1;have hku:¬∃p∈us,p.1=k:=λh=>by have:=zq.2 (XF.2 h);rw[this]at a9;simp at a9
      intro hck next Q hnx
      obtain⟨hne,hG⟩:=hmk es al hck;obtain⟨x0,xs,b4⟩:∃x0 xs,args.toList=x0::xs:=by
       cases h:args.toList with
       |nil=>rw[h]at a7;simp at a7
       |cons x0 xs=>exact⟨x0,xs,rfl⟩
      rw[b4]at a7;simp only[J7,U0]at a7;obtain⟨hx0,rfl⟩:=a7;obtain⟨a8,ad⟩:=QJ hc b2 (vP hc xs);obtain⟨F',a6,hF',hb'⟩:=hc.freezes a8 st.dirty;have a5:=ad F' hF' hb';have b3:=(xg hc x0).1;rw[hx0]at b3;have ap:nth .none (upds st.objs us) k= .arr s0 es false:=by rw[jg _ _ λp hp e=>hku ⟨p,hp,e⟩];exact hk
      have an:=a6.objs k;simp only at an;rw[ap]at an;obtain⟨q1,q2,q3,q4⟩:=an;rcases q4 with⟨_,q5⟩|⟨gb,c0,cs0,t0,q5,q6,q7,q8,q9,q10,q11,q12⟩
      .exact absurd q5 hne
      .rcases b3 _ _ _ hk with⟨b1,c1,r1,r2⟩|⟨r1,_⟩
       .rw[q5]at r1;simp only[aE,ba]at r1;obtain⟨rfl,rfl⟩:=r1;have a3:=hG w F' [] (xs.map a.eval) gb c0 cs0 t0 a6.bound a6.inv trivial a5 (λs1 es1 he=>by
         simp only[aE,ba]at he;obtain⟨rfl,rfl⟩:=he;exact⟨by simpa using q6,(a6.fresh _ _ _ q5).2,q7,q8,q9,q1,q2,q3,by rw[<-hc.prog];exact q11,q10⟩)
        have a4:([]++(Uh gb c0 (some (s0,es))++xs.map a.eval)).toArray=args.map a.eval:=by apply B0;rw[Dd,b4];simp[Uh,r2]
        rw[a4]at a3;refine kK hf hb hn a3 λe w' he=>?_
        obtain⟨ag,F2,b,c,cs,t,rfl,h1,h2,h3,h4⟩:=he;refine⟨_,rfl,hnx _ _ ?_⟩;have hkl:k<(upds st.objs us).length:=xO (by rw[ap];simp);have h5:=a6.adoptC (dst:=some d) (d:=d) (dead:=[(k,.dead)]) (kc a8 hd) (λp hp=>by
         simp only[J3]at hp;subst hp;exact⟨rfl,hkl,by rw[ap];simp⟩) (λx hx=>by
         have hx:x=gb:=hx;subst hx;exact⟨by simpa using q6,(k,.dead),by simp,c0,q5⟩) ag h1 h2 h3 h4
        refine xE h5 rfl ?_;show upds (upds st.objs us) ([(k,.dead)]++[(d,.arr s0 (mk es al) false)])=upds st.objs (us++[(k,.dead),(d,.arr s0 (mk es al) false)]);rw[zI us];rfl
       .have h6:loc k=some (gb,c0):=q5;rw[h6]at r1;simp at r1
     .trivial
    .trivial
   .trivial
 .unfold KX;cases dst with
  |none=>rfl
  |some d=>
   dsimp only
   cases vs with
   |nil=>rfl
   |cons v r=>
    cases v with
    |arr k=>
     have h0:nth .none ob k=nth .none ob' k:=hh k (by
      rw[qE];exact⟨k,J4.2 ⟨.arr k,by simp,by simp[qn]⟩,.inl rfl⟩)
     have h1:yx ob r=yx ob' r:=wa (c:=2) λv hv k hk=> .inl (hh k (by
      rw[qE];exact⟨k,J4.2 ⟨v,by simp[hv],hk⟩,.inl rfl⟩))
     simp only[h0,h1];rw[hd d (.inl rfl)]
    |_=>rfl
 .unfold KX;split
  .trivial
  .rename_i d;split
   .rename_i k r;split
    .rename_i s0 es al us hd hk b2;split
     .have a8:=vR b2;refine⟨λp hp=>?_,λj hj=>?_⟩
      .rcases J5.1 hp with hp|hp
       .obtain⟨⟨v,hv1,hv2⟩,s',es',fz,h1,h2⟩:=a8 p hp;refine⟨.inr ⟨?_,by rw[h1];simp⟩,by rw[h2];simp,λu hu=>by rw[h2]at hu;simp[qZ]at hu⟩;rw[qE];exact⟨p.1,J4.2 ⟨v,by simp[hv1],hv2⟩,.inl rfl⟩
       .simp only[M2,List.not_mem_nil,or_false]at hp;rcases hp with rfl|rfl
        .refine⟨.inr ⟨?_,by rw[hk];simp⟩,by simp,λu hu=>by simp[qZ]at hu⟩;rw[qE];exact⟨k,J4.2 ⟨.arr k,by simp,by simp[qn]⟩,.inl rfl⟩
        .exact⟨.inl ⟨.inl rfl,hd⟩,by simp,λu hu=>by simp[qZ]at hu⟩
      .simp only[qn,J3]at hj;subst hj;exact .inr ⟨hd,_,Lr _ (List.mem_cons_of_mem _ (J3.2 rfl))⟩
     .trivial
    .trivial
   .trivial
end
end Eng
end
section
namespace Eng
open Go Go.RowKit
def XG (C:Cx) (f:Nat) (s:Nat) (es:List (List D)) (post:List A) (res:List A) (es':List (List D)):Prop:=
 ∀(w:World) (F:Nat->Prop) (vs2:List Value) (g c0:Nat) (cs0:Array Value) (t0:TypeId),(∀b,F b->b<w.heap.size)->Inv C F w->All2 (CA w F) post vs2->LentOk C.P w F g c0 cs0 t0 s es->
  Calls C.P f (.slice (some ⟨g,0,none⟩) es.length c0::vs2).toArray w λe w'=>BelowX ⟨w.heap.size,λb=>b=g⟩ w w'/\
   ∃(F':Nat->Prop) (cs:Array Value) (v:Value),e= .returned v/\(∀x,F x->F' x)/\(∀x,F' x->x<w'.heap.size/\(F x\/Own ⟨w.heap.size,λb=>b=g⟩ x))/\Pz w' F' res v/\LentOk C.P w' F' g c0 cs t0 s es'/\es'.length=es.length
section
variable {C:Cx}
theorem FC{F0:Nat->Prop}{w0:World}{B:Bd}{F:Nat->Prop}{loc:Where}{st:St}{a:Act}{w:World}(h:Conc C B F0 w0 F loc st a w){fn:Func}{as:List A}(hr:Lg C st fn.results.toList=some as)(hfl:∀r∈as,Vr r=true):
 a.defers=[]/\∃v,(results fn a.tmps).run C.P w= .ok v w/\∀F':Nat->Prop,Pz w F' as v:=by
 obtain⟨us,h1,h2⟩:=YT h hr;refine⟨h.defers,if h:us.toArray.size=1 then us.toArray[0]else .tuple us.toArray,?_,λF'=>?_⟩
 .unfold results;rw[Array.mapM_eq_mapM_toList];simp only[Sem.run_bind,map_eq_pure_bind];have h5:∀g:ResultVar->Sem Value,g=ik a.tmps->(fn.results.toList.mapM g).run C.P w= .ok us w:=λg hg=>by rw[hg];exact h1
  rw[h5 _ (by funext r;cases r<;>rfl)];rfl
 .match as,us,h2 with
  |[a],[u],h2=>exact YN h2.1 (hfl _ (by simp))
  |[],[],h2=>exact⟨#[],rfl,trivial⟩
  |a::b::r,u::v::s,h2=>exact⟨(u::v::s).toArray,by simp,h2.mono_mem λr hr v hv=>YN hv (hfl r hr)⟩
variable {B:Bd}{F0:Nat->Prop}{w0:World}{F:Nat->Prop}{loc:Where}{st:St}{a:Act}{w:World}
theorem Conc.turned{dst:Option Nat}{k s g c0:Nat}{es es':List (List D)}{cs:Array Value}{t:TypeId}{w':World}{F':Nat->Prop}{v:V}{x:Value}{us:List (Nat×Obj)}(h:Conc C B F0 w0 F loc st a w)(hk:nth .none st.objs k= .arr s es false)(hl:loc k=some (g,c0))(hnF:¬F g)(htk:loc.ty k=t)(hbel:BelowX ⟨w.heap.size,λb=>b=g⟩ w w')(hF1:∀x,F x->F' x)(hF2:∀x,F' x->x<w'.heap.size/\(F x\/Own ⟨w.heap.size,λb=>b=g⟩ x))(hL:LentOk C.P w' F' g c0 cs t s es')(hlen:es'.length=es.length)(hus:us=[(k,.arr s es' false)])(hv:∀(loc:Where) (objs:List Obj),CV loc objs w' F' v x/\Ref objs v):St.has C B F0 w0 (st.put dst v us) (a.put dst x) w':=by
 subst hus;have hkl:k<st.objs.length:=xO (by rw[hk];simp);have a5:Le st.objs (upd st.objs k (.arr s es' false)) loc loc:=SK hk hlen;have a4:=hbel.size;have a6:∀x,F x->w'.heap[x]? =w.heap[x]? :=λx hx=>hbel.block x (h.bound x hx) λe=>by have e:x=g:=e;exact hnF (e▸hx)
 have hfr:=h.fresh _ _ _ hl;have a3:∀x,Own ⟨w.heap.size,λb=>b=g⟩ x->Own B x:=λx hx=>by
  rcases hx with hx|hx
  .exact .inl (W1 h.hB hx)
  .have hx:x=g:=hx;rw[hx];exact hfr.1
 have hbw:BelowX B w w':=⟨hbel.os,hbel.tape,hbel.output,hbel.size,λj hj hjX=>hbel.block j (U3 hj h.hB) λhx=>by
  rcases a3 j (.inr hx)with h1|h1
  .omega
  .exact hjX h1⟩
 refine⟨F',loc,h.step (up:=[(k,.arr s es' false)]) hF1 a6 a5 (h.below.trans hbw) (by have:=h.hB;omega) (λj=>?_) h.inj (λj x y hj=>⟨(h.fresh _ _ _ hj).1,U3 (h.fresh _ _ _ hj).2 a4⟩) (λx hx=>(hF2 x hx).1) (λx hx=>?_) (hv _ _).1 (hv loc _).2⟩
 .show CO _ (upd st.objs k (.arr s es' false)) _ _ _ (nth .none (upd st.objs k (.arr s es' false)) j);by_cases hkj:k=j
  .subst hkj;rw[qc _ _ _ hkl];exact⟨hL.room,hL.s0,hL.lens,.inr ⟨g,c0,cs,t,hl,hL.nF,hL.blk,hL.sz,hL.lc,hL.cd,by rw[h.prog];exact hL.ct,htk⟩⟩
  .rw[qb _ _ _ hkj];refine CO.le hF1 a6 a5 rfl rfl (λx y hj=>?_) (h.objs j);have hx:x≠g:=λe=>by subst e;exact hkj (h.inj _ _ _ _ _ hl hj)
   refine⟨hbel.block x (h.fresh _ _ _ hj).2 hx,λhnF2 hF'=>?_⟩;rcases(hF2 x hF').2 with h1|h1|h1
   .exact hnF2 h1
   .have h1:w.heap.size<=x:=h1;have:=(h.fresh _ _ _ hj).2;omega
   .exact hx h1
 .rcases(hF2 x hx).2 with h1|h1
  .exact h.fsub x h1
  .exact .inr (a3 x h1)
end
end Eng
end
section
namespace Eng
open Go Go.RowKit
def PI (s:Nat) (chk:List (List D)->List A->Bool) (mk:List (List D)->List A->List (List D)) (res:List (List D)->List A->List A) (_:Option Nat) (vs:List V) (ob:List Obj):R:=
 match vs with
 | .arr k::r=>match nth .none ob k,yx ob r with
  | .arr s0 es false,some (al,us)=>match W2 s0 s&&!V6 k (L9 us)with
   |true=> .cond (chk es al=true) (Ht (res es al)) (us++[(k,.arr s (mk es al) false)])
   |false=> .fail
  |_,_=> .fail
 |_=> .fail
section
variable {C:Cx}
theorem N9{f s:Nat}{fn:Func}{chk:List (List D)->List A->Bool}{mk:List (List D)->List A->List (List D)}{res:List (List D)->List A->List A}(hf:C.P.funcs[f]? =some fn)(hb:fn.body≠none)(hn:fn.name≠ "runtime.NumGoroutine")(hmk:∀es al,chk es al=true->es≠[]/\XG C f s es al (res es al) (mk es al)):EffAt C f (PI s chk mk res):=by
 refine⟨λ{B F0 w0 F loc st a w dst args ts ty pos after g} hc=>?_,λdst vs ob ob' hh hd=>?_,λdst vs ob hv _=>?_⟩
 .unfold PI;split
  .rename_i k r a7;split
   .rename_i s0 es al us hk ap;split
    .rename_i a8;simp only[Hv,Hx]at a8;obtain rfl:=V1 a8.1;have hku:¬∃p∈us,p.1=k:=λh=>by have:=zq.2 (XF.2 h);rw[this]at a8;simp at a8
     intro hck next Q hnx
     obtain⟨hne,hG⟩:=hmk es al hck;obtain⟨x0,xs,b4⟩:∃x0 xs,args.toList=x0::xs:=by
      cases h:args.toList with
      |nil=>rw[h]at a7;simp at a7
      |cons x0 xs=>exact⟨x0,xs,rfl⟩
     rw[b4]at a7;simp only[J7,U0]at a7;obtain⟨hx0,rfl⟩:=a7;obtain⟨an,a9⟩:=QJ hc ap (vP hc xs);obtain⟨F',a6,hF',hb'⟩:=hc.freezes an st.dirty;have a5:=a9 F' hF' hb';have b3:=(xg hc x0).1;rw[hx0]at b3;have b2:nth .none (upds st.objs us) k= .arr s0 es false:=by rw[jg _ _ λp hp e=>hku ⟨p,hp,e⟩];exact hk
     have ag:=a6.objs k;simp only at ag;rw[b2]at ag;obtain⟨q1,q2,q3,q4⟩:=ag;rcases q4 with⟨_,q5⟩|⟨gb,c0,cs0,t0,q5,q6,q7,q8,q9,q10,q11,q12⟩
     .exact absurd q5 hne
     .rcases b3 _ _ _ hk with⟨b1,c1,r1,r2⟩|⟨r1,_⟩
      .rw[q5]at r1;simp only[aE,ba]at r1;obtain⟨rfl,rfl⟩:=r1;have a3:=hG w F' (xs.map a.eval) gb c0 cs0 t0 a6.bound a6.inv a5 ⟨by simpa using q6,(a6.fresh _ _ _ q5).2,q7,q8,q9,q1,q2,q3,by rw[<-hc.prog];exact q11,q10⟩;have a4:(I3 (some ⟨gb,0,none⟩) es.length c0::xs.map a.eval).toArray=args.map a.eval:=by apply B0;rw[Dd,b4];simp[r2]
       rw[a4]at a3;refine kK hf hb hn a3 λe w' he=>?_
       obtain⟨ad,F2,cs,v,rfl,h1,h2,h3,h4,h5⟩:=he;refine⟨_,rfl,hnx _ _ ?_⟩;have h6:=a6.turned (dst:=dst) (k:=k) (es':=mk es al) (v:=Ht (res es al)) (x:=v) b2 q5 (by simpa using q6) q12 ad h1 h2 h4 h5 rfl (λloc objs=>Ns h3);refine xE h6 rfl ?_;show upds (upds st.objs us) [(k,.arr s0 (mk es al) false)]=upds st.objs (us++[(k,.arr s0 (mk es al) false)]);rw[zI us]
      .have h6:loc k=some (gb,c0):=q5;rw[h6]at r1;simp at r1
    .trivial
   .trivial
  .trivial
 .unfold PI;cases vs with
  |nil=>rfl
  |cons v r=>
   cases v with
   |arr k=>
    have h0:nth .none ob k=nth .none ob' k:=hh k (by
     rw[qE];exact⟨k,J4.2 ⟨.arr k,by simp,by simp[qn]⟩,.inl rfl⟩)
    have h1:yx ob r=yx ob' r:=wa (c:=2) λv hv k hk=> .inl (hh k (by
     rw[qE];exact⟨k,J4.2 ⟨v,by simp[hv],hk⟩,.inl rfl⟩))
    simp only[h0,h1]
   |_=>rfl
 .unfold PI;split
  .rename_i k r;split
   .rename_i s0 es al us hk ap;split
    .have an:=vR ap;refine⟨λp hp=>?_,λj hj=>by rw[X5]at hj;simp at hj⟩;rcases J5.1 hp with hp|hp
     .obtain⟨⟨v,hv1,hv2⟩,s',es',fz,h1,h2⟩:=an p hp;refine⟨.inr ⟨?_,by rw[h1];simp⟩,by rw[h2];simp,λu hu=>by rw[h2]at hu;simp[qZ]at hu⟩;rw[qE];exact⟨p.1,J4.2 ⟨v,by simp[hv1],hv2⟩,.inl rfl⟩
     .simp only[J3]at hp;subst hp;refine⟨.inr ⟨?_,by rw[hk];simp⟩,by simp,λu hu=>by simp[qZ]at hu⟩;rw[qE];exact⟨k,J4.2 ⟨.arr k,by simp,by simp[qn]⟩,.inl rfl⟩
    .trivial
   .trivial
  .trivial
end
end Eng
end
section
namespace Eng
open Go Go.RowKit
section
variable {C:Cx}
theorem jr{C C':Cx}(hP:C'.P=C.P)(hG:C'.G=C.G){f s:Nat}{pre post:List A}{lent:Option (Nat×List (List D))}{es:List (List D)}(h:wC C f pre lent post s es):wC C' f pre lent post s es:=by
 intro w F vs1 vs2 g c0 cs0 t0 hb hi h1 h2 hl;rw[hP]at hl ⊢;exact h w F vs1 vs2 g c0 cs0 t0 hb (Ug hG.symm hi) h1 h2 hl
theorem Ui{C C':Cx}(hP:C'.P=C.P)(hG:C'.G=C.G){f s:Nat}{es es':List (List D)}{post res:List A}(h:XG C f s es post res es'):XG C' f s es post res es':=by
 intro w F vs2 g c0 cs0 t0 hb hi h2 hl;rw[hP]at hl ⊢;exact h w F vs2 g c0 cs0 t0 hb (Ug hG.symm hi) h2 hl
end
end Eng
end
section
namespace Eng
open Go Go.RowKit
section
variable {C:Cx}
end
end Eng
end
section
namespace Eng
open Go Go.RowKit
def TP (n:Nat):Nat:=n
section
variable {C:Cx}
end
end Eng
end
section
namespace Eng
open Go Go.RowKit
section
variable {C:Cx}{B:Bd}{F0:Nat->Prop}{w0:World}{F:Nat->Prop}{loc:Where}{st:St}{a:Act}{w:World}
end
section
variable {C:Cx}
end
end Eng
end
section
namespace Eng
end Eng
end
