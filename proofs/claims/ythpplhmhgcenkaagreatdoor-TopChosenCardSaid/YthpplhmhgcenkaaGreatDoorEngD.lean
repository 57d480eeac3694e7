import Derived.Test.YthpplhmhgcenkaaGreatDoorEngC
import Derived.Deep.AppendSrc
import Derived.Laws.Externs
import Derived.Lib.Bytealg
import Derived.Sort.Row
import Derived.Lib.Builder
open Array renaming length_toList->Aw, getElem?_modify->Bx
open Bool renaming and_eq_true->Dd, false_eq_true->Hu, not_eq_true->Hv
open Eng.D renaming undef->Hx, sl->Hy
open Eng.Frame renaming refl->I0, trans'->I1
open Eng.St renaming has->I2
open Go.Code renaming wp_mono->I3, region->J3
open Go.IntKind renaming u64->J4, u32->Lm
open Go.Sort renaming putCells->Lr
open Go.Value renaming int->Ls
open List renaming mem_cons->Lv, append_assoc->M0, mem_append->M1, map_cons->M2, length_append->M3, singleton_append->No, length_singleton->Pl, length_map->P1, mem_map->Sz, getElem?_append_right->Tk, mem_append_right->Ts, cons_append->U0, range_eq_range'->U3, getElem?_append_left->V1, range'_succ->W0, length_cons->W1, mem_singleton->W2, map_nil->bb, length_take->bc, length_drop->bd, range'->be, replicate->bh, mapM_cons->bm, getElem?_take_of_lt->bw, mem_of_getElem?->bx, getElem?_drop->bF, size_toArray->cb, mem_range'_1->cc, flatten_cons->cg, append_nil->cm, length->c1
open Nat renaming eq_of_beq_eq_true->c2, add_zero->c3, lt_or_ge->c4, beq->c5, mul_one->c6, add_assoc->cF, zero_add->cH, add_comm->cL, le_refl->dl, strongRecOn->dv, beq_refl->ea, beq_eq->eb
open Ne renaming symm->ec
open Option.some renaming injEq->el
open Prod.mk renaming injEq->en
section
namespace Eng
open Go Go.RowKit
variable [Env]
omit [Env] in
theorem Kj {α:Type} (d:α) {l l':List α} (hl:l.length=l'.length) (h:∀i,nth d l i=nth d l' i):l=l':=by
 apply List.ext_getElem hl;intro i h1 h2;have:=h i
 rwa [qm _ h1,qm _ h2]at this
structure Away (locs:List Loc) (m s1:St):Prop where
 lt:m.tmps.length=s1.tmps.length
 lo:m.objs.length=s1.objs.length
 tmps:∀t,t∉qT locs->nth .any m.tmps t=nth .any s1.tmps t
 objs:∀k,k∉xj locs->nth .none m.objs k=nth .none s1.objs k
omit [Env] in
theorem xk {α:Type} {d:α} {l:List α} {i:Nat} (h:nth d l i≠d):i<l.length:=by
 rcases c4 i l.length with h'|h'
 .exact h'
 .exact absurd (qF _ h') h
omit [Env] in
theorem wQ {α:Type} (d:α) (pre r:List α) (i:Nat):nth d (pre++r) (pre.length+i)=nth d r i:=by
 rw[qu,qu,Tk (by omega),Nat.add_sub_cancel_left]
omit [Env] in
theorem wR:∀{zs:List Value} {cells:List V} {pre r:List D},xm zs cells=true->putCells zs pre.length (pre++(cells.map toC++r))=cells
 |[],[],_,_,_=>rfl
 |z::zs,v::vs,pre,r,h=>by
  simp only[xm,Dd]at h;have hv:V.c (toC v)=v:=by cases v<;>simp_all[isC,toC]
  simp only[putCells,M2,U0];have h1:=wQ Hx pre (toC v::(vs.map toC++r)) 0;rw[c3]at h1;rw[h1];have h2:=wR (pre:=pre++[toC v]) (r:=r) h.2;simp only[M3,Pl,M0,No]at h2;rw[h2];simp only[nth,hv]
 |[],_::_,_,_,h=>by simp[xm]at h
 |_::_,[],_,_,h=>by simp[xm]at h
omit [Env] in
theorem vW:∀{zs:List Value} {cells:List V},xm zs cells=true->cells.length=zs.length
 |[],[],_=>rfl
 |z::zs,v::vs,h=>by simp only[xm,Dd]at h;simp[vW h.2]
 |[],_::_,h=>by simp[xm]at h
 |_::_,[],h=>by simp[xm]at h
omit [Env] in
theorem Kk {ob:List Obj}:∀{ms:List MC} {cells:List V},jZ ms cells ob=true->(Wi ms cells ob).length=ms.length
 |[],[],_=>rfl
 | .dat z::ms,v::vs,h=>by simp only[jZ,Dd]at h;simp[Wi,Kk h.2]
 | .own key size::ms,v::vs,h=>by simp only[jZ,Dd]at h;simp[Wi,Kk h.2]
 |[],_::_,h=>by simp[jZ]at h
 | .dat _::_,[],h=>by simp[jZ]at h
 | .own .. ::_,[],h=>by simp[jZ]at h
omit [Env] in
theorem TQ {ob1:List Obj} {R:List D}:∀{ms:List MC} {cells:List V} {pre:List D},jZ ms cells ob1=true->Co ms pre.length (pre++(Wi ms cells ob1++R))=cells/\
 ∀ob:List Obj,ob.length=ob1.length->(YX ms pre.length (pre++(Wi ms cells ob1++R)) ob).length=ob1.length/\∀j,nth .none (YX ms pre.length (pre++(Wi ms cells ob1++R)) ob) j=if j∈zc ms then nth .none ob1 j else nth .none ob j
 |[],[],pre,_=>⟨rfl,λob ho=>⟨ho,λj=>by simp[zc,YX]⟩⟩
 | .dat z::ms,v::vs,pre,h=>by
  simp only[jZ,Dd]at h;have hv:V.c (toC v)=v:=by cases v<;>simp_all[isC,toC]
  have h1:=wQ Hx pre (toC v::(Wi ms vs ob1++R)) 0;rw[c3]at h1;obtain⟨h2,h3⟩:=TQ (R:=R) (pre:=pre++[toC v]) h.2;simp only[M3,Pl,M0,No]at h2 h3;refine⟨?_,?_⟩
  .simp only[Co,Wi,U0];rw[h1,h2];simp only[nth,hv]
  .simp only[YX,Wi,U0,zc];exact h3
 | .own key size::ms,v::vs,pre,h=>by
  simp only[jZ,Dd]at h;obtain⟨ho,h⟩:=h;unfold Cn at ho;split at ho
  .rename_i a0;split at ho
   .rename_i sz es hk;simp only[Dd]at ho;obtain rfl:=c2 ho.1;obtain rfl:=c2 ho.2;have hr:OO a0 ob1= .sl es:=by simp only[OO,hk]
    have h1:=wQ Hx pre (Hy es::(Wi ms vs ob1++R)) 0;rw[c3]at h1;obtain⟨h2,h3⟩:=TQ (R:=R) (pre:=pre++[Hy es]) h;simp only[M3,Pl,M0,No]at h2 h3;have a1:a0<ob1.length:=xk (by rw[hk];simp);refine⟨?_,?_⟩
    .simp only[Co,Wi,U0,hr];rw[h2]
    .intro ob a2;simp only[YX,Wi,U0,hr,h1,nth,toL];obtain⟨h4,h5⟩:=h3 (upd ob a0 (.arr sz es false)) (by rw[qi];exact a2);refine⟨h4,λj=>?_⟩;rw[h5 j];simp only[zc,Lv];by_cases hj:j∈zc ms
     .simp[hj]
     .simp only[hj,if_false,or_false];by_cases hjk:j=a0
      .subst hjk;rw[if_pos rfl,qb _ _ _ (by rw[a2];exact a1),hk]
      .rw[if_neg hjk,qa _ _ _ (ec hjk)]
   .simp at ho
  .simp at ho
 |[],_::_,_,h=>by simp[jZ]at h
 | .dat _::_,[],_,h=>by simp[jZ]at h
 | .own .. ::_,[],_,h=>by simp[jZ]at h
omit [Env] in
theorem wS:∀{locs:List Loc} {pre:List D} {m s1:St},xO locs s1=true->Away locs m s1->(fill locs pre.length (pre++xN locs s1) m).tmps=s1.tmps/\(fill locs pre.length (pre++xN locs s1) m).objs=s1.objs
 |[],pre,m,s1,_,h=>⟨Kj .any h.lt λi=>h.tmps i (by simp[qT]),Kj .none h.lo λi=>h.objs i (by simp[xj])⟩
 | .slot s z::r,pre,m,s1,hn,h=>by
  simp only[xO,Dd]at hn;have hv:V.c (toC (nth .any s1.tmps s))=nth .any s1.tmps s:=by revert hn;cases nth .any s1.tmps s<;>simp[isC,toC]
  have a3:s<s1.tmps.length:=xk (by intro e;rw[e]at hn;simp[isC]at hn);simp only[fill,xN];have h1:=wQ Hx pre (toC (nth .any s1.tmps s)::xN r s1) 0;rw[c3]at h1;rw[h1];have h2:=wS (locs:=r) (pre:=pre++[toC (nth .any s1.tmps s)]) (m:=⟨upd m.tmps s (nth .any s1.tmps s),m.objs,m.dirty⟩) (s1:=s1) hn.2 ⟨by simp only[qi];exact h.lt,h.lo,λt ht=>by
   by_cases hst:s=t
   .subst hst;rw[qb _ _ _ (by rw[h.lt];exact a3)]
   .show nth .any (upd m.tmps s _) t=_;rw[qa _ _ _ hst];exact h.tmps t (by simp only[qT,Lv,not_or];exact⟨ec hst,ht⟩),λk hk=>h.objs k hk⟩
  simp only[M3,Pl,M0,No]at h2;simp only[nth,hv];exact h2
 | .box k zs::r,pre,m,s1,hn,h=>by
  simp only[xO]at hn;split at hn
  .rename_i a0 hk;simp only[Dd]at hn;have a1:k<s1.objs.length:=xk (by rw[hk];simp);simp only[fill,xN,hk];rw[wR hn.1];have h2:=wS (locs:=r) (pre:=pre++a0.map toC) (m:=⟨m.tmps,upd m.objs k (.box a0),m.dirty⟩) (s1:=s1) hn.2 ⟨h.lt,by simp only[qi];exact h.lo,λt ht=>h.tmps t ht,λj hj=>by
    by_cases hkj:k=j
    .subst hkj;rw[qb _ _ _ (by rw[h.lo];exact a1),hk]
    .show nth .none (upd m.objs k _) j=_;rw[qa _ _ _ hkj];exact h.objs j (by simp only[xj,Lv,not_or];exact⟨ec hkj,hj⟩)⟩
   simp only[M3,P1,M0,vW hn.1]at h2;exact h2
  .simp at hn
 | .own s key size::r,pre,m,s1,hn,h=>by
  simp only[xO]at hn;split at hn
  .rename_i k hv;split at hn
   .rename_i sz es hk;simp only[Dd]at hn;obtain rfl:=c2 hn.1.1;obtain rfl:=c2 hn.1.2;have a1:k<s1.objs.length:=xk (by rw[hk];simp);have a3:s<s1.tmps.length:=xk (by rw[hv];simp);simp only[fill,xN,hk];have h1:=wQ Hx pre (Hy es::xN r s1) 0;rw[c3]at h1;rw[h1];have h2:=wS (locs:=r) (pre:=pre++[Hy es]) (m:=⟨upd m.tmps s (.arr k),upd m.objs k (.arr sz es false),m.dirty⟩) (s1:=s1) hn.2 ⟨by simp only[qi];exact h.lt,by simp only[qi];exact h.lo,λt ht=>by
     by_cases hst:s=t
     .subst hst;rw[qb _ _ _ (by rw[h.lt];exact a3),hv]
     .show nth .any (upd m.tmps s _) t=_;rw[qa _ _ _ hst];exact h.tmps t (by simp only[qT,Lv,not_or];exact⟨ec hst,ht⟩),λj hj=>by
     by_cases hkj:k=j
     .subst hkj;rw[qb _ _ _ (by rw[h.lo];exact a1),hk]
     .show nth .none (upd m.objs k _) j=_;rw[qa _ _ _ hkj];exact h.objs j (by simp only[xj,Lv,not_or];exact⟨ec hkj,hj⟩)⟩
    simp only[M3,Pl,M0,No]at h2;simp only[nth,toL];exact h2
   .simp at hn
  .simp at hn
 | .bld k T key::r,pre,m,s1,hn,h=>by
  simp only[xO]at hn;split at hn
  .rename_i T' a2 hk;split at hn
   .rename_i sz es hj;simp only[Dd]at hn;obtain rfl:=c2 hn.1.1.1;obtain rfl:=c2 hn.1.1.2;obtain rfl:=c2 hn.1.2;have a1:k<s1.objs.length:=xk (by rw[hk];simp);have a4:a2<s1.objs.length:=xk (by rw[hj];simp);simp only[fill,xN,hj];have h1:=wQ Hx pre (Hy es::xN r s1) 0;rw[c3]at h1;rw[h1];have h2:=wS (locs:=r) (pre:=pre++[Hy es]) (m:=⟨m.tmps,upd (upd m.objs a2 (.arr 1 es false)) k (.bld T' (.arr a2)),m.dirty⟩) (s1:=s1) hn.2 ⟨h.lt,by simp only[qi];exact h.lo,λt ht=>h.tmps t ht,λi hi=>by
     by_cases hki:k=i
     .subst hki;rw[qb _ _ _ (by rw[qi,h.lo];exact a1),hk]
     .show nth .none (upd (upd m.objs a2 _) k _) i=_;rw[qa _ _ _ hki];by_cases hji:a2=i
      .subst hji;rw[qb _ _ _ (by rw[h.lo];exact a4),hj]
      .rw[qa _ _ _ hji];exact h.objs i (by simp only[xj,Lv,not_or];exact⟨ec hki,ec hji,hi⟩)⟩
    simp only[M3,Pl,M0,No]at h2;simp only[nth,toL];exact h2
   .simp at hn
  .simp at hn
 | .mix k ms::r,pre,m,s1,hn,h=>by
  simp only[xO]at hn;split at hn
  .rename_i a0 hk;simp only[Dd]at hn;have a1:k<s1.objs.length:=xk (by rw[hk];simp);obtain⟨g1,g2⟩:=TQ (R:=xN r s1) (pre:=pre) hn.1;obtain⟨g3,g4⟩:=g2 m.objs h.lo;simp only[fill,xN,hk];rw[g1];have h2:=wS (locs:=r) (pre:=pre++Wi ms a0 s1.objs) (m:=⟨m.tmps,upd (YX ms pre.length (pre++(Wi ms a0 s1.objs++xN r s1)) m.objs) k (.box a0),m.dirty⟩) (s1:=s1) hn.2 ⟨h.lt,by simp only[qi];exact g3,λt ht=>h.tmps t ht,λi hi=>by
    by_cases hki:k=i
    .subst hki;rw[qb _ _ _ (by rw[g3];exact a1),hk]
    .show nth Obj.none (upd _ k _) i=_;rw[qa _ _ _ hki,g4 i];by_cases hm:i∈zc ms
     .rw[if_pos hm]
     .rw[if_neg hm];exact h.objs i (by simp only[xj,Lv,M1,not_or];exact⟨ec hki,hm,hi⟩)⟩
   simp only[M3,Kk hn.1,M0]at h2;exact h2
  .simp at hn
def TypedL:List Value->List D->Prop
 |[],us=>us=[]
 |z::zs,us=>∃d r,us=d::r/\jt z d=true/\TypedL zs r
omit [Env] in
theorem vt {v:Value} {b:Bool} {d:D} (hv:v= .bool b) (h:jt v d=true):∃x,d= .bool x:=by
 subst hv;cases d<;>simp[jt,isB]at h;exact⟨_,rfl⟩
omit [Env] in
theorem Gp {v:Value} {a:Option Addr} {n c:Nat} {d:D} (hv:v= .slice a n c) (h:jt v d=true):∃x,d= .sl x:=by
 subst hv;cases d<;>simp[jt,isL]at h;exact⟨_,rfl⟩
omit [Env] in
theorem xB {z r:List Value} {us:List D} (h:Ox z=some r) (ht:TypedL z us):∃(x:R4) (ds:List D),us=rk x ds/\TypedL r ds:=by
 obtain⟨b,o,n,c,b',o',n',c',rfl⟩:=TB h;obtain⟨d1,r1,rfl,h1,d2,r2,rfl,h2,d3,r3,rfl,h3,d4,r4,rfl,h4,h5⟩:=ht;obtain⟨x1,rfl⟩:=vt rfl h1;obtain⟨x2,rfl⟩:=Gp rfl h2;obtain⟨x3,rfl⟩:=vt rfl h3;obtain⟨x4,rfl⟩:=Gp rfl h4;exact⟨⟨x1,x2,x3,x4⟩,r4,rfl,h5⟩
omit [Env] in
theorem xc {n:Nat} {z r:List Value} (h:wG (n+1) z=some r):∃q,Ox z=some q/\wG n q=some r:=by
 simp only[wG]at h;split at h
 .rename_i q hq;exact⟨q,hq,h⟩
 .simp at h
omit [Env] in
theorem yk {z r:List Value} {us:List D} (h:wG 5 z=some r) (ht:TypedL z us):∃(x:P20) (ds:List D),us=pk x ds/\TypedL r ds:=by
 obtain⟨q1,e1,h⟩:=xc h;obtain⟨q2,e2,h⟩:=xc h;obtain⟨q3,e3,h⟩:=xc h;obtain⟨q4,e4,h⟩:=xc h;obtain⟨q5,e5,h⟩:=xc h;simp only[wG,el]at h;subst h;obtain⟨x1,d1,rfl,t1⟩:=xB e1 ht;obtain⟨x2,d2,rfl,t2⟩:=xB e2 t1;obtain⟨x3,d3,rfl,t3⟩:=xB e3 t2;obtain⟨x4,d4,rfl,t4⟩:=xB e4 t3;obtain⟨x5,d5,rfl,t5⟩:=xB e5 t4;exact⟨⟨x1,x2,x3,x4,x5⟩,d5,rfl,t5⟩
omit [Env] in
theorem Yf {z r:List Value} {us:List D} (h:HP z=some r) (ht:TypedL z us):∃(x:C66) (ds:List D),us=ck x ds/\TypedL r ds:=by
 unfold HP at h;split at h
 .rename_i b q;split at h
  .rename_i b' q' hq;obtain⟨d0,us0,rfl,t0,ht0⟩:=ht;obtain⟨a,rfl⟩:=vt rfl t0;obtain⟨q1,e1,hq⟩:=xc hq;obtain⟨q2,e2,hq⟩:=xc hq;obtain⟨q3,e3,hq⟩:=xc hq;obtain⟨q4,e4,hq⟩:=xc hq;obtain⟨q5,e5,hq⟩:=xc hq;obtain⟨q6,e6,hq⟩:=xc hq;simp only[wG,el]at hq;subst hq;obtain⟨x1,d1,rfl,t1⟩:=xB e1 ht0;obtain⟨x2,d2,rfl,t2⟩:=xB e2 t1;obtain⟨x3,d3,rfl,t3⟩:=xB e3 t2;obtain⟨x4,d4,rfl,t4⟩:=xB e4 t3;obtain⟨x5,d5,rfl,t5⟩:=xB e5 t4;obtain⟨x6,d6,rfl,t6⟩:=xB e6 t5;obtain⟨d7,us7,rfl,t7,ht7⟩:=t6;obtain⟨w,rfl⟩:=vt rfl t7;have hs:∃s,wG 5 q'=some s/\wG 5 s=some r:=by obtain⟨q1,f1,h⟩:=xc h;obtain⟨q2,f2,h⟩:=xc h;obtain⟨q3,f3,h⟩:=xc h;obtain⟨q4,f4,h⟩:=xc h;obtain⟨q5,f5,h⟩:=xc h;exact⟨q5,by simp only[wG,f1,f2,f3,f4,f5],h⟩
   obtain⟨s,hs1,hs2⟩:=hs;obtain⟨p,d8,rfl,t8⟩:=yk hs1 ht7;obtain⟨p',d9,rfl,t9⟩:=yk hs2 t8;exact⟨⟨a,x1,x2,x3,x4,x5,x6,w,p,p'⟩,d9,rfl,t9⟩
  .simp at h
 .simp at h
omit [Env] in
theorem j1:∀{g:Bool} {n:Nat} {zs:List Value} {us:List D} {K:List D->Prop},Tv g n zs K->TypedL zs us->K us
 |_,0,_,_,_,h,_=>h.elim
 |_,_+1,[],us,K,h,ht=>by have ht:us=[]:=ht;subst ht;exact h
 |g,n+1,z::zs,us,K,h,ht=>by
  simp only[Tv]at h;split at h
  .rename_i q hq;obtain⟨x,ds,rfl,h2⟩:=Yf hq ht;exact j1 (K:=λus=>K (ck x us)) (h x) h2
  split at h
  .rename_i q hq;obtain⟨x,ds,rfl,h2⟩:=yk hq ht;exact j1 (K:=λus=>K (pk x us)) (h x) h2
  split at h
  .rename_i q hq;have hq:Ox (z::zs)=some q:=by
    split at hq
    .exact hq
    .simp at hq
   obtain⟨x,ds,rfl,h2⟩:=xB hq ht;exact j1 (K:=λus=>K (rk x us)) (h x) h2
  obtain⟨d,r,rfl,h1,h2⟩:=ht;cases z with
  |int k n=>
   cases d<;>simp only[jt,isI,Hu]at h1;have h1:=of_decide_eq_true h1;subst h1;exact j1 (K:=λus=>K (_::us)) (h _) h2
  |bool b=>
   cases d<;>simp only[jt,isB,Hu]at h1;exact j1 (K:=λus=>K (_::us)) (h _) h2
  |string b=>
   cases d<;>simp only[jt,isS,Hu]at h1;exact j1 (K:=λus=>K (_::us)) (h _) h2
  |slice b l c=>
   cases d<;>simp only[jt,isL,Hu]at h1;exact j1 (K:=λus=>K (_::us)) (h _) h2
  |_=>exact j1 (K:=λus=>K (d::us)) (h d) h2
omit [Env] in
theorem Gq {zs:List Value} {us:List D} {K:List D->Prop} (h:gB zs K) (ht:TypedL zs us):K us:=j1 h ht
omit [Env] in
theorem TypedL.append:∀{zs zs':List Value} {us us':List D},TypedL zs us->TypedL zs' us'->TypedL (zs++zs') (us++us')
 |[],zs',us,us',h,h'=>by have h:us=[]:=h;subst h;exact h'
 |z::zs,zs',us,us',h,h'=>by obtain⟨d,r,rfl,h1,h2⟩:=h;exact⟨d,r++us',rfl,h1,h2.append h'⟩
omit [Env] in
theorem wl:∀{zs:List Value} {cells:List V},xm zs cells=true->TypedL zs (cells.map toC)
 |[],[],_=>rfl
 |z::zs,v::vs,h=>by simp only[xm,Dd]at h;exact⟨_,_,rfl,h.1.2,wl h.2⟩
 |[],_::_,h=>by simp[xm]at h
 |_::_,[],h=>by simp[xm]at h
omit [Env] in
theorem Zd {ob:List Obj}:∀{ms:List MC} {cells:List V},jZ ms cells ob=true->TypedL (zsM ms) (Wi ms cells ob)
 |[],[],_=>rfl
 | .dat z::ms,v::vs,h=>by simp only[jZ,Dd]at h;exact⟨_,_,rfl,h.1.2,Zd h.2⟩
 | .own key size::ms,v::vs,h=>by
  simp only[jZ,Dd]at h;obtain⟨ho,h⟩:=h;unfold Cn at ho;split at ho
  .split at ho
   .rename_i hk;refine⟨_,_,rfl,?_,Zd h⟩;simp only[OO,hk];rfl
   .simp at ho
  .simp at ho
 |[],_::_,h=>by simp[jZ]at h
 | .dat _::_,[],h=>by simp[jZ]at h
 | .own .. ::_,[],h=>by simp[jZ]at h
omit [Env] in
theorem xQ:∀{locs:List Loc} {m:St},xO locs m=true->TypedL (HT locs) (xN locs m)
 |[],_,_=>rfl
 | .slot s z::r,m,h=>by simp only[xO,Dd]at h;exact⟨_,_,rfl,h.1.2,xQ h.2⟩
 | .box k zs::r,m,h=>by
  simp only[xO]at h;split at h
  .rename_i cells hk;simp only[Dd]at h;simp only[HT,xN,hk];exact(wl h.1).append (xQ h.2)
  .simp at h
 | .own s key size::r,m,h=>by
  simp only[xO]at h;split at h
  .split at h
   .rename_i hk;simp only[Dd]at h;simp only[HT,xN,hk];exact⟨_,_,rfl,rfl,xQ h.2⟩
   .simp at h
  .simp at h
 | .bld k T key::r,m,h=>by
  simp only[xO]at h;split at h
  .split at h
   .rename_i hj;simp only[Dd]at h;simp only[HT,xN,hj];exact⟨_,_,rfl,rfl,xQ h.2⟩
   .simp at h
  .simp at h
 | .mix k ms::r,m,h=>by
  simp only[xO]at h;split at h
  .rename_i cells hk;simp only[Dd]at h;simp only[HT,xN,hk];exact(Zd h.1).append (xQ h.2)
  .simp at h
omit [Env] in
theorem Kl {us:List D}:∀{ms:List MC} {i:Nat} {ob:List Obj},(YX ms i us ob).length=ob.length/\∀j,j∉zc ms->nth .none (YX ms i us ob) j=nth .none ob j
 |[],_,_=>⟨rfl,λ_ _=>rfl⟩
 | .dat z::ms,i,ob=>by simp only[YX,zc];exact Kl
 | .own key size::ms,i,ob=>by simp only[YX,zc,Lv,not_or];obtain⟨h1,h2⟩:=Kl (us:=us) (ms:=ms) (i:=i+1) (ob:=upd ob key (.arr size (toL (nth .undef us i)) false));exact⟨h1.trans (qi _ _ _),λj hj=>(h2 j hj.2).trans (qa _ _ _ (ec hj.1))⟩
omit [Env] in
theorem kS:∀{locs:List Loc} {i:Nat} {us:List D} {m:St},(fill locs i us m).tmps.length=m.tmps.length/\(fill locs i us m).objs.length=m.objs.length/\(fill locs i us m).dirty=m.dirty/\
 (∀t,t∉qT locs->nth .any (fill locs i us m).tmps t=nth .any m.tmps t)/\(∀k,k∉xj locs->nth .none (fill locs i us m).objs k=nth .none m.objs k)
 |[],_,_,_=>⟨rfl,rfl,rfl,λ_ _=>rfl,λ_ _=>rfl⟩
 | .slot s z::r,i,us,m=>by obtain⟨h1,h2,h3,h4,h5⟩:=kS (locs:=r) (i:=i+1) (us:=us) (m:=⟨upd m.tmps s (.c (nth .undef us i)),m.objs,m.dirty⟩);refine⟨by simp only[fill];rw[h1];exact qi _ _ _,h2,h3,λt ht=>?_,h5⟩;simp only[qT,Lv,not_or]at ht;simp only[fill];rw[h4 t ht.2];exact qa _ _ _ (ec ht.1)
 | .box k zs::r,i,us,m=>by obtain⟨h1,h2,h3,h4,h5⟩:=kS (locs:=r) (i:=i+zs.length) (us:=us) (m:=⟨m.tmps,upd m.objs k (.box (putCells zs i us)),m.dirty⟩);refine⟨h1,by simp only[fill];rw[h2];exact qi _ _ _,h3,h4,λt ht=>?_⟩;simp only[xj,Lv,not_or]at ht;simp only[fill];rw[h5 t ht.2];exact qa _ _ _ (ec ht.1)
 | .own s key size::r,i,us,m=>by
  obtain⟨h1,h2,h3,h4,h5⟩:=kS (locs:=r) (i:=i+1) (us:=us) (m:=⟨upd m.tmps s (.arr key),upd m.objs key (.arr size (toL (nth .undef us i)) false),m.dirty⟩);refine⟨by simp only[fill];rw[h1];exact qi _ _ _,by simp only[fill];rw[h2];exact qi _ _ _,h3,λt ht=>?_,λt ht=>?_⟩
  .simp only[qT,Lv,not_or]at ht;simp only[fill];rw[h4 t ht.2];exact qa _ _ _ (ec ht.1)
  .simp only[xj,Lv,not_or]at ht;simp only[fill];rw[h5 t ht.2];exact qa _ _ _ (ec ht.1)
 | .bld k T key::r,i,us,m=>by obtain⟨h1,h2,h3,h4,h5⟩:=kS (locs:=r) (i:=i+1) (us:=us) (m:=⟨m.tmps,upd (upd m.objs key (.arr 1 (toL (nth .undef us i)) false)) k (.bld T (.arr key)),m.dirty⟩);refine⟨h1,by simp only[fill];rw[h2];simp only[qi],h3,h4,λt ht=>?_⟩;simp only[xj,Lv,not_or]at ht;simp only[fill];rw[h5 t ht.2.2];show nth .none (upd (upd m.objs key _) k _) t=_;rw[qa _ _ _ (ec ht.1),qa _ _ _ (ec ht.2.1)]
 | .mix k ms::r,i,us,m=>by obtain⟨g1,g2⟩:=Kl (us:=us) (ms:=ms) (i:=i) (ob:=m.objs);obtain⟨h1,h2,h3,h4,h5⟩:=kS (locs:=r) (i:=i+ms.length) (us:=us) (m:=⟨m.tmps,upd (YX ms i us m.objs) k (.box (Co ms i us)),m.dirty⟩);refine⟨h1,by simp only[fill];rw[h2];simp only[qi];exact g1,h3,h4,λt ht=>?_⟩;simp only[xj,Lv,M1,not_or]at ht;simp only[fill];rw[h5 t ht.2.2];show nth Obj.none (upd _ k _) t=_;rw[qa _ _ _ (ec ht.1),g2 t ht.2.1]
omit [Env] in
theorem WJ {a l:List Nat} (h:Wx a l=true):∀k∈a,k∈l:=by
 induction a with
 |nil=>intro k hk;simp at hk
 |cons x r ih=>
  simp only[Wx,Dd]at h;intro k hk;rcases Lv.1 hk with rfl|hk
  .exact xK.1 h.1
  .exact ih h.2 k hk
omit [Env] in
theorem Km {p:Nat->Prop} (h:∃n,p n):∃n,p n/\∀m,p m->n<=m:=by
 obtain⟨n,hn⟩:=h
 induction n using dv with
 |_ n ih=>
  by_cases hc:∃m,m<n/\p m
  .obtain⟨m,hm,hp⟩:=hc;exact ih m hm hp
  .exact⟨n,hn,λm hm=>Nat.le_of_not_lt λhlt=>hc ⟨m,hlt,hm⟩⟩
open Classical in
noncomputable def kf (p:Nat->Prop):Nat:=if h:∃n,p n then Classical.choose (Km h)else 0
omit [Env] in
theorem Jw {p:Nat->Prop} (h:∃n,p n):p (kf p):=by unfold kf;rw[dif_pos h];exact(Classical.choose_spec (Km h)).1
omit [Env] in
theorem Jx {p:Nat->Prop} {m:Nat} (h:p m):kf p<=m:=by unfold kf;rw[dif_pos ⟨m,h⟩];exact(Classical.choose_spec (Km ⟨m,h⟩)).2 m h
section
variable {C:Cx} {B:Bd} {F0:Nat->Prop} {w0:World} {anns:Nat->Ann}
def XM:X->Exit->Prop
 | .normal,e=>e= .normal
 | .exit i,e=>e= .exit i
 | .ret,e=>e= .ret
def gH (C:Cx) (B:Bd) (F0:Nat->Prop) (w0:World) (mt:List Nat) (Q:X->St->Prop) (st:St) (e:Exit) (a:Act) (w:World):Prop:=
 ∃x s',XM x e/\Q x s'/\Frame mt st s'/\I2 C B F0 w0 s' a w
omit [Env] in
theorem Kn {t:Nat} {o:Oper}:∀{l:List Oper},o∈l->o.dst=some t->t∈HR l
 |[],h,_=>by simp at h
 |p::r,h,hd=>by
  simp only[HR];rcases Lv.1 h with rfl|h
  .rw[hd];simp
  .have:=Kn h hd;split
   .simp[this]
   .exact this
omit [Env] in
theorem jr:∀{us:List (Nat×Obj)} {l:List Nat} {k:Nat},k∈jz us l↔k∈l\/∃p∈us,p.1=k
 |[],l,k=>by simp[jz]
 |(j,o)::r,l,k=>by
  simp only[jz,Lv];rw[jr];constructor
  .rintro(rfl|h|⟨p,hp,rfl⟩)
   .exact .inr ⟨(k,o),.inl rfl,rfl⟩
   .exact .inl h
   .exact .inr ⟨p,.inr hp,rfl⟩
  .rintro(h|⟨p,rfl|hp,rfl⟩)
   .exact .inr (.inl h)
   .exact .inl rfl
   .exact .inr (.inr ⟨p,hp,rfl⟩)
omit [Env] in
theorem Frame.put {mt:List Nat} {s:St} {dst:Option Nat} {v:V} {up:List (Nat×Obj)} (h:∀t,dst=some t->t∈mt):Frame mt s (s.put dst v up):=by
 refine⟨?_,jL _ _,λt ht=>?_,λk hk=>?_,λk hk=>jr.2 (.inl hk)⟩
 .simp only[St.put];cases dst with
  |none=>rfl
  |some t=>exact qi _ _ _
 .simp only[St.put];cases dst with
  |none=>rfl
  |some d=>exact qa _ _ _ λe=>ht (by rw[<-e];exact h d rfl)
 .exact zg _ _ λp hp e=>hk (jr.2 (.inr ⟨p,hp,e⟩))
omit [Env] in
theorem WK {Gv:Nat->List A->List A->Prop} {ops:Array Oper}:∀(l:List Oper) (k:Nat) (s:St) (K:St->Prop),(∀j,l[j]? =ops[k+j]?)->wpL C Gv ops l s K->∃rc s',Tr C Gv ops rc (be k l.length) s s'/\K s'/\Frame (HR ops.toList) s s'
 |[],_,s,_,_,h=>⟨λ_=>([],[]),s,⟨rfl,rfl⟩,h,I0 _ _⟩
 |o::l,k,s,K,hk,h=>by
  have h0:ops[k]? =some o:=by simpa using(hk 0).symm
  obtain⟨v,up,h1,h2⟩:=WH h;obtain⟨rc,s',h3,h4,h5⟩:=WK l (k+1) _ K (λj=>by have:=hk (j+1);simpa [cF,cL 1 j]using this) h2;refine⟨λi=>if i=k then(opk o (ev s) s.objs,up.map (·.1))else rc i,s',?_,h4,I1 (Frame.put λt ht=>Kn (o:=o) ?_ ht) h5⟩
  .rw[W1,W0];refine⟨o,h0,v,up,h1,?_,h3.recs λi hi=>?_⟩
   .simp only[if_pos];exact⟨λ_ _ h=>h,λp hp=>Sz.2 ⟨p,hp,rfl⟩⟩
   .have:=(cc.1 hi).1;rw[if_neg (by omega)]
  .have:=bx (show ops.toList[k]? =some o by simpa using h0);exact this
omit [Env] in
theorem Jy {Gv:Nat->List A->List A->Prop} {ops:Array Oper}:∀(l:List Oper) (k:Nat) (s:St) (acc:List Rec) (K:St->List Rec->Prop),(∀j,l[j]? =ops[k+j]?)->acc.length=k->ef C Gv ops l s acc K->
 ∃R s',Tr C Gv ops (λi=>nth ([],[]) (acc++R) i) (be k l.length) s s'/\K s' (acc++R)/\Frame (HR ops.toList) s s'
 |[],_,s,acc,_,_,_,h=>⟨[],s,⟨rfl,rfl⟩,by rw[cm];exact h,I0 _ _⟩
 |o::l,k,s,acc,K,hk,hacc,h=>by
  have h0:ops[k]? =some o:=by simpa using(hk 0).symm
  obtain⟨v,up,h1,h2⟩:=WH h;obtain⟨R,s',h3,h4,h5⟩:=Jy l (k+1) _ _ K (λj=>by have:=hk (j+1);simpa [cF,cL 1 j]using this) (by simp[hacc]) h2;refine⟨(opk o (ev s) s.objs,jz up [])::R,s',?_,by rw[M0]at h4;exact h4,?_⟩
  .rw[W1,W0];refine⟨o,h0,v,up,h1.same rfl rfl,?_,?_⟩
   .have e:nth ([],[]) (acc++(opk o (ev s) s.objs,jz up [])::R) k=(opk o (ev s) s.objs,jz up []):=by have:=wQ ([],[]) acc ((opk o (ev s) s.objs,jz up [])::R) 0;rw[c3,hacc]at this;rw[this];rfl
    simp only;rw[e];exact⟨λ_ _ h=>h,λp hp=>jr.2 (.inr ⟨p,hp,rfl⟩)⟩
   .simp only[M0,No]at h3;exact h3.same rfl rfl
  .refine I1 (s':=⟨(s.put o.dst v up).tmps,(s.put o.dst v up).objs,jz up []++s.dirty⟩) ?_ h5;have hf:=Frame.put (mt:=HR ops.toList) (s:=s) (dst:=o.dst) (v:=v) (up:=up) λt ht=>Kn (o:=o) (bx (show ops.toList[k]? =some o by simpa using h0)) ht
   refine⟨hf.lt,hf.lo,hf.tmps,λj hj=>hf.objs j λhj'=>hj ?_,λj hj=>Ts _ hj⟩;rcases jr.1 hj' with h|h
   .exact Ts _ h
   .exact List.mem_append_left _ (jr.2 (.inr h))
theorem WL [EffOk C] {id:Nat} {ops:Array Oper} {d:Bool} {Q:X->St->Prop} {s:St} {a:Act} {w:World} (hm:C.P.follows .mixedOrders=true) (hd:d=true->vm C ops.toList=true) (h:wpL C (Gives C) ops ops.toList s (Q .normal)) (hh:I2 C B F0 w0 s a w):
 (J3 id ops d).wp C.P (gH C B F0 w0 (HR ops.toList) Q s) a w:=by
 obtain⟨rc,s',h1,h2,h3⟩:=WK ops.toList 0 s _ (by simp) h;rw[Aw,<-U3]at h1;exact yP hm (λh=>XX rc (hd h)) h1 hh λa w hw=>⟨.normal,s',rfl,h2,h3,hw⟩
theorem Ui [EffOk C] {id:Nat} {ops:Array Oper} {d:Bool} {Q:X->St->Prop} {s:St} {a:Act} {w:World} (hm:C.P.follows .mixedOrders=true) (h:ef C (Gives C) ops ops.toList s [] λs rs=>cnd (wH C ops.toList rs) (Q .normal s)) (hh:I2 C B F0 w0 s a w):
 (J3 id ops d).wp C.P (gH C B F0 w0 (HR ops.toList) Q s) a w:=by
 obtain⟨R,s',h1,h2,h3⟩:=Jy ops.toList 0 s [] _ (by simp) rfl h;rw[Aw,<-U3]at h1;unfold cnd at h2;split at h2
 .rename_i hr;exact yP hm (λ_=>QP hr) h1 hh λa w hw=>⟨.normal,s',rfl,h2,h3,hw⟩
 .exact h2.elim
theorem Gr [EffOk C] (hm:C.P.follows .mixedOrders=true):∀(c:Code) (n:Nat) (Q:X->St->Prop) (s:St) (a:Act) (w:World),wpC C (Gives C) anns n c Q s->I2 C B F0 w0 s a w->
 c.wp C.P (gH C B F0 w0 (jI anns n c) Q s) a w:=by
 intro c
 induction c with
 |skip=>intro n Q s a w h hh;exact wp_skip ⟨.normal,s,rfl,h,I0 _ _,hh⟩
 |region id ops d=>
  intro n Q s a w h hh;simp only[wpC,VP]at h;cases d with
  |false=>exact WL hm (by simp) h hh
  |true=>
   dsimp only at h
   split at h
   .rename_i hr;exact WL hm (λ_=>hr) h hh
   .exact Ui hm h hh
 |seq x y ihx ihy=>
  intro n Q s a w h hh;simp only[wpC,VP,Jv,Zc]at h;split at h
  .rename_i hj;refine wp_seq (I3 (λe a' w' hp=>?_) (ihx n _ s a w h hh));obtain⟨z,s',hz,hq,hf,a0⟩:=hp;cases z with
   |normal=>
    have hz:e= .normal:=hz;subst hz;refine I3 (λe a' w' hp=>?_) (ihy _ _ s' a' w' hq a0);obtain⟨z,b9,hz,hq,al,b1⟩:=hp;exact⟨z,b9,hz,hq,(hf.trans al).mono λt ht=>by
     simp only[jI,M1]at ht ⊢;rcases ht with ht|ht
     .exact .inl ht
     .exact .inr (.inl ht),b1⟩
   |exit i=>have hz:e= .exit i:=hz;subst hz;exact⟨.exit i,s',rfl,hq,hf.mono λt ht=>by simp[jI,ht],a0⟩
   |ret=>have hz:e= .ret:=hz;subst hz;exact⟨.ret,s',rfl,hq,hf.mono λt ht=>by simp[jI,ht],a0⟩
  .rename_i J hj;have hjs:X9 anns y=qT J.locs:=by unfold X9;rw[hj]
   obtain⟨h1,b0⟩:=h;generalize hlocs:J.locs=locs at *;generalize hmt:jI anns n x=mt at *;generalize hms:ZM x=ms at *;have hh0:I2 C B F0 w0 ⟨s.tmps,s.objs,[]⟩ a w:=xi hh rfl rfl;have h2:=ihx n _ _ a w h1 hh0;rw[hmt]at h2;refine wp_seq (I3 (λe a' w' hp=>?_) h2);obtain⟨z,s',hz,hq,hf,a0⟩:=hp;have a7:Frame (jI anns n (.seq x y)) s ⟨s'.tmps,s'.objs,s'.dirty++s.dirty⟩:=by
    refine⟨hf.lt,hf.lo,λt ht=>?_,λk hk=>?_,λk hk=>Ts _ hk⟩
    .simp only[jI,M1,not_or]at ht;exact hf.tmps t (by rw[<-hmt];exact ht.1)
    .simp only[M1,not_or]at hk;exact hf.objs k hk.1
   cases z with
   |normal=>
    have hz:e= .normal:=hz;subst hz;simp only at hq;split at hq
    .exact hq.elim
    rename_i m' a3;obtain⟨a2,a5⟩:=Ye (C:=C) (B:=B) (F0:=F0) (w0:=w0) (a:=a') (w:=w') a3;unfold cnd at hq;split at hq
    .rename_i b8;generalize hm:(⟨wJ s.tmps (mt++qT locs),ju s.objs (ms++xj locs),ms++(xj locs++s.dirty)⟩:St)=m at *;have ag:m.tmps=wJ s.tmps (mt++qT locs):=by rw[<-hm]
     have ad:m.objs=ju s.objs (ms++xj locs):=by rw[<-hm]
     have b3:m.dirty=ms++(xj locs++s.dirty):=by rw[<-hm]
     have a4:Away locs m m':=by
      refine⟨?_,?_,λt ht=>?_,λk hk=>?_⟩
      .rw[ag,kt];exact(a2.lt.trans hf.lt).symm
      .rw[ad,jM];exact(a2.lo.trans hf.lo).symm
      .rw[ag];by_cases htm:t∈mt
       .rw[yR _ _ (.inl (by simp[htm])),a2.tin t htm ht]
       .rw[ku _ _ (by simp[htm,ht]),a2.tout t htm ht,hf.tmps t htm]
      .rw[ad];by_cases hkm:k∈ms
       .rw[kv _ _ (.inl (by simp[hkm])),a2.oin k hkm]
       .have a6:k∉m'.dirty:=λh=>by
         rcases M1.1 (WJ b8 k h)with h|h
         .exact hkm h
         .exact hk h
        rw[jc _ _ (by simp[hkm,hk]),a2.oout k a6,hf.objs k λh=>a6 (a2.dirty k (.inl h))]
     have b2:=wS (pre:=[]) (m:=m) a2.ok a4;have hb:=Gq b0 (xQ a2.ok) hq;have hS:I2 C B F0 w0 (fill locs 0 (xN locs m') m) a' w':=xi (a5 a0) b2.1.symm b2.2.symm;obtain⟨q1,q2,q3,q4,q5⟩:=kS (locs:=locs) (i:=0) (us:=xN locs m') (m:=m);refine I3 (λe a' w' hp=>?_) (ihy _ _ _ a' w' hb hS);obtain⟨z,b9,hz,hq,al,b1⟩:=hp;refine⟨z,b9,hz,hq,⟨?_,?_,λt ht=>?_,λk hk=>?_,λk hk=>?_⟩,b1⟩
     .rw[al.lt,q1,ag,kt]
     .rw[al.lo,q2,ad,jM]
     .simp only[jI,M1,not_or,hjs,hmt]at ht;rw[al.tmps t ht.2.1,q4 t ht.2.2,ag,ku _ _ (by simp[ht.1,ht.2.2])]
     .have a6:k∉(fill locs 0 (xN locs m') m).dirty:=λh=>hk (al.dirty k h)
      rw[q3,b3]at a6;simp only[M1,not_or]at a6;rw[al.objs k (λh=>hk h),q5 k a6.2.1,ad,jc _ _ (by simp[a6.1,a6.2.1])]
     .refine al.dirty k ?_;rw[q3,b3];simp[hk]
    .exact hq.elim
   |exit i=>have hz:e= .exit i:=hz;subst hz;exact⟨.exit i,_,rfl,hq,a7,xi a0 rfl rfl⟩
   |ret=>have hz:e= .ret:=hz;subst hz;exact⟨.ret,_,rfl,hq,a7,xi a0 rfl rfl⟩
 |cond cd x y ihx ihy=>
  intro n Q s a w h hh;simp only[wpC]at h;split at h
  .rename_i d hd;obtain⟨F,ba,hc⟩:=hh;have he:=(xb hc cd).1;rw[hd]at he;cases d with
   |bool b=>
    have hb:a.eval cd= .bool b:=(λ(x:Value) (hx:CD w F (.bool b) x)=>(by cases hx;rfl:x= .bool b)) _ he;refine wp_cond hb ?_;cases b with
    |true=>rw[if_pos rfl];refine I3 (λe a' w' hp=>?_) (ihx n Q s a w h ⟨F,ba,hc⟩);obtain⟨z,s',hz,hq,hf,a0⟩:=hp;exact⟨z,s',hz,hq,hf.mono λt ht=>by simp[jI,ht],a0⟩
    |false=>rw[if_neg (by simp)];refine I3 (λe a' w' hp=>?_) (ihy _ Q s a w h ⟨F,ba,hc⟩);obtain⟨z,s',hz,hq,hf,a0⟩:=hp;exact⟨z,s',hz,hq,hf.mono λt ht=>by simp[jI,ht],a0⟩
   |_=>exact h.elim
  .exact h.elim
 |block id x ih=>
  intro n Q s a w h hh;simp only[wpC]at h;refine wp_block (I3 (λe a' w' hp=>?_) (ih n _ s a w h hh));obtain⟨z,s',hz,hq,hf,a0⟩:=hp;cases z with
  |normal=>have hz:e= .normal:=hz;subst hz;exact⟨.normal,s',rfl,hq,hf,a0⟩
  |exit i=>
   have hz:e= .exit i:=hz;subst hz;simp only at hq;unfold Exit.inBlock;split at hq
   .rename_i hi;have:=c2 hi;simp only[this,if_true];exact⟨.normal,s',rfl,hq,hf,a0⟩
   .rename_i hi;have:i≠id:=λe=>by subst e;simp at hi
    simp only[this,if_false];exact⟨.exit i,s',rfl,hq,hf,a0⟩
  |ret=>have hz:e= .ret:=hz;subst hz;exact⟨.ret,s',rfl,hq,hf,a0⟩
 |exit id=>intro n Q s a w h hh;exact wp_exit ⟨.exit id,s,rfl,h,I0 _ _,hh⟩
 |ret=>intro n Q s a w h hh;exact wp_ret ⟨.ret,s,rfl,h,I0 _ _,hh⟩
 |loop body ih=>
  intro n Q s a w h hh;simp only[wpC,VP]at h;split at h
  .exact h.elim
  rename_i m b5;generalize hmt:jI anns (n+1) body=mt at *;generalize hms:ZM body=ms at *;generalize hlocs:(anns n).locs=locs at *;obtain⟨b7,b0⟩:=h;obtain⟨hM,b6⟩:=Ye (C:=C) (B:=B) (F0:=F0) (w0:=w0) (a:=a) (w:=w) b5;have ap:(fill locs 0 (xN locs m) ⟨m.tmps,m.objs,[]⟩).tmps=m.tmps/\(fill locs 0 (xN locs m) ⟨m.tmps,m.objs,[]⟩).objs=m.objs:=
   wS (pre:=[]) (m:=⟨m.tmps,m.objs,[]⟩) hM.ok ⟨rfl,rfl,λ_ _=>rfl,λ_ _=>rfl⟩
  let S:List D->St:=λus=>fill locs 0 us ⟨m.tmps,m.objs,[]⟩
  let p:Act->World->Nat->Prop:=λa w k=>∃us,TypedL (HT locs) us/\(anns n).inv (xN (anns n).gh m) us/\I2 C B F0 w0 (S us) a w/\(anns n).meas us=k
  have h0:∃k,p a w k:=⟨_,xN locs m,xQ hM.ok,b7,xi (b6 hh) ap.1.symm ap.2.symm,rfl⟩;refine wp_loop (λa w=>∃k,p a w k) (λa w=>kf (p a w)) h0 λa1 w1 h1=>?_
  obtain⟨us,hty,hiv,hs,hme⟩:=Jw h1;have hb:=Gq b0 hty hiv;refine I3 (λe a' w' hp=>?_) (ih (n+1) _ (S us) a1 w1 hb hs);rw[hmt]at hp;obtain⟨z,s',hz,hq,hf,a0⟩:=hp;obtain⟨q1,q2,q3,q4,q5⟩:=kS (locs:=locs) (i:=0) (us:=us) (m:=⟨m.tmps,m.objs,[]⟩)
  --the frame from the loop's start to an end that leaves it
  have a7:Frame (qT locs++mt) s ⟨s'.tmps,s'.objs,s'.dirty++m.dirty⟩:=by
   refine⟨hf.lt.trans (q1.trans hM.lt),hf.lo.trans (q2.trans hM.lo),λt ht=>?_,λk hk=>?_,λk hk=>Ts _ (hM.dirty k (.inl hk))⟩
   .simp only[M1,not_or]at ht;show nth .any s'.tmps t=_;rw[hf.tmps t ht.2,q4 t ht.1];exact hM.tout t ht.2 ht.1
   .simp only[M1,not_or]at hk;show nth .none s'.objs k=_;rw[hf.objs k hk.1,q5 k λh=>hk.2 (hM.dirty k (.inr h))];exact hM.oout k hk.2
  cases z with
  |normal=>
   have hz:e= .normal:=hz;subst hz;simp only at hq;split at hq
   .exact hq.elim
   rename_i m' a3;obtain⟨a2,a5⟩:=Ye (C:=C) (B:=B) (F0:=F0) (w0:=w0) (a:=a') (w:=w') a3;unfold cnd at hq;split at hq
   .rename_i b8;obtain⟨hi',hm'⟩:=hq;have a4:Away locs ⟨m.tmps,m.objs,[]⟩ m':=by
     refine⟨(a2.lt.trans (hf.lt.trans q1)).symm,(a2.lo.trans (hf.lo.trans q2)).symm,λt ht=>?_,λk hk=>?_⟩
     .show nth .any m.tmps t=_;by_cases htm:t∈mt
      .rw[hM.tin t htm ht,a2.tin t htm ht]
      .rw[a2.tout t htm ht,hf.tmps t htm,q4 t ht]
     .show nth .none m.objs k=_;by_cases hkm:k∈ms
      .rw[hM.oin k hkm,a2.oin k hkm]
      .have a6:k∉m'.dirty:=λh=>by
        rcases M1.1 (WJ b8 k h)with h|h
        .exact hkm h
        .exact hk h
       rw[a2.oout k a6,hf.objs k λh=>a6 (a2.dirty k (.inl h)),q5 k hk]
    have b2:=wS (pre:=[]) (m:=⟨m.tmps,m.objs,[]⟩) a2.ok a4;have b4:p a' w' ((anns n).meas (xN locs m')):=⟨xN locs m',xQ a2.ok,hi',xi (a5 a0) b2.1.symm b2.2.symm,rfl⟩;refine⟨⟨_,b4⟩,?_⟩;have h3:=Jx b4;show kf (p a' w')<kf (p a1 w1);omega
   .exact hq.elim
  |exit i=>have hz:e= .exit i:=hz;subst hz;exact⟨.exit i,_,rfl,hq,by rw[jI,hlocs,hmt];exact a7,xi a0 rfl rfl⟩
  |ret=>have hz:e= .ret:=hz;subst hz;exact⟨.ret,_,rfl,hq,by rw[jI,hlocs,hmt];exact a7,xi a0 rfl rfl⟩
 |_=>intro n Q s a w h hh;exact h.elim
end
end Eng
end
section
namespace Eng
open Go Go.RowKit
variable [Env]
section
variable {C:Cx}
def Ze (F0:Nat->Prop) (B:Bd) (w:World):Nat->Prop:=λb=>F0 b\/(Own B b/\b<w.heap.size)
def O0 (tmps:Array Value) (r:ResultVar):Sem Value:=
 match r with
 | .tmp t=>pure (tmps.getD t undef)
 | .cell x t=>do loadVar t (<-asAddr (tmps.getD x undef))
theorem WM {F0:Nat->Prop} {w0:World} {B:Bd} {F:Nat->Prop} {loc:Where} {st:St} {a:Act} {w:World} (h:Conc C B F0 w0 F loc st a w) {cells:List V} {ds:List D} {xs:List Value} (hc:YY st.objs cells=some ds)
 (hv:All2 (λv x=>CV loc st.objs w F v x/\x.oneCell'=true) cells xs):All2 (CD w (Ze F0 B w)) ds xs:=by
 unfold YY at hc;split at hc
 .rename_i cs hcs;split at hc
  .rename_i ds' us hd;simp only[el]at hc;subst hc;rw[yg hcs]at hv;exact(yB h hd (JZ hv)).2 (Ze F0 B w) (λb hb=>by
    rcases h.fsub b hb with h'|h'
    .exact .inl h'
    .exact .inr ⟨h',h.bound b hb⟩) (λp _ b c hl=> .inr (h.fresh _ _ _ hl))
  .simp at hc
 .simp at hc
theorem Ik {F0:Nat->Prop} {w0:World} {B:Bd} {F:Nat->Prop} {loc:Where} {st:St} {a:Act} {w:World} (h:Conc C B F0 w0 F loc st a w) {v:V} {x:Value} {r:A} (hr:toR st.objs v=some r) (hv:CV loc st.objs w F v x):CA w (Ze F0 B w) r x:=by
 unfold toR at hr;split at hr
 .rename_i k n;split at hr
  .rename_i _ a0 hk;split at hr
   .rename_i ds hn hds;simp only[el]at hr;subst hr;obtain rfl:=c2 hn;obtain⟨b,c,hl,rfl⟩:=hv _ hk rfl;have a5:=h.objs k;rw[hk]at a5;obtain⟨b',c',cs,t',a3,_,a2,hsz,hlc,a1,_⟩:=a5;rw[hl]at a3;simp only[el,en]at a3;obtain⟨rfl,rfl⟩:=a3;have ad:∀j,j<a0.length->nth undef (cs.toList.take a0.length) j=nth undef cs.toList j:=λj hj=>by rw[qu,qu,List.getElem?_take,if_pos hj]
    have a7:(cs.toList.take a0.length).length=a0.length:=by simp;omega
    have h2:All2 (λv x=>CV loc st.objs w F v x/\x.oneCell'=true) a0 (cs.toList.take a0.length):=ja .any undef a7.symm λj hj=>by
     obtain⟨u,q1,q2,q3⟩:=a1 j hj;have e:nth undef cs.toList j=u:=by rw[qu];simp[q1]
     rw[ad j hj,e];exact⟨q2,q3⟩
    have a4:=WM h hds h2;have a6:=a4.length;rw[a7]at a6;have hf:∀l:List D,(l.map λd=>[d]).flatten=l:=λl=>by induction l with|nil=>rfl|cons _ _ ih=>simp[ih]
    show CD w (Ze F0 B w) (.sl (ds.map λd=>[d])) _;have:=CD.sl (w:=w) (F:=Ze F0 B w) (ds.map λd=>[d]) b 0 c 1 (λj=>nth undef (cs.toList.take a0.length) j) (by rw[P1];omega) (λe he=>by obtain⟨_,_,rfl⟩:=Sz.1 he;rfl) (.inr (h.fresh _ _ _ hl)) (λj hj=>by
     rw[P1,c6]at hj;rw[cH,xR a2,ad j (by omega),qu];simp[show j<cs.size by omega]) (λj hj=>by
     rw[P1,c6]at hj;rw[hf];exact a4.nth .undef undef _ _ j hj)
    rw[P1,a6]at this;exact this
   .simp at hr
  .simp at hr
 .split at hr
  .rename_i r' us h1;simp only[el]at hr;subst hr;exact(SX h h1 hv).2 (Ze F0 B w) (λb hb=>by
    rcases h.fsub b hb with h'|h'
    .exact .inl h'
    .exact .inr ⟨h',h.bound b hb⟩) (λp _ b c hl=> .inr (h.fresh _ _ _ hl))
  .simp at hr
theorem Q4 {F0:Nat->Prop} {w0:World} {B:Bd} {F:Nat->Prop} {loc:Where} {st:St} {a:Act} {w:World} (h:Conc C B F0 w0 F loc st a w):∀{rs:List ResultVar} {as:List A},resD C st rs=some as->
 ∃vs:List Value,(rs.mapM (O0 a.tmps)).run C.P w= .ok vs w/\All2 (CA w (Ze F0 B w)) as vs
 |[],as,hr=>by simp only[resD,el]at hr;subst hr;exact⟨[],rfl,trivial⟩
 | .tmp t::r,as,hr=>by
  simp only[resD]at hr;split at hr
  .rename_i d as' h1 h2;simp only[el]at hr;subst hr;obtain⟨vs,h3,h4⟩:=Q4 h h2;refine⟨a.tmps.getD t undef::vs,?_,?_,h4⟩
   .rw[bm];simp[h3,O0]
   .have hv:=(yd h t).1;exact Ik h h1 hv
  .simp at hr
 | .cell x t::r,as,hr=>by
  simp only[resD]at hr;split at hr
  .rename_i k hv;split at hr
   .rename_i cells z hk hz;split at hr
    .rename_i ds as' hlen hds h2;have hlen:cells.length=z.length:=of_decide_eq_true hlen;obtain⟨vs,h3,h4⟩:=Q4 h h2;have hx:=(yd h x).1;simp only[Act.eval]at hx;rw[hv]at hx;obtain⟨b,c,hl,hp⟩:=hx _ hk rfl;have hco:=h.objs k;rw[hk]at hco;obtain⟨b',c',cs,t',hl',hnF,hblk,hall,hrefs⟩:=hco;rw[hl]at hl';simp only[el,en]at hl';obtain⟨rfl,rfl⟩:=hl';have hl2:=hall.length;have hcell:∀j,j<z.length->w.cell? ⟨b,0+j,none⟩=some (nth undef cs.toList (0+j)):=λj hj=>by rw[cH,xR hblk,qm _ (by omega)];simp at hl2;simp[show j<cs.size by omega]
     have hFF:∀b,F b->Ze F0 B w b:=λb hb=>by
      rcases h.fsub b hb with h'|h'
      .exact .inl h'
      .exact .inr ⟨h',h.bound b hb⟩
     have hcd:All2 (CD w (Ze F0 B w)) ds cs.toList:=WM h hds hall;have hcs:∀n,n=cs.toList.length->JX (λj=>nth undef cs.toList j) 0 n=cs.toList:=λn hn=>by
      apply Kj undef
      .rw[hn];rw[yf]
      .intro i;by_cases hi:i<n
       .rw[Xk _ _ _ _ _ hi,cH]
       .rw[qF _ (by rw[yf];omega),qF _ (by omega)]
     have h1:=kp (P:=C.P) (w:=w) (b:=b) (o:=0) hz (λj=>nth undef cs.toList j) hcell;obtain⟨_,zv,_,_,hzc,_,_,hzt,_⟩:=xJ hz;have hpos:wz C.P t=false->0<z.length:=by intro hf;cases zv<;>simp[hf]at hzt<;>(subst hzc;simp[Value.cells])
     have a0:∀y,(Instr.loadAt t (.pointer (some ⟨b,0,none⟩))).run C.P w= .ok y w->(do loadVar t (<-asAddr (a.tmps.getD x undef)):Sem Value).run C.P w= .ok y w:=λy hy=>by
      have hp':a.tmps.getD x undef= .pointer (some ⟨b,0,none⟩):=hp;rw[hp']
      simpa [Instr.loadAt,Instr.sureAddr,asAddr]using hy
     have hlc:z.length=cs.toList.length:=by rw[<-hlen];exact hl2
     split at hr
     .rename_i ht;simp only[el]at hr;subst hr;rcases h1 with h1|⟨h1,_⟩
      .rw[ht]at h1;refine⟨.agg cs::vs,?_,⟨cs,rfl,hcd⟩,h4⟩;have h5:=a0 _ h1;rw[hcs _ hlc]at h5;rw[bm];simp only[Sem.run_bind,O0,h5,Result.andThen_ok,h3];rfl
      .rw[ht]at h1;simp at h1
     .rename_i ht;simp only[el]at hr;subst hr;rcases h1 with h1|⟨_,h1⟩
      .rw[ht]at h1;refine⟨nth undef cs.toList 0::vs,?_,?_,h4⟩
       .have h5:=a0 _ h1;rw[bm];simp only[Sem.run_bind,O0,h5,Result.andThen_ok,h3];rfl
       .have h6:=hpos ht;exact hcd.nth .undef undef _ _ 0 (by have:=hcd.length;omega)
      .have:=hpos ht;omega
    .simp at hr
   .simp at hr
  .simp at hr
theorem Pj {w:World} {F:Nat->Prop} {loc:Where} {objs:List Obj} {a:A} {v:Value} (h:CA w F a v):CV loc objs w F (SW a) v:=by
 cases a with
 |ag cs=>exact h
 |c d=>
  cases d with
  |ptr cs=>
   replace h:CD w F (.ptr cs) v:=h;cases h with
   |ptr cs b o vs hF hc hd=>
    refine⟨b,o,cs.length,by simp,by simp,⟨λe he=>by simp at he;rw[he],hF,λj hj=>?_⟩⟩;have hj:j<cs.length:=by simpa using hj
    exact⟨vs j,hc j hj,by simpa using hd j hj⟩
  |_=>exact h
omit [Env] in
theorem yT {objs:List Obj} (a:A):Ref objs (SW a):=by
 cases a with
 |c d=>cases d<;>trivial
 |ag cs=>trivial
theorem Q5 {w:World} {F:Nat->Prop} {loc:Where} {objs:List Obj}:∀{args:List A} {vs:List Value},All2 (CA w F) args vs->All2 (CV loc objs w F) (args.map SW) vs
 |[],[],_=>trivial
 |_::_,_::_,h=>⟨Pj h.1,Q5 h.2⟩
 |[],_::_,h=>h.elim
 |_::_,[],h=>h.elim
omit [Env] in
theorem vu {α β:Type} {R:α->β->Prop}:∀{as as':List α} {bs bs':List β},All2 R as bs->All2 R as' bs'->All2 R (as++as') (bs++bs')
 |[],_,[],_,_,h'=>h'
 |_::_,_,_::_,_,h,h'=>⟨h.1,vu h.2 h'⟩
 |[],_,_::_,_,h,_=>h.elim
 |_::_,_,[],_,h,_=>h.elim
omit [Env] in
theorem yU {α β:Type} {R:α->β->Prop} {a:α} {b:β} (h:R a b):∀n,All2 R (bh n a) (bh n b)
 |0=>trivial
 |n+1=>⟨h,yU h n⟩
omit [Env] in
theorem Zf {α:Type} (d:α):∀(n i:Nat),nth d (bh n d) i=d
 |0,_=>rfl
 |n+1,0=>rfl
 |n+1,i+1=>by simp only[List.replicate_succ,nth];exact Zf d n i
theorem vw {n:Nat} {args:List A} {vs:List Value} {w:World} {F:Nat->Prop} (hb:∀b,F b->b<w.heap.size) (hinv:Inv C F w) (hargs:All2 (CA w F) args vs):
 I2 C ⟨w.heap.size,λ_=>False⟩ F w (kn n args) {tmps:=vs.toArray++Array.replicate (n-vs.toArray.size) undef,defers:=[]} w:=by
 have a0:=hargs.length;refine⟨F,⟨C.P,λ_=>none,λ_=>0⟩,⟨rfl,BelowX.refl _ _,dl _,rfl,?_,λv hv=>?_,λk=>?_,λ_ _ _ _ _ h=>by simp at h,λ_ _ _ h=>by simp at h,hb,λb h=> .inl h,λ_ h=>h,hinv⟩⟩
 .simp only[kn,Array.toList_append,Array.toList_replicate,cb];rw[a0];exact vu (Q5 hargs) (yU trivial _)
 .simp only[kn,M1,Sz,List.mem_replicate]at hv;rcases hv with⟨x,_,rfl⟩|⟨_,rfl⟩
  .exact yT x
  .trivial
 .simp only[kn];rw[Zf];rfl
theorem Yg {fn:Func} {w:World} {F:Nat->Prop} {s':St} {a':Act} {w':World} {res:List A} (hh:I2 C ⟨w.heap.size,λ_=>False⟩ F w s' a' w') (has:resD C s' fn.results.toList=some res):
 a'.defers=[]/\∃v,(results fn a'.tmps).run C.P w'= .ok v w'/\Below w.heap.size w w'/\∃u,Ending.returned v= .returned u/\Qv w' (λb=>F b\/(w.heap.size<=b/\b<w'.heap.size)) res u:=by
 obtain⟨F',loc',a0⟩:=hh;obtain⟨us,h1,h2⟩:=Q4 a0 has;refine⟨a0.defers,if h:us.toArray.size=1 then us.toArray[0]else .tuple us.toArray,?_,a0.below.toBelow,_,rfl,?_⟩
 .unfold results;rw[Array.mapM_eq_mapM_toList];simp only[Sem.run_bind,map_eq_pure_bind];have h5:∀g:ResultVar->Sem Value,g=O0 a'.tmps->(fn.results.toList.mapM g).run C.P w'= .ok us w':=λg hg=>by rw[hg];exact h1
  rw[h5 _ (by funext r;cases r<;>rfl)];rfl
 .have hl:=h2.length;have h2:All2 (CA w' (λb=>F b\/(w.heap.size<=b/\b<w'.heap.size))) res us:=h2.mono λ_ _ h=>h.mono (λb hb=>hb.imp id λhb=>⟨hb.1.elim id False.elim,hb.2⟩) λ_ _=>rfl
  match res,us,h2 with
  |[a],[u],h2=>exact h2.1
  |[],[],h2=>exact⟨#[],rfl,trivial⟩
  |a::b::r,u::v::s,h2=>exact⟨(u::v::s).toArray,by simp,h2⟩
theorem qj [EffOk C] {anns:Nat->Ann} {f:Nat} {fn:Func} {args res:List A} (hm:C.P.follows .mixedOrders=true) (hf:C.P.funcs[f]? =some fn) (h:wpF C (Gives C) anns fn args (λr=>r=res)):Gives C f args res:=by
 intro w F vs hb a2 a0;unfold wpF at h;split at h
 .exact h.elim
 rename_i c hc;refine calls_of_wp hf hc ?_;refine I3 (λe a' w' hp=>?_) (Gr hm c 0 _ _ _ _ h (vw hb a2 a0));obtain⟨x,s',hx,hq,_,hh⟩:=hp;have a3:∀as,resD C s' fn.results.toList=some as->as=res->_:=λas a1 he=>Yg (fn:=fn) hh (he▸a1)
 cases x with
 |normal=>
  have hx:e= .normal:=hx;subst hx;simp only at hq;split at hq
  .rename_i as a1;exact a3 as a1 hq
  .exact hq.elim
 |ret=>
  have hx:e= .ret:=hx;subst hx;simp only at hq;split at hq
  .rename_i as a1;exact a3 as a1 hq
  .exact hq.elim
 |exit i=>exact hq.elim
end
end Eng
end
section
namespace Eng
open Go Go.RowKit
variable [Env]
def V6 (d m k:Nat):Nat:=match c5 k d with
 |true=>m
 |false=>k
def O1 (d m:Nat):V->V
 | .box k off=> .box (V6 d m k) off
 | .arr k=> .arr (V6 d m k)
 | .elt k i off=> .elt (V6 d m k) i off
 | .sub k off len=> .sub (V6 d m k) off len
 | .arrAt _ _ _ _=> .any
 | .boxAt k g=> .boxAt (V6 d m k) g
 | .tpo k as=> .tpo (V6 d m k) as
 | .agv _=> .any
 | .vec k n=> .vec (V6 d m k) n
 |v=>v
def Ko (d m:Nat):List V->List V
 |[]=>[]
 |v::r=>O1 d m v::Ko d m r
def ZW (d m:Nat):Obj->Obj
 | .box cells=> .box (Ko d m cells)
 | .bld T q=> .bld T (O1 d m q)
 | .vec cells=> .vec (Ko d m cells)
 |o=>o
def Uj (d m:Nat):List Obj->List Obj
 |[]=>[]
 |v::r=>ZW d m v::Uj d m r
def evict1 (d:Nat) (st:St):St:=
 match nth .none st.objs d with
 | .none=>st
 |o=>match Nat.blt d st.objs.length with
  |true=>⟨Ko d st.objs.length st.tmps,Uj d st.objs.length (upd st.objs d .none)++[ZW d st.objs.length o],[]⟩
  |false=>st
def evict:List Nat->St->St
 |[],st=>st
 |d::r,st=>evict r (evict1 d st)
omit [Env] in
theorem TR (d m k:Nat):V6 d m k=if k=d then m else k:=by
 unfold V6;split
 .rename_i h;rw[if_pos (c2 h)]
 .rename_i h;rw[if_neg λe=>by subst e;simp at h]
omit [Env] in
theorem jl (d m:Nat):∀l,Ko d m l=l.map (O1 d m)
 |[]=>rfl
 |v::r=>by simp only[Ko,M2];rw[jl d m r]
omit [Env] in
theorem Kp (d m:Nat):∀l,Uj d m l=l.map (ZW d m)
 |[]=>rfl
 |v::r=>by simp only[Uj,M2];rw[Kp d m r]
omit [Env] in
theorem Zg {α β:Type} (f:α->β) (d:α) (l:List α) (i:Nat):nth (f d) (l.map f) i=f (nth d l i):=by
 rw[qu,qu,List.getElem?_map];cases l[i]? <;>rfl
section
variable {C:Cx} {B:Bd} {F0:Nat->Prop} {w0:World} {F:Nat->Prop} {loc:Where} {st:St} {a:Act} {w:World}
omit [Env] in
theorem Ref.lt {objs:List Obj} {v:V} (h:Ref objs v):∀k∈qk v,k<objs.length:=by
 intro k hk;cases v<;>simp only[qk,W2,List.not_mem_nil]at hk<;>first|(subst hk;exact xk h)|exact xk (h k hk)
omit [Env] in
theorem Ref.ren {objs objs':List Obj} {d m:Nat} {v:V} (ho:∀k,k<objs.length->nth .none objs' (V6 d m k)=ZW d m (nth .none objs k)) (hr:Ref objs v):Ref objs' (O1 d m v):=by
 have hn:∀{o:Obj},o≠ .none->ZW d m o≠ .none:=λ{o} h=>by cases o<;>simp_all[ZW]
 have key:∀k,nth .none objs k≠ .none->nth .none objs' (V6 d m k)≠ .none:=λk h e=>hn h ((ho k (xk h)).symm.trans e)
 cases v<;>first|exact key _ hr|trivial
theorem CV.ren {loc':Where} {objs objs':List Obj} {d m:Nat} {v:V} {x:Value} (ho:∀k,k<objs.length->nth .none objs' (V6 d m k)=ZW d m (nth .none objs k)/\loc' (V6 d m k)=loc k) (hr:Ref objs v) (h:CV loc objs w F v x):CV loc' objs' w F (O1 d m v) x:=by
 have hl:=hr.lt;cases v with
 |box k off=>
  obtain⟨h1,h2⟩:=ho k (hl k (by simp[qk]));intro o hc a0;rw[h1]at hc;rw[h2];have hb:xZ (nth .none objs k)=true:=by rw[<-hc]at a0;revert a0;cases nth .none objs k<;>simp[ZW,xZ]
  exact h _ rfl hb
 |tpo k as=>obtain⟨h1,h2⟩:=ho k (hl k (by simp[qk]));obtain⟨x,ys,rfl,h3,h4⟩:=h;refine⟨x,ys,rfl,λs es fz hc=>?_,h4⟩;rw[h1]at hc;rw[h2];cases hk:nth .none objs k<;>rw[hk]at hc<;>simp only[ZW,reduceCtorEq]at hc;exact h3 _ _ _ (hk.trans hc)
 |arr k=>obtain⟨h1,h2⟩:=ho k (hl k (by simp[qk]));intro s es fz hc;rw[h1]at hc;rw[h2];cases hk:nth .none objs k<;>rw[hk]at hc<;>simp only[ZW,reduceCtorEq]at hc;exact h _ _ _ (hk.trans hc)
 |elt k i off=>obtain⟨h1,h2⟩:=ho k (hl k (by simp[qk]));intro s es fz hc;rw[h1]at hc;rw[h2];cases hk:nth .none objs k<;>rw[hk]at hc<;>simp only[ZW,reduceCtorEq]at hc;exact h _ _ _ (hk.trans hc)
 |sub k off len=>obtain⟨h1,h2⟩:=ho k (hl k (by simp[qk]));intro s es fz hc;rw[h1]at hc;rw[h2];cases hk:nth .none objs k<;>rw[hk]at hc<;>simp only[ZW,reduceCtorEq]at hc;exact h _ _ _ (hk.trans hc)
 |arrAt k g c t=>trivial
 |agv cs=>trivial
 |boxAt k g=>
  obtain⟨h1,h2⟩:=ho k (hl k (by simp[qk]));intro o hc a0;rw[h1]at hc;rw[h2];have hb:xZ (nth .none objs k)=true:=by rw[<-hc]at a0;revert a0;cases nth .none objs k<;>simp[ZW,xZ]
  exact h _ rfl hb
 |vec k n=>
  obtain⟨h1,h2⟩:=ho k (hl k (by simp[qk]));intro o hc a0;rw[h1]at hc;rw[h2];have hb:xZ (nth .none objs k)=true:=by rw[<-hc]at a0;revert a0;cases nth .none objs k<;>simp[ZW,xZ]
  exact h _ rfl hb
 |_=>exact h
omit [Env] in
theorem jA {α β γ:Type} {R:α->β->Prop} {R':γ->β->Prop} {f:α->γ}:∀{as:List α} {bs:List β},(∀a∈as,∀b,R a b->R' (f a) b)->All2 R as bs->All2 R' (as.map f) bs
 |[],[],_,_=>trivial
 |a::as,b::bs,h,h'=>⟨h a (by simp) b h'.1,jA (λc hc=>h c (by simp[hc])) h'.2⟩
 |[],_::_,_,h=>h.elim
 |_::_,[],_,h=>h.elim
set_option maxHeartbeats 1000000 in
theorem Uk {d:Nat} (hh:I2 C B F0 w0 st a w):I2 C B F0 w0 (evict1 d st) a w:=by
 unfold evict1;split
 .exact hh
 .rename_i hne;split
  .rename_i hd;rw[Nat.blt_eq]at hd;obtain⟨F,a0,h⟩:=hh;generalize hm:st.objs.length=m at *;generalize hobj:Uj d m (upd st.objs d .none)++[ZW d m (nth .none st.objs d)]=objs'
   let loc':Where:=⟨a0.P,λj=>if j=m then a0 d else if j=d then none else a0 j,λj=>if j=m then a0.ty d else a0.ty j⟩
   have a1:(Uj d m (upd st.objs d .none)).length=m:=by rw[Kp,P1,qi,hm]
   have a4:∀j,nth .none objs' j=if j=m then ZW d m (nth .none st.objs d)else if j=d then .none else ZW d m (nth .none st.objs j):=λj=>by
    rw[<-hobj];by_cases h1:j<m
    .rw[if_neg (by omega),qu,V1 (by omega),<-qu,Kp];have:=Zg (ZW d m) .none (upd st.objs d .none) j;have e:ZW d m .none= .none:=rfl;rw[e]at this;rw[this,xW];by_cases h2:j=d
     .subst h2;rw[if_pos ⟨rfl,by omega⟩,if_pos rfl];rfl
     .rw[if_neg λe=>h2 e.1.symm,if_neg h2]
    .by_cases h2:j=m
     .subst h2;rw[if_pos rfl,qu,Tk (by omega)];simp[a1]
     .rw[if_neg h2,if_neg (by omega),qF _ (by simp[a1];omega),qF _ (by omega)];rfl
   have ho:∀k,k<st.objs.length->nth .none objs' (V6 d m k)=ZW d m (nth .none st.objs k)/\loc' (V6 d m k)=a0 k:=λk hk=>by
    rw[TR,a4];by_cases hkd:k=d
    .subst hkd;simp[loc']
    .have:k≠m:=by omega
     simp[loc',hkd,this]
   have hlm:a0 m=none:=by have:=h.objs m;rw[qF _ (by omega)]at this;exact this
   have hld:∀{k b c},a0 k=some (b,c)->k<m:=λ{k b c} hk=>by
    rcases c4 k m with h'|h'
    .exact h'
    .have:=h.objs k;rw[qF _ (by omega)]at this;rw[this]at hk;simp at hk
   have a3:∀i,i<m->loc'.ty (V6 d m i)=a0.ty i:=λi hi=>by
    rw[TR];by_cases hid:i=d
    .simp[hid,loc']
    .have:i≠m:=by omega
     simp[hid,loc',this]
   have a5:∀(j k:Nat),loc' j=a0 k->loc'.ty j=a0.ty k->CO a0 st.objs w F k (nth .none st.objs k)->CO loc' objs' w F j (ZW d m (nth .none st.objs k)):=by
    intro j k hl hty hc;cases hk:nth .none st.objs k with
    |none=>rw[hk]at hc;exact hl.trans hc
    |dead=>rw[hk]at hc;exact hl.trans hc
    |box cells=>
     rw[hk]at hc;obtain⟨b,c,cs,t,h1,h2,h3,h4,h5⟩:=hc;refine⟨b,c,cs,t,hl.trans h1,h2,h3,?_,?_⟩
     .rw[jl];exact jA (λv hv x hx=>⟨CV.ren ho (h5 v hv) hx.1,hx.2⟩) h4
     .intro v hv;rw[jl]at hv;obtain⟨u,hu,rfl⟩:=Sz.1 hv;exact(h5 u hu).ren λk hk=>(ho k hk).1
    |vec cells=>
     rw[hk]at hc;obtain⟨b,c,cs,t,h1,h2,h3,h4,h5,h7,h8,h9⟩:=hc;have a2:(Ko d m cells).length=cells.length:=by rw[jl,P1]
     refine⟨b,c,cs,t,hl.trans h1,h2,h3,h4,by rw[a2];exact h5,λj hj=>?_,λv hv=>?_,h9.1,by rw[a2];exact h9.2⟩
     .rw[a2]at hj;obtain⟨x,q1,q2,q3⟩:=h7 j hj;refine⟨x,q1,?_,q3⟩;rw[jl,show(V.any:V)=O1 d m .any from rfl,Zg];exact CV.ren ho (h8 _ (kc hj)) q2
     .rw[jl]at hv;obtain⟨u,hu,rfl⟩:=Sz.1 hv;exact(h8 u hu).ren λk hk=>(ho k hk).1
    |bld T q=>
     rw[hk]at hc;obtain⟨b,c,p,v,h1,h2,h3,h4,h5,h6⟩:=hc;refine⟨b,c,p,v,hl.trans h1,h2,h3,h4,CV.ren ho h6.1 h5,h6.1.ren λk hk=>(ho k hk).1,λi hi=>?_⟩;cases q with
     |arr i'=>simp only[O1,V.arr.injEq]at hi;subst hi;have hlt:=Ref.lt h6.1 i' (by simp[qk]);rw[a3 i' (by omega)];exact h6.2 i' rfl
     |_=>simp[O1]at hi
    |arr s es fz=>rw[hk]at hc;obtain⟨h1,h2,h3,h4⟩:=hc;refine⟨h1,h2,h3,?_⟩;rw[hl,hty];exact h4
   refine⟨F,loc',h.prog,h.below,h.hB,h.defers,?_,?_,λj=>?_,?_,?_,h.bound,h.fsub,h.fsup,h.inv⟩
   .show All2 _ (Ko d m st.tmps) _;rw[jl];exact jA (λv hv x hx=>CV.ren ho (h.refs v hv) hx) h.tmps
   .intro v hv;have hv:v∈Ko d m st.tmps:=hv;rw[jl]at hv;obtain⟨u,hu,rfl⟩:=Sz.1 hv;exact(h.refs u hu).ren λk hk=>(ho k hk).1
   .show CO loc' objs' w F j (nth .none objs' j);rw[a4];split
    .rename_i e;exact a5 j d (by simp[loc',e]) (by simp[loc',e]) (h.objs d)
    .split
     .rename_i e1 e2;show loc' j=none;simp[loc',e2];omega
     .rename_i e1 e2;exact a5 j j (by simp[loc',e1,e2]) (by simp[loc',e1]) (h.objs j)
   .intro j j' b c c' g1 g2;simp only[loc']at g1 g2;split at g1<;>split at g2
    .rw[‹j=m›,‹j'=m›]
    .split at g2
     .simp at g2
     .exact absurd (h.inj _ _ _ _ _ g1 g2).symm ‹_›
    .split at g1
     .simp at g1
     .exact absurd (h.inj _ _ _ _ _ g1 g2) ‹_›
    .split at g1
     .simp at g1
     .split at g2
      .simp at g2
      .exact h.inj _ _ _ _ _ g1 g2
   .intro j b c g1;simp only[loc']at g1;split at g1
    .exact h.fresh _ _ _ g1
    .split at g1
     .simp at g1
     .exact h.fresh _ _ _ g1
  .exact hh
theorem Zh:∀(l:List Nat) {st:St},I2 C B F0 w0 st a w->I2 C B F0 w0 (evict l st) a w
 |[],_,h=>h
 |_::r,_,h=>Zh r (Uk h)
end
def Kq (k:Nat) (ds:List D):V->V
 | .box j off=>match c5 j k with
  |true=> .eref [ds] 0 off
  |false=> .box j off
 | .boxAt j g=>match c5 j k with
  |true=> .any
  |false=> .boxAt j g
 | .agv _=> .any
 |v=>v
def ZX (k:Nat) (ds:List D):List V->List V
 |[]=>[]
 |v::r=>Kq k ds v::ZX k ds r
def Pk (k:Nat) (ds:List D):Obj->Obj
 | .box cells=> .box (ZX k ds cells)
 | .bld T q=> .bld T (Kq k ds q)
 | .vec cells=> .vec (ZX k ds cells)
 |o=>o
def Zi (k:Nat) (ds:List D):List Obj->List Obj
 |[]=>[]
 |v::r=>Pk k ds v::Zi k ds r
def frz1 (k:Nat) (st:St):St:=
 match nth .none st.objs k with
 | .box cells=>match qA cells with
  |some ds=>⟨ZX k ds st.tmps,upd (Zi k ds st.objs) k .dead,[]⟩
  |none=>st
 |_=>st
omit [Env] in
theorem jm (k:Nat) (ds:List D):∀l,ZX k ds l=l.map (Kq k ds)
 |[]=>rfl
 |v::r=>by simp only[ZX,M2];rw[jm k ds r]
omit [Env] in
theorem Gs (k:Nat) (ds:List D):∀l,Zi k ds l=l.map (Pk k ds)
 |[]=>rfl
 |v::r=>by simp only[Zi,M2];rw[Gs k ds r]
section
variable {C:Cx} {B:Bd} {F0:Nat->Prop} {w0:World} {F:Nat->Prop} {loc:Where} {st:St} {a:Act} {w:World}
omit [Env] in
theorem Q6 {α β:Type} {R:α->β->Prop}:∀{as:List α} {bs:List β},All2 R as bs->∀a∈as,∃b,R a b
 |a::as,b::bs,h,x,hx=>by
  rcases Lv.1 hx with rfl|hx
  .exact⟨b,h.1⟩
  .exact Q6 h.2 x hx
theorem CV.frz {loc':Where} {objs objs':List Obj} {F':Nat->Prop} {k:Nat} {ds:List D} {cells:List V} {v:V} {x:Value} (hk:nth .none objs k= .box cells) (hF:∀b,F b->F' b) (hty:loc'.ty=loc.ty)
 (hn:∀j,nth .none objs' j=if j=k then .dead else Pk k ds (nth .none objs j)) (hl:∀j,j≠k->loc' j=loc j)
 (hp:∀b c,loc k=some (b,c)->Row w F' [ds] b 0 ds.length)
 (hr:Ref objs v) (h:CV loc objs w F v x):CV loc' objs' w F' (Kq k ds v) x/\Ref objs' (Kq k ds v):=by
 have hne:∀{o:Obj},o≠ .none->Pk k ds o≠ .none:=λ{o} h=>by cases o<;>simp_all[Pk]
 have a0:∀j,nth .none objs j≠ .none->nth .none objs' j≠ .none:=λj hj=>by
  rw[hn];split
  .simp
  .exact hne hj
 have a3:∀o:Obj,xZ (Pk k ds o)=xZ o:=λo=>by cases o<;>rfl
 have a1:∀j s es fz,nth .none objs' j= .arr s es fz->nth .none objs j= .arr s es fz/\loc' j=loc j:=λj s es fz hj=>by
  rw[hn]at hj;split at hj
  .simp at hj
  .rename_i e;refine⟨?_,hl j e⟩;cases hj2:nth .none objs j<;>rw[hj2]at hj<;>simp only[Pk,reduceCtorEq]at hj;exact hj
 cases v with
 |box j off=>
  simp only[Kq];by_cases a2:j=k
  .subst a2;rw[show c5 j j=true from ea j]
   dsimp only
   obtain⟨b,c,h1,rfl⟩:=h _ hk rfl;exact⟨⟨b,0,ds.length,by simp,by simp,hp b c h1⟩,trivial⟩
  .rw[show c5 j k=false from by rw[<-Hv,eb];exact a2];refine⟨λo hc hb=>?_,a0 j hr⟩;rw[hn,if_neg a2]at hc;have a4:xZ (nth .none objs j)=true:=by rw[<-a3,hc];exact hb
   obtain⟨b,c,h1,h2⟩:=h _ rfl a4;exact⟨b,c,by rw[hl j a2];exact h1,h2⟩
 |boxAt j g=>
  simp only[Kq];by_cases a2:j=k
  .subst a2;rw[show c5 j j=true from ea j];exact⟨trivial,trivial⟩
  .rw[show c5 j k=false from by rw[<-Hv,eb];exact a2];refine⟨λo hc hb=>?_,a0 j hr⟩;rw[hn,if_neg a2]at hc;have a4:xZ (nth .none objs j)=true:=by rw[<-a3,hc];exact hb
   obtain⟨⟨c,h1⟩,h2⟩:=h _ rfl a4;exact⟨⟨c,by rw[hl j a2];exact h1⟩,h2⟩
 |vec j n=>
  refine⟨λo hc hb=>?_,a0 j hr⟩;rw[hn]at hc;split at hc
  .subst hc;simp[xZ]at hb
  .rename_i a2;obtain⟨b,c,h1,h2⟩:=h _ rfl (by rw[<-a3,hc];exact hb);exact⟨b,c,by rw[hl j a2];exact h1,h2⟩
 |arr j=>refine⟨λs es fz hc=>?_,a0 j hr⟩;obtain⟨h1,h2⟩:=a1 j s es fz hc;rw[h2];exact h s es fz h1
 |elt j i off=>refine⟨λs es fz hc=>?_,a0 j hr⟩;obtain⟨h1,h2⟩:=a1 j s es fz hc;rw[h2];exact h s es fz h1
 |sub j off len=>refine⟨λs es fz hc=>?_,a0 j hr⟩;obtain⟨h1,h2⟩:=a1 j s es fz hc;rw[h2];exact h s es fz h1
 |arrAt j g c t=>refine⟨λs es fz hc=>?_,a0 j hr⟩;obtain⟨h1,h2⟩:=a1 j s es fz hc;rw[h2,hty];exact h s es fz h1
 |tpo j as=>obtain⟨y,ys,rfl,h3,h4⟩:=h;refine⟨⟨y,ys,rfl,λs es fz hc=>?_,h4.mono λ_ _ h=>h.mono hF λ_ _=>rfl⟩,a0 j hr⟩;obtain⟨h1,h2⟩:=a1 j s es fz hc;rw[h2];exact h3 s es fz h1
 |agv cs=>exact⟨trivial,trivial⟩
 |c d=>exact⟨CD.mono h hF λ_ _=>rfl,trivial⟩
 |ag cs=>obtain⟨vs,rfl,h⟩:=h;exact⟨⟨vs,rfl,h.mono λ_ _ h=>h.mono hF λ_ _=>rfl⟩,trivial⟩
 |tp as=>obtain⟨vs,rfl,h⟩:=h;exact⟨⟨vs,rfl,h.mono λ_ _ h=>h.mono hF λ_ _=>rfl⟩,trivial⟩
 |eref es i off=>obtain⟨b,o,a5,h1,h2,h3⟩:=h;exact⟨⟨b,o,a5,h1,h2,h3.mono hF λ_ _=>rfl⟩,trivial⟩
 |any=>exact⟨trivial,trivial⟩
 |no=>exact⟨h,trivial⟩
 |nilS=>exact⟨h,trivial⟩
 |gl g off=>exact⟨h,trivial⟩
 |fn f=>exact⟨h,trivial⟩
theorem Pm {k:Nat} (hh:I2 C B F0 w0 st a w):I2 C B F0 w0 (frz1 k st) a w:=by
 unfold frz1;split
 .rename_i ag hk;split
  .rename_i ds hds;obtain⟨F,loc,h⟩:=hh;have an:=h.objs k;rw[hk]at an;obtain⟨b0,c0,cs,t,a4,hnF,a6,a5,ap⟩:=an;have hlt:k<st.objs.length:=xk (by rw[hk];simp)
   let F':Nat->Prop:=λx=>F x\/x=b0
   have hF:∀b,F b->F' b:=λb hb=> .inl hb
   let loc':Where:=⟨loc.P,λj=>if j=k then none else loc j,loc.ty⟩
   have hl:∀j,j≠k->loc' j=loc j:=λj hj=>by simp[loc',hj]
   have hn:∀j,nth .none (upd (Zi k ds st.objs) k .dead) j=if j=k then .dead else Pk k ds (nth .none st.objs j):=λj=>by
    rw[Gs];by_cases hj:k=j
    .subst hj;rw[qb _ _ _ (by rw[P1];exact hlt),if_pos rfl]
    .rw[qa _ _ _ hj,if_neg (ec hj)];exact Zg (Pk k ds) .none st.objs j
   have al:All2 (CD w F) ds cs.toList:=zf (loc:=loc) (objs:=st.objs) hds (a5.mono λ_ _ h=>h.1);have ad:=al.length;have hp:∀b c,loc k=some (b,c)->Row w F' [ds] b 0 ds.length:=λb c hb=>by
    rw[a4]at hb;simp only[el,en]at hb;obtain⟨rfl,rfl⟩:=hb;refine⟨λe he=>by simp only[W2]at he;rw[he],.inr rfl,λj hj=>?_⟩;simp only[Pl,Nat.one_mul]at hj;refine⟨nth undef cs.toList j,?_,?_⟩
    .rw[cH,xR a6,qm _ (by omega)];simp at ad;simp[show j<cs.size by omega]
    .simp only[cg,List.flatten_nil,cm];exact(al.nth .undef undef _ _ j hj).mono hF λ_ _=>rfl
   have a2:∀v x,Ref st.objs v->CV loc st.objs w F v x->CV loc' (upd (Zi k ds st.objs) k .dead) w F' (Kq k ds v) x/\Ref (upd (Zi k ds st.objs) k .dead) (Kq k ds v):=λv x hr hv=>CV.frz (loc:=loc) (objs:=st.objs) hk hF rfl hn hl hp hr hv
   have a0:∀j b c,j≠k->loc j=some (b,c)->b≠b0:=λj b c hj hb e=>by subst e;exact hj (h.inj _ _ _ _ _ hb a4)
   refine⟨F',loc',h.prog,h.below,h.hB,h.defers,?_,λv hv=>?_,λj=>?_,λi j b c c' q1 q2=>?_,λj b c q=>?_,λb hb=>?_,λb hb=>?_,λb hb=>hF _ (h.fsup b hb),h.inv.mono hF λ_ _=>rfl⟩
   .show All2 _ (ZX k ds st.tmps) _;rw[jm];exact jA (λv hv x hx=>(a2 v x (h.refs v hv) hx).1) h.tmps
   .have hv:v∈ZX k ds st.tmps:=hv;rw[jm]at hv;obtain⟨u,hu,rfl⟩:=Sz.1 hv;obtain⟨x,hx⟩:=Q6 h.tmps u hu;exact(a2 u x (h.refs u hu) hx).2
   .show CO loc' _ w F' j (nth .none (upd (Zi k ds st.objs) k .dead) j);rw[hn];split
    .rename_i e;show loc' j=none;simp[loc',e]
    .rename_i e;have hc:=h.objs j;cases hj:nth .none st.objs j with
     |none=>rw[hj]at hc;exact(hl j e).trans hc
     |dead=>rw[hj]at hc;exact(hl j e).trans hc
     |box cells2=>
      rw[hj]at hc;obtain⟨b,c,a1,t2,h1,h2,h3,h4,h5⟩:=hc;refine⟨b,c,a1,t2,(hl j e).trans h1,λhb=>?_,h3,?_,λv hv=>?_⟩
      .rcases hb with hb|hb
       .exact h2 hb
       .exact a0 j b c e h1 hb
      .show All2 (λv x=>CV loc' (upd (Zi k ds st.objs) k .dead) w F' v x/\x.oneCell'=true) (ZX k ds cells2) a1.toList;rw[jm];exact jA (λv hv x hx=>⟨(a2 v x (h5 v hv) hx.1).1,hx.2⟩) h4
      .rw[jm]at hv;obtain⟨u,hu,rfl⟩:=Sz.1 hv;obtain⟨x,hx⟩:=Q6 h4 u hu;exact(a2 u x (h5 u hu) hx.1).2
     |vec cells2=>
      rw[hj]at hc;obtain⟨b,c,a1,t2,h1,h2,h3,h4,h5,h7,h8,h9⟩:=hc;have a7:(ZX k ds cells2).length=cells2.length:=by rw[jm,P1]
      have a3:∀j,j<cells2.length->∃x,a1[j]? =some x/\(CV loc' (upd (Zi k ds st.objs) k .dead) w F' (Kq k ds (nth .any cells2 j)) x/\Ref (upd (Zi k ds st.objs) k .dead) (Kq k ds (nth .any cells2 j)))/\x.oneCell'=true:=λj hj=>by obtain⟨x,q1,q2,q3⟩:=h7 j hj;exact⟨x,q1,a2 _ x (h8 _ (kc hj)) q2,q3⟩
      refine⟨b,c,a1,t2,(hl j e).trans h1,λhb=>?_,h3,h4,by rw[a7];exact h5,λi hi=>?_,λv hv=>?_,h9.1,by rw[a7];exact h9.2⟩
      .rcases hb with hb|hb
       .exact h2 hb
       .exact a0 j b c e h1 hb
      .rw[a7]at hi;obtain⟨x,q1,q2,q3⟩:=a3 i hi;refine⟨x,q1,?_,q3⟩;rw[jm k ds cells2,show(V.any:V)=Kq k ds .any from rfl,Zg];exact q2.1
      .rw[jm]at hv;obtain⟨u,hu,rfl⟩:=Sz.1 hv;obtain⟨i,hi,rfl⟩:=List.getElem_of_mem hu;obtain⟨x,_,q2,_⟩:=a3 i hi;rw[qm _ hi]at q2;exact q2.2
     |bld T q=>
      rw[hj]at hc;obtain⟨b,c,p,v,h1,h2,h3,h4,h5,h6,h7⟩:=hc;have h8:=a2 q v h6 h5;refine⟨b,c,p,v,(hl j e).trans h1,λhb=>?_,h3,h4,h8.1,h8.2,λi hi=>?_⟩
      .rcases hb with hb|hb
       .exact h2 hb
       .exact a0 j b c e h1 hb
      .have:q= .arr i:=by
        cases q with
        |arr m=>exact hi
        |box m off=>simp only[Kq]at hi;split at hi<;>simp at hi
        |boxAt m g=>simp only[Kq]at hi;split at hi<;>simp at hi
        |_=>simp only[Kq,reduceCtorEq]at hi
       exact h7 i this
     |arr s es fz=>
      rw[hj]at hc;obtain⟨h1,h2,h3,h4⟩:=hc;refine⟨h1,h2,h3,?_⟩;rcases h4 with⟨q1,q2⟩|⟨b,c,a1,t2,q1,q2,q3,q4,q5,q6,q7,q8⟩
      .exact .inl ⟨(hl j e).trans q1,q2⟩
      .refine .inr ⟨b,c,a1,t2,(hl j e).trans q1,?_,q3,q4,q5,λi hi=>?_,q7,q8⟩
       .cases fz with
        |true=>exact hF _ q2
        |false=>
         intro hb;rcases hb with hb|hb
         .exact q2 hb
         .exact a0 j b c e q1 hb
       .obtain⟨v,r1,r2⟩:=q6 i hi;exact⟨v,r1,r2.mono hF λ_ _=>rfl⟩
   .have e1:i≠k:=λe=>by simp[loc',e]at q1
    have e2:j≠k:=λe=>by simp[loc',e]at q2
    rw[hl i e1]at q1;rw[hl j e2]at q2;exact h.inj _ _ _ _ _ q1 q2
   .have e1:j≠k:=λe=>by simp[loc',e]at q
    rw[hl j e1]at q;exact h.fresh _ _ _ q
   .rcases hb with hb|hb
    .exact h.bound b hb
    .subst hb;exact(h.fresh _ _ _ a4).2
   .rcases hb with hb|hb
    .exact h.fsub b hb
    .subst hb;exact .inr (h.fresh _ _ _ a4).1
  .exact hh
 .exact hh
end
end Eng
end
section
namespace Eng
open Go Go.RowKit
variable [Env]
def kg:List A->Bool
 |[]=>true
 |a::r=>ZT a&&kg r
omit [Env] in
theorem kw {rs:List A} (h:kg rs=true):∀r∈rs,ZT r=true:=by
 induction rs with
 |nil=>intro r hr;simp at hr
 |cons a r ih=>
  simp only[kg,Dd]at h;intro x hx;rcases Lv.1 hx with rfl|hx
  .exact h.1
  .exact ih h.2 x hx
def Il (K:Nat->List A->Option (List A)):R->Option (V×List (Nat×Obj))
 | .fail=>none
 | .ok v up=>some (v,up)
 | .cond (dc:=dc) _ v up=>match dc with
  | .isTrue _=>some (v,up)
  | .isFalse _=>none
 | .look z row off ag=>match Nat.ble (off+z.length) row.length with
  |true=>some (match ag with|true=> .ag (seg row off z.length)|false=> .c (nth .undef (seg row off z.length) 0),[])
  |false=>none
 | .call f as sh up=>match K f as with
  |some rs=>match zi sh||kg rs with
   |true=>some (JR rs,up)
   |false=>none
  |none=>none
def Kr (K:Nat->List A->Option (List A)) (C:Cx) (ops:Array Oper) (o:Oper) (st:St):Option (V×List (Nat×Obj)):=
 match o.guard with
 |none=>Il K (xp C o (ev st) st.objs)
 |some (j,want)=>match vQ ops j with
  |none=>none
  |some t=>match nth .any st.tmps t with
   | .c (.bool c)=>match c,want with
    |true,true=>Il K (xp C o (ev st) st.objs)
    |false,false=>Il K (xp C o (ev st) st.objs)
    |true,false=>some (.no,[])
    |false,true=>some (.no,[])
   | .no=>some (.no,[])
   |_=>none
def O2 (K:Nat->List A->Option (List A)) (C:Cx) (ops:Array Oper):List Oper->St->Option St
 |[],st=>some st
 |o::r,st=>match Kr K C ops o st with
  |some (v,up)=>O2 K C ops r (st.put o.dst v up)
  |none=>none
def ZY (K:Nat->List A->Option (List A)) (C:Cx) (ops:Array Oper):List Oper->St->List Rec->Option (St×List Rec)
 |[],st,rs=>some (st,rs)
 |o::r,st,rs=>match Kr K C ops o st with
  |some (v,up)=>ZY K C ops r (st.put o.dst v up) (rs++[(opk o (ev st) st.objs,jz up [])])
  |none=>none
def settle1 (k i:Nat) (st:St):St:=
 match nth .none st.objs k with
 | .box cells=>match nth .any cells i with
  | .arr j=>match nth .none st.objs j with
   | .arr s es _=>⟨st.tmps,upd (upd st.objs j (.arr s es true)) k (.box (upd cells i (.c (.sl es)))),st.dirty⟩
   |_=>st
  |_=>st
 |_=>st
def settleN (k:Nat):Nat->St->St
 |0,st=>st
 |n+1,st=>settleN k n (settle1 k n st)
def Im:V->Bool
 | .arr _=>true
 |_=>false
def settle (k:Nat) (st:St):St:=
 match nth .none st.objs k with
 | .box cells=>match cells.any Im with
  |true=>settleN k cells.length st
  |false=>st
 |_=>st
def settleM:List Operand->St->St
 |[],st=>st
 |x::r,st=>settleM r (match ev st x with
  | .box k 0=>frz1 k st
  |_=>st)
def settleO (C:Cx):List Oper->St->St
 |[],st=>st
 |o::r,st=>settleO C r (match o.op with
  | .load t x=>match wz C.P t&&!C.keep t o.dst with
   |true=>match ev st x with
    | .box k _=>settle k st
    |_=>st
   |false=>st
  | .makeFunc _ _ captured=>settleM captured.toList st
  |_=>st)
def TS (st:St):St:=⟨st.tmps,st.objs,[]⟩
def Bc (K:Nat->List A->Option (List A)) (C:Cx) (ops:Array Oper) (draw:Bool) (st:St):Option St:=
 match draw with
 |false=>O2 K C ops ops.toList st
 |true=>match vm C ops.toList with
  |true=>O2 K C ops ops.toList st
  |false=>match ZY K C ops ops.toList st []with
   |some (s,rs)=>match wH C ops.toList rs with
    |true=>some s
    |false=>none
   |none=>none
def Ul (C:Cx):List Oper->List Nat
 |[]=>[]
 |o::r=>Tt C o++Ul C r
def jw (K:Nat->List A->Option (List A)) (C:Cx):Nat->Code->St->Option (X×St)
 |0,_,_=>none
 |n+1,c,st=>match c with
  | .skip=>some (.normal,st)
  | .region _ ops d=>match Bc K C ops d (settleO C ops.toList (evict (Ul C ops.toList) st))with
   |some s=>some (.normal,TS s)
   |none=>none
  | .seq a b=>match jw K C n a st with
   |some (.normal,s)=>jw K C n b s
   |r=>r
  | .cond c x y=>match ev st c with
   | .c (.bool true)=>jw K C n x st
   | .c (.bool false)=>jw K C n y st
   |_=>none
  | .block id c=>match jw K C n c st with
   |some (.exit i,s)=>match c5 i id with
    |true=>some (.normal,s)
    |false=>some (.exit i,s)
   |r=>r
  | .exit id=>some (.exit id,st)
  | .ret=>some (.ret,st)
  | .loop body=>match jw K C n body st with
   |some (.normal,s)=>jw K C n (.loop body) s
   |r=>r
  |_=>none
def y5 (tab:Nat->List A->Option (List A)) (C:Cx) (lim:Nat):Nat->Nat->List A->Option (List A)
 |0,_,_=>none
 |n+1,f,args=>match tab f args with
  |some rs=>some rs
  |none=>match C.P.funcs[f]? with
   |none=>none
   |some fn=>match fn.body with
    |none=>none
    |some c=>match jw (y5 tab C lim n) C lim c (kn fn.ntmps args)with
     |some (.normal,s)=>resD C s fn.results.toList
     |some (.ret,s)=>resD C s fn.results.toList
     |_=>none
section
variable {C:Cx} {B:Bd} {F0:Nat->Prop} {w0:World} {K:Nat->List A->Option (List A)}
theorem Yh (hK:∀f as rs,K f as=some rs->Gives C f as rs) {r:R} {v:V} {up:List (Nat×Obj)} (h:Il K r=some (v,up)):Out (Gives C) r v up:=by
 unfold Il at h;split at h
 .simp at h
 .simp only[el,en]at h;exact⟨h.1.symm,h.2.symm⟩
 .split at h
  .simp only[el,en]at h;exact⟨by assumption,h.1.symm,h.2.symm⟩
  .simp at h
 .split at h
  .rename_i hle;simp only[el,en]at h;exact⟨_,⟨rfl,Nat.le_of_ble_eq_true hle⟩,h.1.symm,h.2.symm⟩
  .simp at h
 .split at h
  .rename_i rs hrs;split at h
   .rename_i hf;simp only[el,en]at h;refine⟨rs,hK _ _ _ hrs,λhs=>kw ?_,h.1.symm,h.2.symm⟩
    simpa [hs]using hf
   .simp at h
  .simp at h
theorem Gt (hK:∀f as rs,K f as=some rs->Gives C f as rs) {ops:Array Oper} {o:Oper} {st:St} {v:V} {up:List (Nat×Obj)} (h:Kr K C ops o st=some (v,up)):Stp C (Gives C) ops o st v up:=by
 unfold Kr at h;split at h
 .rename_i hg;exact⟨true,by unfold yO;rw[hg],by rw[if_pos rfl];exact Yh hK h⟩
 .rename_i j a0 hg;split at h
  .simp at h
  .rename_i t ht;split at h
   .rename_i c hc;have hw:∀b,b=(c==a0)->yO ops o st.tmps b:=λb hb=>by unfold yO;rw[hg];exact⟨t,ht,.inl ⟨c,hc,hb⟩⟩
    split at h
    .exact⟨true,hw _ rfl,by rw[if_pos rfl];exact Yh hK h⟩
    .exact⟨true,hw _ rfl,by rw[if_pos rfl];exact Yh hK h⟩
    .simp only[el,en]at h;exact⟨false,hw _ rfl,by rw[if_neg (by simp)];exact⟨h.1.symm,h.2.symm⟩⟩
    .simp only[el,en]at h;exact⟨false,hw _ rfl,by rw[if_neg (by simp)];exact⟨h.1.symm,h.2.symm⟩⟩
   .rename_i hd;simp only[el,en]at h;exact⟨false,by unfold yO;rw[hg];exact⟨t,ht,.inr ⟨hd,rfl⟩⟩,by rw[if_neg (by simp)];exact⟨h.1.symm,h.2.symm⟩⟩
   .simp at h
theorem TT (hK:∀f as rs,K f as=some rs->Gives C f as rs) {ops:Array Oper}:∀(l:List Oper) (k:Nat) (s s':St),(∀j,l[j]? =ops[k+j]?)->O2 K C ops l s=some s'->∃rc,Tr C (Gives C) ops rc (be k l.length) s s'
 |[],_,s,s',_,h=>by simp only[O2,el]at h;subst h;exact⟨λ_=>([],[]),rfl,rfl⟩
 |o::l,k,s,s',hk,h=>by
  have h0:ops[k]? =some o:=by simpa using(hk 0).symm
  simp only[O2]at h;split at h
  .rename_i v up hs;obtain⟨rc,h3⟩:=TT hK l (k+1) _ _ (λj=>by have:=hk (j+1);simpa [cF,cL 1 j]using this) h;refine⟨λi=>if i=k then(opk o (ev s) s.objs,up.map (·.1))else rc i,?_⟩;rw[W1,W0];refine⟨o,h0,v,up,Gt hK hs,?_,h3.recs λi hi=>?_⟩
   .simp only[if_pos];exact⟨λ_ _ h=>h,λp hp=>Sz.2 ⟨p,hp,rfl⟩⟩
   .have:=(cc.1 hi).1;rw[if_neg (by omega)]
  .simp at h
theorem Gu (hK:∀f as rs,K f as=some rs->Gives C f as rs) {ops:Array Oper}:∀(l:List Oper) (k:Nat) (s s':St) (acc R:List Rec),(∀j,l[j]? =ops[k+j]?)->acc.length=k->ZY K C ops l s acc=some (s',R)->
 Tr C (Gives C) ops (λi=>nth ([],[]) R i) (be k l.length) s s'/\∃R',R=acc++R'
 |[],_,s,s',acc,R,_,_,h=>by simp only[ZY,el,en]at h;obtain⟨rfl,rfl⟩:=h;exact⟨⟨rfl,rfl⟩,[],by simp⟩
 |o::l,k,s,s',acc,R,hk,hacc,h=>by
  have h0:ops[k]? =some o:=by simpa using(hk 0).symm
  simp only[ZY]at h;split at h
  .rename_i v up hs;obtain⟨h3,R',hR⟩:=Gu hK l (k+1) _ _ _ _ (λj=>by have:=hk (j+1);simpa [cF,cL 1 j]using this) (by simp[hacc]) h;refine⟨?_,(opk o (ev s) s.objs,jz up [])::R',by rw[hR];simp⟩;rw[W1,W0];refine⟨o,h0,v,up,Gt hK hs,?_,h3⟩;have e:nth ([],[]) R k=(opk o (ev s) s.objs,jz up []):=by rw[hR,M0];have:=wQ ([],[]) acc ((opk o (ev s) s.objs,jz up [])::R') 0;rw[c3,hacc]at this;exact this
   simp only;rw[e];exact⟨λ_ _ h=>h,λp hp=>jr.2 (.inr ⟨p,hp,rfl⟩)⟩
  .simp at h
theorem Yi {k i:Nat} {st:St} {a:Act} {w:World} (hh:I2 C B F0 w0 st a w):I2 C B F0 w0 (settle1 k i st) a w:=by
 unfold settle1;split
 .rename_i a0 hk;split
  .rename_i j hi;split
   .rename_i s es fz hj;obtain⟨F,a1,h⟩:=hh;have hkj:k≠j:=by intro e;subst e;rw[hk]at hj;cases hj
    have h1:=h.freeze1 hj;generalize hF':(λb=>F b\/∃c,a1 j=some (b,c))=F' at h1;have hFF:∀b,F b->F' b:=λb hb=>by rw[<-hF'];exact .inl hb
    have hFj:∀b c,a1 j=some (b,c)->F' b:=λb c hb=>by rw[<-hF'];exact .inr ⟨c,hb⟩
    refine⟨F',a1,?_⟩;have hlt:k<st.objs.length:=by
     rcases c4 k st.objs.length with h|h
     .exact h
     .rw[qF _ h]at hk;simp at hk
    have a7:nth .none (upd st.objs j (.arr s es true)) k= .box a0:=by rw[qa _ _ _ (ec hkj)];exact hk
    have a5:k<(upd st.objs j (.arr s es true)).length:=by rw[qi];exact hlt
    have a2:Le (upd st.objs j (.arr s es true)) (upd (upd st.objs j (.arr s es true)) k (.box (upd a0 i (.c (.sl es))))) a1 a1:=by
     refine⟨rfl,λ_ _=>rfl,λj hj=>?_,λj o' hj hc hbx=>?_,λj s' es' fz' hj hc=>?_⟩
     .rw[xW];split
      .simp
      .exact hj
     .rw[xW]at hc;split at hc
      .rename_i e;rw[<-e.1];exact⟨by rw[a7];rfl,rfl⟩
      .exact⟨by rw[hc];exact hbx,rfl⟩
     .rw[xW]at hc;split at hc
      .simp at hc
      .exact⟨⟨_,_,hc,rfl⟩,rfl⟩
    refine h1.relocate a2 (λm=>?_) h1.inj h1.fresh;by_cases hm:k=m
    .subst hm;rw[qb _ _ _ a5];have h0:=h1.objs k;simp only at h0;rw[a7]at h0;obtain⟨b,c,cs,t,q1,q2,q3,q4,q5⟩:=h0;have hi0:i<a0.length:=by
      rcases c4 i a0.length with h|h
      .exact h
      .rw[qF _ h]at hi;simp at hi
     have hcl:=q4.length;have hx:=All2.nth .any undef a0 cs.toList i q4 hi0;rw[hi]at hx;have a3:=h1.objs j;simp only at a3;have a4:j<st.objs.length:=by
      rcases c4 j st.objs.length with h|h
      .exact h
      .rw[qF _ h]at hj;simp at hj
     have a6:nth .none (upd st.objs j (.arr s es true)) j= .arr s es true:=qb _ _ _ a4;rw[a6]at a3;have hcd:=Jj (F':=F') a6 a3 hx.1 (λ_ h=>h) hFj;refine⟨b,c,cs,t,q1,q2,q3,?_,λv hv=>?_⟩
     .have h6:All2 (λv x=>CV a1 (upd (upd st.objs j (.arr s es true)) k (.box (upd a0 i (.c (.sl es))))) w F' v x/\x.oneCell'=true) a0 cs.toList:=
       q4.mono_mem λv hv x hx=>⟨CV.le (λ_ h=>h) (λ_ _=>rfl) a2 (q5 v hv) hx.1,hx.2⟩
      have h7:=All2.upd (i:=i) (a:=V.c (.sl es)) (b:=nth undef cs.toList i) ⟨hcd,hx.2⟩ h6;have h8:upd cs.toList i (nth undef cs.toList i)=cs.toList:=by rw[xn,qm _ (by omega)];exact List.set_getElem_self _
      rw[h8]at h7;exact h7
     .rcases xL hv with hv|rfl
      .exact(q5 v hv).le a2
      .trivial
    .rw[qa _ _ _ hm];exact CO.le (λ_ h=>h) (λ_ _=>rfl) a2 rfl rfl (λ_ _ _=>⟨rfl,λh=>h⟩) (h1.objs m)
   .exact hh
  .exact hh
 .exact hh
theorem Zj {k:Nat} {a:Act} {w:World}:∀(n:Nat) {st:St},I2 C B F0 w0 st a w->I2 C B F0 w0 (settleN k n st) a w
 |0,_,h=>h
 |n+1,_,h=>Zj n (Yi h)
theorem Um {k:Nat} {st:St} {a:Act} {w:World} (hh:I2 C B F0 w0 st a w):I2 C B F0 w0 (settle k st) a w:=by
 unfold settle;split
 .split
  .exact Zj _ hh
  .exact hh
 .exact hh
theorem Zk {a:Act} {w:World}:∀(l:List Operand) {st:St},I2 C B F0 w0 st a w->I2 C B F0 w0 (settleM l st) a w
 |[],_,h=>h
 |x::l,st,h=>by
  refine Zk l ?_;split
  .exact Pm h
  .exact h
theorem yl {a:Act} {w:World}:∀(l:List Oper) {st:St},I2 C B F0 w0 st a w->I2 C B F0 w0 (settleO C l st) a w
 |[],_,h=>h
 |o::l,st,h=>by
  refine yl l ?_;split
  .split
   .split
    .exact Um h
    .exact h
   .exact h
  .exact Zk _ h
  .exact h
def ei (C:Cx) (B:Bd) (F0:Nat->Prop) (w0:World) (x:X) (s':St) (e:Exit) (a:Act) (w:World):Prop:=XM x e/\I2 C B F0 w0 s' a w
theorem C8 [EffOk C] (hm:C.P.follows .mixedOrders=true) (hK:∀f as rs,K f as=some rs->Gives C f as rs) {id:Nat} {ops:Array Oper} {d:Bool} {s s':St} {a:Act} {w:World} (h:Bc K C ops d s=some s') (hh:I2 C B F0 w0 s a w):
 (J3 id ops d).wp C.P (ei C B F0 w0 .normal s') a w:=by
 have hq:∀a w,I2 C B F0 w0 s' a w->ei C B F0 w0 .normal s' .normal a w:=λa w h=>⟨rfl,h⟩
 have a0:O2 K C ops ops.toList s=some s'->(d=true->vm C ops.toList=true)->(J3 id ops d).wp C.P (ei C B F0 w0 .normal s') a w:=λh hr=>by obtain⟨rc,ht⟩:=TT hK ops.toList 0 s s' (by simp) h;rw[Aw,<-U3]at ht;exact yP hm (λhd=>XX rc (hr hd)) ht hh hq
 unfold Bc at h;split at h
 .exact a0 h (by simp)
 .split at h
  .rename_i hr;exact a0 h λ_=>hr
  .split at h
   .rename_i s1 rs a1;split at h
    .rename_i hr;simp only[el]at h;subst h;obtain⟨ht,_⟩:=Gu hK ops.toList 0 s s1 [] rs (by simp) rfl a1;rw[Aw,<-U3]at ht;exact yP hm (λ_=>QP hr) ht hh hq
    .simp at h
   .simp at h
theorem Q7 [EffOk C] (hm:C.P.follows .mixedOrders=true) (hK:∀f as rs,K f as=some rs->Gives C f as rs):∀(n:Nat) (c:Code) (s s':St) (x:X) (a:Act) (w:World),jw K C n c s=some (x,s')->I2 C B F0 w0 s a w->c.wp C.P (ei C B F0 w0 x s') a w:=by
 intro n
 induction n using dv with
 |_ n ih=>
  intro c s s' x a w h hh;cases n with
  |zero=>simp[jw]at h
  |succ n=>
   cases c with
   |skip=>simp only[jw,el,en]at h;obtain⟨rfl,rfl⟩:=h;exact wp_skip ⟨rfl,hh⟩
   |region id ops d=>
    simp only[jw]at h;split at h
    .rename_i s1 h1;simp only[el,en]at h;obtain⟨rfl,rfl⟩:=h;have h3:=C8 (id:=id) hm hK h1 (yl _ (Zh _ hh));refine I3 (λe a w q=>?_) h3;obtain⟨q1,q2⟩:=q;exact⟨q1,xi q2 rfl rfl⟩
    .simp at h
   |seq p q=>
    simp only[jw]at h;split at h
    .rename_i s1 h1;refine wp_seq (I3 (λe a' w' hp=>?_) (ih n (by omega) p s s1 .normal a w h1 hh));obtain⟨he,a0⟩:=hp;have he:e= .normal:=he;subst he;exact ih n (by omega) q s1 s' x a' w' h a0
    .rename_i a2;refine wp_seq (I3 (λe a' w' hp=>?_) (ih n (by omega) p s s' x a w h hh));obtain⟨he,a0⟩:=hp;cases x with
     |normal=>exact absurd h (a2 s')
     |exit i=>have he:e= .exit i:=he;subst he;exact⟨rfl,a0⟩
     |ret=>have he:e= .ret:=he;subst he;exact⟨rfl,a0⟩
   |cond cd p q=>
    simp only[jw]at h;have hb:∀b,ev s cd= .c (.bool b)->a.eval cd= .bool b:=λb hb=>by obtain⟨F,loc,hc⟩:=hh;have he:=(xb hc cd).1;rw[hb]at he;exact(λ(x:Value) (hx:CD w F (.bool b) x)=>(by cases hx;rfl:x= .bool b)) _ he
    split at h
    .rename_i hc;exact wp_cond (hb _ hc) (by rw[if_pos rfl];exact ih n (by omega) p s s' x a w h hh)
    .rename_i hc;exact wp_cond (hb _ hc) (by rw[if_neg (by simp)];exact ih n (by omega) q s s' x a w h hh)
    .simp at h
   |block id p=>
    simp only[jw]at h;split at h
    .rename_i i s1 h1;refine wp_block (I3 (λe a' w' hp=>?_) (ih n (by omega) p s s1 _ a w h1 hh));obtain⟨he,a0⟩:=hp;have he:e= .exit i:=he;subst he;unfold Exit.inBlock;split at h
     .rename_i hi;simp only[el,en]at h;obtain⟨rfl,rfl⟩:=h;have:=c2 hi;simp only[this,if_true];exact⟨rfl,a0⟩
     .rename_i hi;simp only[el,en]at h;obtain⟨rfl,rfl⟩:=h;have:i≠id:=λe=>by subst e;simp at hi
      simp only[this,if_false];exact⟨rfl,a0⟩
    .rename_i a2;refine wp_block (I3 (λe a' w' hp=>?_) (ih n (by omega) p s s' x a w h hh));obtain⟨he,a0⟩:=hp;cases x with
     |normal=>have he:e= .normal:=he;subst he;exact⟨rfl,a0⟩
     |exit i=>exact absurd h (a2 i s')
     |ret=>have he:e= .ret:=he;subst he;exact⟨rfl,a0⟩
   |exit id=>simp only[jw,el,en]at h;obtain⟨rfl,rfl⟩:=h;exact wp_exit ⟨rfl,hh⟩
   |ret=>simp only[jw,el,en]at h;obtain⟨rfl,rfl⟩:=h;exact wp_ret ⟨rfl,hh⟩
   |loop body=>
    let p:Act->World->Nat->Prop:=λa w k=>k<=n+1/\∃s,jw K C k (.loop body) s=some (x,s')/\I2 C B F0 w0 s a w
    refine wp_loop (λa w=>∃k,p a w k) (λa w=>kf (p a w)) ⟨n+1,dl _,s,h,hh⟩ λa1 w1 h1=>?_
    obtain⟨hle,s1,hr,hs⟩:=Jw h1;generalize hk:kf (p a1 w1)=k at *;cases k with
    |zero=>simp[jw]at hr
    |succ k=>
     simp only[jw]at hr;split at hr
     .rename_i s2 hb;refine I3 (λe a' w' hp=>?_) (ih k (by omega) body s1 s2 .normal a1 w1 hb hs);obtain⟨he,a0⟩:=hp;have he:e= .normal:=he;subst he;have a3:p a' w' k:=⟨by omega,s2,hr,a0⟩;refine⟨⟨_,a3⟩,?_⟩;have:=Jx a3;show kf (p a' w')<k+1;omega
     .rename_i a2;refine I3 (λe a' w' hp=>?_) (ih k (by omega) body s1 s' x a1 w1 hr hs);obtain⟨he,a0⟩:=hp;cases x with
      |normal=>exact absurd hr (a2 s')
      |exit i=>have he:e= .exit i:=he;subst he;exact⟨rfl,a0⟩
      |ret=>have he:e= .ret:=he;subst he;exact⟨rfl,a0⟩
   |_=>simp[jw]at h
theorem z2 [EffOk C] {tab:Nat->List A->Option (List A)} {lim:Nat} (hm:C.P.follows .mixedOrders=true) (htab:∀f as rs,tab f as=some rs->Gives C f as rs):∀(n f:Nat) (args res:List A),y5 tab C lim n f args=some res->Gives C f args res:=by
 intro n
 induction n with
 |zero=>intro f args res h;simp[y5]at h
 |succ n ih=>
  intro f args res h;simp only[y5]at h;split at h
  .rename_i rs hrs;simp only[el]at h;subst h;exact htab _ _ _ hrs
  .split at h
   .simp at h
   rename_i fn hf;split at h
   .simp at h
   rename_i c hc;have a4:∀(x:X) (s:St),(x= .normal\/x= .ret)->jw (y5 tab C lim n) C lim c (kn fn.ntmps args)=some (x,s)->resD C s fn.results.toList=some res->Gives C f args res:=by
    intro x s hx hr a2 w F vs hb a1 a0;refine calls_of_wp hf hc (I3 (λe a' w' hp=>?_) (Q7 hm (λf as rs h=>ih f as rs h) lim c _ s x _ w hr (vw hb a1 a0)));obtain⟨he,hh⟩:=hp;have a3:=Yg (fn:=fn) hh a2;rcases hx with rfl|rfl
    .have he:e= .normal:=he;subst he;exact a3
    .have he:e= .ret:=he;subst he;exact a3
   split at h
   .rename_i s hr;exact a4 _ _ (.inl rfl) hr h
   .rename_i s hr;exact a4 _ _ (.inr rfl) hr h
   .simp at h
end
end Eng
end
section
namespace Eng
open Go Go.RowKit
variable [Env]
end Eng
end
section
namespace Eng
open Go Go.RowKit
variable [Env]
end Eng
end
section
namespace Eng
open Go Go.RowKit
variable [Env]
section
variable {C:Cx} {B:Bd} {F0:Nat->Prop} {w0:World} {F:Nat->Prop} {loc:Where} {st:St} {a:Act} {w:World}
end
end Eng
end
section
namespace Eng
open Go Go.RowKit
variable [Env]
section
variable {C:Cx} {B:Bd} {F0:Nat->Prop} {w0:World} {F:Nat->Prop} {loc:Where} {st:St} {a:Act} {w:World}
variable {dst:Option Nat} {ty:TypeId} {pos:String} {after:Array Edge} {g:Option (Nat×Bool)}
omit [Env] in
theorem z8 {f:Nat} {fn:Func} {args:Array Operand} {ts:Array TypeId} (hf:C.P.funcs[f]? =some fn) (hb:fn.body≠none) (hn:fn.name≠ "runtime.NumGoroutine")
 {R:Ending->World->Prop} (hc:Calls C.P f (args.map a.eval) w R) {next:Act->World->Prop} {Q:Exit->Act->World->Prop} (h:∀e w',R e w'->∃v,e= .returned v/\next (a.put dst v) w'):
 Oper.wp C.P ⟨dst,.call ⟨.value (.func f),args,ts⟩,ty,pos,after,g⟩ a w next Q:=by
 have a0:(execOp a.eval ⟨dst,.call ⟨.value (.func f),args,ts⟩,ty,pos,after,g⟩).run C.P w= .ok (.enter f (args.map a.eval)) w:=by simp[execOp,resolve,Act.eval,Deferred.ofValue,invoke,callFunc,hf,hn,hb]
 unfold Oper.wp;rw[a0,Oper.upon_enter];refine hc.mono λe w' he=>?_
 obtain⟨v,rfl,hx⟩:=h e w' he;exact hx
end
end Eng
end
section
namespace Eng
open Go Go.RowKit
variable [Env]
structure EffAt (C:Cx) (f:Nat) (e:Option Nat->List V->List Obj->R):Prop where
 rs:∀{B:Bd} {F0:Nat->Prop} {w0:World} {F:Nat->Prop} {loc:Where} {st:St} {a:Act} {w:World} {dst:Option Nat} {args:Array Operand} {ts:Array TypeId} {ty:TypeId} {pos:String} {after:Array Edge} {g:Option (Nat×Bool)},
  Conc C B F0 w0 F loc st a w->RSW C B F0 w0 st a w ⟨dst,.call ⟨.value (.func f),args,ts⟩,ty,pos,after,g⟩ (e dst (args.toList.map (ev st)) st.objs)
 ag:∀(dst:Option Nat) (vs:List V) (ob ob':List Obj),(∀k∈wA ob (vs.flatMap qk),nth .none ob k=nth .none ob' k)->(∀d,Aq (C.wd f) dst d->qy ob d=qy ob' d)->e dst vs ob=e dst vs ob'
 good:∀(dst:Option Nat) (vs:List V) (ob:List Obj),(∀v∈vs,∀k∈qk v,nth .none ob k≠ .none)->(∀k,∀u∈qW (nth .none ob k),∀j∈qk u,nth .none ob j≠ .none)->gF (C.wd f) dst (wA ob (vs.flatMap qk)) ob (e dst vs ob)
theorem qV {C:Cx} (h:∀f e,C.eff f=some e->EffAt C f e):EffOk C where
 rs hf _ _ _ _ _ _ _ _ _ _ _ _ _ _ _ hc:=(h _ _ hf).rs hc
 ag hf:=(h _ _ hf).ag
 good hf:=(h _ _ hf).good
end Eng
end
section
namespace Eng
open Go Go.RowKit Go.Sort
variable [Env]
def ej (by_ c:Int):List Int->Int
 |[]=>c
 |y::_=>J4.wrap (c+J4.wrap (J4.wrap y*by_))
def C9 (x c:Int):List Int->Int
 |[]=>Lm.wrap (x+c)
 |y::_=>Lm.wrap (Lm.wrap (x+c)+y)
def kj (by_:Int):List Int->List Int->Int->Int->List Int×Int×Int
 |[],_,c,b=>([],c,b)
 |x::us,vs,c,b=>
  let t:=ej by_ c vs
  let y:=J4.wrap (t.tmod 1000000000+b)
  match decide (J4.wrap x<y)with
  |true=>
   let r:=kj by_ us vs.tail (J4.wrap (t.tdiv 1000000000)) 1
   (Lm.wrap (J4.wrap (J4.wrap (J4.wrap x+1000000000)-y))::r.1,r.2)
  |false=>
   let r:=kj by_ us vs.tail (J4.wrap (t.tdiv 1000000000)) 0
   (Lm.wrap (J4.wrap (J4.wrap x-y))::r.1,r.2)
def ZN:List Int->List Int->Int->List Int
 |[],_,_=>[]
 |x::us,vs,c=>
  let t:=C9 x c vs
  match decide (1000000000<=t)with
  |true=>Lm.wrap (t-1000000000)::ZN us vs.tail 1
  |false=>t::ZN us vs.tail 0
omit [Env] in
theorem Zl (by_:Int):∀(us vs:List Int) (c b:Int),(kj by_ us vs c b).1.length=us.length
 |[],_,_,_=>rfl
 |x::us,vs,c,b=>by simp only[kj];split<;>simp[Zl by_ us]
omit [Env] in
theorem Zm:∀(us vs:List Int) (c:Int),(ZN us vs c).length=us.length
 |[],_,_=>rfl
 |x::us,vs,c=>by simp only[ZN];split<;>simp[Zm us]
structure SubK (P:Program) (fS fR:Nat):Prop where
 there:∀f,f=fS\/f=fR->∃fn,P.funcs[f]? =some fn/\fn.body≠none/\fn.name≠ "runtime.NumGoroutine"
 sub:∀{w:World} {g off cap bv ov cv:Nat} (us vs:List Int) (by_:Int),Holds (Ls .u32) w g off us.toArray->bv≠g->us.length<=1073741824->vs.length<=1073741824->
  (∀j (h:j<vs.length),w.cell? ⟨bv,ov+j,none⟩=some (.int .u32 vs[j]))->
  Calls P fS #[.slice (some ⟨g,off,none⟩) us.length cap,.slice (some ⟨bv,ov,none⟩) vs.length cv,.int .u64 by_] w λe w'=>
   e= .returned (.bool (decide (0<(kj by_ us vs 0 0).2.2)||decide (0<(kj by_ us vs 0 0).2.1)))/\w'=putRow (Ls .u32) w g off (kj by_ us vs 0 0).1.toArray
 res:∀{w:World} {g off cap bv ov cv:Nat} (us vs:List Int),Holds (Ls .u32) w g off us.toArray->bv≠g->us.length<=1073741824->vs.length<=1073741824->
  (∀j (h:j<vs.length),w.cell? ⟨bv,ov+j,none⟩=some (.int .u32 vs[j]))->
  Calls P fR #[.slice (some ⟨g,off,none⟩) us.length cap,.slice (some ⟨bv,ov,none⟩) vs.length cv] w λe w'=>
   e= .returned (.tuple #[])/\w'=putRow (Ls .u32) w g off (ZN us vs 0).toArray
def intB:List D->Bool
 |[.int .u32 _]=>true
 |_=>false
def ym:List (List D)->Bool
 |[]=>true
 |e::r=>intB e&&ym r
def gI:List D->Int
 |[.int _ n]=>n
 |_=>0
def xl (es:List (List D)):List Int:=es.map gI
def xD (l:List Int):List (List D):=l.map λn=>[.int .u32 n]
omit [Env] in
theorem Ks:∀{es:List (List D)},ym es=true->es=xD (xl es)
 |[],_=>rfl
 |e::r,h=>by
  simp only[ym,Dd]at h;have ih:=Ks h.2;have he:=h.1;unfold intB at he;split at he
  .simp only[xD,xl,M2,gI]at ih ⊢;rw[<-ih]
  .simp at he
omit [Env] in
theorem ZZ (l:List Int):(xD l).flatten=l.map (D.int .u32):=by
 induction l with
 |nil=>rfl
 |cons c l ih=>simp only[xD,M2,cg]at ih ⊢;rw[ih];rfl
omit [Env] in
theorem xE (l:List Int):(xD l).length=l.length:=by simp[xD]
omit [Env] in
theorem Jz (l:List Int):∀e∈xD l,e.length=1:=by
 intro e he;simp only[xD,Sz]at he;obtain⟨c,_,rfl⟩:=he;rfl
def kT (c:Prop) [Decidable c] (res:List Int->V) (new:List Int->List Int) (x:V) (ob:List Obj):R:=
 match x with
 | .sub k off len=>match nth .none ob k with
  | .arr s es false=>match c5 s 1 with
   |true=> .cond (c/\0<len/\off+len<=es.length/\ym ((es.drop off).take len)=true) (res (xl ((es.drop off).take len))) [(k,.arr 1 (es.take off++xD (new (xl ((es.drop off).take len)))++es.drop (off+len)) false)]
   |false=> .fail
  |_=> .fail
 |_=> .fail
def WN (_:Option Nat) (vs:List V) (ob:List Obj):R:=
 match vs with
 |[x,.c (.sl ys),.c (.int .u64 n)]=>kT (ys≠[]/\ym ys=true/\ys.length<=1073741824)
  (λus=> .c (.bool (decide (0<(kj n us (xl ys) 0 0).2.2)||decide (0<(kj n us (xl ys) 0 0).2.1)))) (λus=>(kj n us (xl ys) 0 0).1) x ob
 |_=> .fail
def WO (_:Option Nat) (vs:List V) (ob:List Obj):R:=
 match vs with
 |[x,.c (.sl ys)]=>kT (ys≠[]/\ym ys=true/\ys.length<=1073741824) (λ_=> .tp []) (λus=>ZN us (xl ys) 0) x ob
 |_=> .fail
omit [Env] in
theorem J0 {c:Prop} [Decidable c] {res:List Int->V} {new:List Int->List Int} {x:V} {ob ob':List Obj} (h:∀k∈wA ob (qk x),nth .none ob k=nth .none ob' k):kT c res new x ob=kT c res new x ob':=by
 cases x with
 |sub k off len=>simp only[kT];rw[h k (by simp[qk,qB])]
 |_=>rfl
omit [Env] in
theorem QS {wd:Bool} {dst:Option Nat} {c:Prop} [Decidable c] {res:List Int->V} {new:List Int->List Int} (hres:∀us,qk (res us)=[]) {x:V} {ob:List Obj}:gF wd dst (wA ob (qk x)) ob (kT c res new x ob):=by
 unfold kT;split
 .rename_i k off len;split
  .rename_i s es hk;split
   .refine⟨λp hp=>?_,λj hj=>by rw[hres]at hj;simp at hj⟩;simp only[W2]at hp;subst hp;exact⟨.inr ⟨by simp[qk,qB],by rw[hk];simp⟩,by simp,λu hu=>by simp[qW]at hu⟩
   .trivial
  .trivial
 .trivial
section
variable {C:Cx} {B:Bd} {F0:Nat->Prop} {w0:World} {F:Nat->Prop} {loc:Where} {st:St} {a:Act} {w:World}
variable {dst:Option Nat} {ty:TypeId} {pos:String} {after:Array Edge} {g:Option (Nat×Bool)}
theorem TU {k off len b c:Nat} {es:List (List D)} {us us':List Int} {v:V} {x:Value} (h:Conc C B F0 w0 F loc st a w) (hk:nth .none st.objs k= .arr 1 es false) (hl:loc k=some (b,c))
 (hle:off+len<=es.length) (hus:(es.drop off).take len=xD us) (hlen:us'.length=us.length)
 (hv:∀(loc:Where) (objs:List Obj) (w:World) (F:Nat->Prop),CV loc objs w F v x/\Ref objs v):
 I2 C B F0 w0 (st.put dst v [(k,.arr 1 (es.take off++xD us'++es.drop (off+len)) false)]) (a.put dst x) (putRow (Ls .u32) w b off us'.toArray):=by
 have hul:us.length=len:=by have:=congrArg c1 hus;rw[xE,bc,bd]at this;omega
 have a6:=h.objs k;rw[hk]at a6;obtain⟨a5,_,a1,a6⟩:=a6;rcases a6 with⟨h4,_⟩|⟨b',c',cs,t,h4,h5,h6,h7,h8,h9,h10,h11⟩
 .rw[h4]at hl;simp at hl
 rw[h4]at hl;simp only[el,en]at hl;obtain⟨rfl,rfl⟩:=hl;have hfk:=h.fresh _ _ _ h4;have hkl:k<st.objs.length:=xk (by rw[hk];simp);generalize hes':es.take off++xD us'++es.drop (off+len)=es' at *;have al:es'.length=es.length:=by rw[<-hes'];simp only[M3,bc,bd,xE];omega
 have a3:∀e∈es',e.length=1:=by
  rw[<-hes'];intro e he;simp only[M1]at he;rcases he with(he|he)|he
  .exact a1 e (List.mem_of_mem_take he)
  .exact Jz us' e he
  .exact a1 e (List.mem_of_mem_drop he)
 have hn:∀j,nth .none (upd st.objs k (.arr 1 es' false)) j=if j=k then .arr 1 es' false else nth .none st.objs j:=by
  intro j;by_cases h1:j=k
  .subst h1;rw[qb _ _ _ hkl,if_pos rfl]
  .rw[qa _ _ _ (ec h1),if_neg h1]
 have a0:∀β,β≠b'->(putRow (Ls .u32) w b' off us'.toArray).heap[β]? =w.heap[β]? :=by intro β hβ;show(w.heap.modify b' _)[β]? =_;rw[Bx,if_neg (ec hβ)]
 have a7:(putRow (Ls .u32) w b' off us'.toArray).heap[b']? =some (.cells (Lr (Ls .u32) off us'.toArray cs) t (0,0)):=by show(w.heap.modify b' _)[b']? =_;rw[Bx,if_pos rfl,h6];rfl
 have ag:∀β,F β->(putRow (Ls .u32) w b' off us'.toArray).heap[β]? =w.heap[β]? :=λβ hβ=>a0 β λe=>h5 (e▸hβ)
 have a4:Le st.objs (upd st.objs k (.arr 1 es' false)) loc loc:=by
  refine⟨rfl,λ_ _=>rfl,λj hj=>?_,λj o' hj hc hbx=>?_,λj s' es2 fz' hj hc=>?_⟩
  .rw[hn];split
   .simp
   .exact hj
  .rw[hn]at hc;split at hc
   .rw[<-hc]at hbx;simp[xZ]at hbx
   .exact⟨by rw[hc];exact hbx,rfl⟩
  .rw[hn]at hc;split at hc
   .rename_i e;subst e;simp only[Obj.arr.injEq]at hc;obtain⟨rfl,rfl,rfl⟩:=hc;exact⟨⟨es,false,hk,al⟩,rfl⟩
   .exact⟨⟨_,_,hc,rfl⟩,rfl⟩
 refine⟨F,loc,h.step (up:=[(k,.arr 1 es' false)]) (λ_ h=>h) ag a4 (h.below.trans ⟨rfl,rfl,rfl,by rw[size_putRow];exact dl _,λj hj hjX=>a0 j (λe=>by
  rcases hfk.1 with h1|h1
  .omega
  .exact hjX (e▸h1))⟩) (by rw[size_putRow];exact h.hB) (λj=>?_) h.inj (λj β c hβ=>by rw[size_putRow];exact h.fresh j β c hβ) (λβ hβ=>by rw[size_putRow];exact h.bound β hβ) h.fsub (hv _ _ _ _).1 (hv loc _ w F).2⟩
 show CO loc (upd st.objs k (.arr 1 es' false)) _ F j (nth .none (upd st.objs k (.arr 1 es' false)) j);rw[hn];by_cases h1:j=k
 .subst h1;rw[if_pos rfl];refine⟨by rw[al];exact a5,by omega,a3,.inr ⟨b',c',_,t,h4,h5,a7,?_,by omega,λi hi=>?_,h10,h11⟩⟩
  .simp only[Lr,Array.size_mapIdx];exact h7
  .rw[c6]at hi;obtain⟨u,hu,hcd⟩:=h9 i (by omega);have a2:=hcd.mono (F':=F) (λ_ h=>h) ag;have ad:(Lr (Ls .u32) off us'.toArray cs)[i]? =some (if off<=i/\i<off+us'.length then Ls .u32 (us'.toArray[i-off]!)else u):=by simp only[Lr,Array.getElem?_mapIdx,hu,Option.map_some,cb]
   refine⟨_,ad,?_⟩;have ap:∀(l:List (List D)),(∀e∈l,e.length=1)->∀i,i<l.length->nth .undef l.flatten i=nth .undef (nth [] l i) 0:=λl hl i hi=>by
    have:=xS hl i 0 hi (by omega)
    simpa using this
   rw[ap es' a3 i hi];rw[ap es a1 i (by omega)]at a2;by_cases hr:off<=i/\i<off+us'.length
   .rw[if_pos hr];have an:i-off<us'.length:=by omega
    have:nth [] es' i=[D.int .u32 (us'[i-off])]:=by
     rw[<-hes',qu,M0,Tk (by simp;omega),V1 (by simp[xE];omega)];have e1:i-(es.take off).length=i-off:=by simp;omega
     rw[e1];simp[xD,an]
    rw[this];have:us'.toArray[i-off]! =us'[i-off]:=by simp[an]
    rw[this];exact .int _ _
   .rw[if_neg hr];have:nth [] es' i=nth [] es i:=by
     rw[<-hes'];simp only[qu];by_cases h2:i<off
     .rw[M0,V1 (by simp;omega),bw h2]
     .rw[Tk (by simp[xE];omega),bF];congr 2;simp[xE];omega
    rw[this];exact a2
 .rw[if_neg h1];refine CO.le (λ_ h=>h) ag a4 rfl rfl (λβ c hβ=>⟨?_,λh=>h⟩) (h.objs j);refine a0 β λe=>?_
  subst e;exact h1 (h.inj _ _ _ _ _ hβ h4)
theorem J1 {f:Nat} {fn:Func} {x:Operand} {zs:List Operand} {c:Prop} [Decidable c] {res:List Int->V} {new:List Int->List Int} {args:Array Operand} {ts:Array TypeId}
 (h:Conc C B F0 w0 F loc st a w) (hf:C.P.funcs[f]? =some fn) (hb:fn.body≠none) (hn:fn.name≠ "runtime.NumGoroutine") (hargs:args.toList=x::zs)
 (hc:c->∀{g off cap:Nat} (us:List Int),Holds (Ls .u32) w g off us.toArray->¬F g->us.length<=1073741824->(new us).length=us.length/\∃rv,(∀(loc:Where) (objs:List Obj) (w:World) (F:Nat->Prop),CV loc objs w F (res us) rv/\Ref objs (res us))/\
  Calls C.P f (.slice (some ⟨g,off,none⟩) us.length cap::zs.map a.eval).toArray w λe w'=>e= .returned rv/\w'=putRow (Ls .u32) w g off (new us).toArray):
 RSW C B F0 w0 st a w ⟨dst,.call ⟨.value (.func f),args,ts⟩,ty,pos,after,g⟩ (kT c res new (ev st x) st.objs):=by
 have hx:=(xb h x).1;unfold kT;split
 .rename_i k off a7 hxv;rw[hxv]at hx;split
  .rename_i s es hk;split
   .rename_i hs;have hs:s=1:=c2 hs;subst hs;rintro⟨hcc,hl0,hle,a3⟩;have a3:=Ks a3;generalize hue:xl ((es.drop off).take a7)=us at *;obtain⟨b,cp,hl,hle2,hxe⟩:=(hx 1 es false hk).resolve_right (by rintro(⟨_,_,_,_,h4,_⟩|⟨_,_,_,h4,_⟩)<;>omega);have hul:us.length=a7:=by have:=congrArg c1 a3;rw[xE,bc,bd]at this;omega
    have a4:=h.objs k;rw[hk]at a4;obtain⟨a2,_,a6,a4⟩:=a4;rcases a4 with⟨h4,_⟩|⟨b',c',cs,t,h4,h5,h6,h7,h8,h9,h10,h11⟩
    .rw[h4]at hl;simp at hl
    rw[h4]at hl;simp only[el,en]at hl;obtain⟨rfl,rfl⟩:=hl;have a1:Holds (Ls .u32) w b' off us.toArray:=by
     intro j hj;have hj:j<us.length:=by simpa using hj
     obtain⟨u,hu,ad⟩:=h9 (off+j) (by omega);have hel:nth [] es (off+j)=[D.int .u32 us[j]]:=by
      have:nth [] ((es.drop off).take a7) j=nth [] es (off+j):=by simp only[qu];rw[bw (by omega),bF]
      rw[<-this,a3,qu];simp[xD,hj]
     have ag:=xS a6 (off+j) 0 (by omega) (by omega);rw[c6,c3,hel]at ag;rw[ag]at ad;have hu':u= .int .u32 us[j]:=by cases(ad:CD _ _ (.int .u32 us[j]) _);rfl
     subst hu';refine⟨?_,?_⟩
     .rw[Lib.cell_of_heap h6,hu];simp[hj]
     .exact Lib.frozen_of_heap h6 _
    have hr:us.length<=1073741824:=by have:es.length<=1073741824:=a2.one;omega
    obtain⟨a5,rv,hrv,a0⟩:=hc hcc (cap:=c'-off) us a1 h5 hr;intro next Q hnx
    have hae:(.slice (some ⟨b',off,none⟩) us.length (c'-off)::zs.map a.eval).toArray=args.map a.eval:=by apply Array.ext';rw[Array.toList_map,hargs,M2,hxe,hul,c6]
    rw[hae]at a0;refine z8 hf hb hn a0 λe w' he=>?_
    obtain⟨rfl,rfl⟩:=he;exact⟨_,rfl,hnx _ _ (TU h hk h4 hle a3 a5 hrv)⟩
   .trivial
  .trivial
 .trivial
theorem Gw {ys:List (List D)} {x:Value} (hx:CD w F (.sl ys) x) (hne:ys≠[]) (hl:ym ys=true):∃b o c,x= .slice (some ⟨b,o,none⟩) (xl ys).length c/\F b/\∀j (hj:j<(xl ys).length),w.cell? ⟨b,o+j,none⟩=some (.int .u32 (xl ys)[j]):=by
 have hys:=Ks hl;generalize xl ys=l at *;obtain⟨ad,c,a2,hlc,a0⟩:=hx.slice_inv;rcases a0 with h0|⟨b,o,a1,rfl,a0⟩
 .exact absurd h0 hne
 .subst hys;have hs1:a1=1:=by obtain⟨e,r,he⟩:=List.exists_cons_of_ne_nil hne;have h1:=a0.hs e (by rw[he];simp);have h2:=Jz l e (by rw[he];simp);omega
  subst hs1;rw[xE]at a2;refine⟨b,o,c,a2,a0.hF,λj hj=>?_⟩;obtain⟨v,h1,h2⟩:=a0.hc j (by rw[xE];omega);rw[ZZ,qm _ (by simpa using hj),List.getElem_map]at h2;have:v= .int .u32 l[j]:=by cases(h2:CD _ _ (.int .u32 l[j]) _);rfl
  rw[h1,this]
omit [Env] in
theorem QT (ys:List (List D)):(xl ys).length=ys.length:=by simp[xl]
theorem WP {fS fR:Nat} (hk:SubK C.P fS fR):EffAt C fS WN:=by
 refine⟨λ{B F0 w0 F loc st a w dst args ts ty pos after g} h=>?_,λdst vs ob ob' h hd=>?_,λdst vs ob hv hb=>?_⟩
 .unfold WN;split
  .rename_i v ys n a0;obtain⟨x,y2,z,hax,hx,hy,hz⟩:∃x y2 z,args.toList=[x,y2,z]/\ev st x=v/\ev st y2= .c (.sl ys)/\ev st z= .c (.int .u64 n):=by
    match hl:args.toList with
    |[]=>rw[hl]at a0;simp at a0
    |[x]=>rw[hl]at a0;simp at a0
    |[x,y]=>rw[hl]at a0;simp at a0
    |[x,y,z]=>rw[hl]at a0;simp only[M2,bb,List.cons.injEq]at a0;exact⟨x,y,z,rfl,a0.1,a0.2.1,a0.2.2.1⟩
    |_::_::_::_::_=>rw[hl]at a0;simp at a0
   obtain⟨fn,hf,hb,hn⟩:=hk.there fS (.inl rfl);have a6:=(xb h y2).1;rw[hy]at a6;have a4:=(xb h z).1;rw[hz]at a4;have a4:=kM a4;rw[<-hx];refine J1 (zs:=[y2,z]) h hf hb hn hax ?_;rintro⟨hne,a2,a3⟩ g off cap us hH hnF a5;obtain⟨b,o,c,hye,hF,a1⟩:=Gw a6 hne a2;refine⟨Zl _ _ _ _ _,_,λloc objs w F=>⟨CD.bool _,trivial⟩,?_⟩;have:=hk.sub (cap:=cap) (cv:=c) us (xl ys) n hH (λe=>hnF (e▸hF)) a5 (by rw[QT];exact a3) a1;rw[M2,M2,bb,hye,a4];exact this
  .trivial
 .unfold WN;split
  .exact J0 λk hk=>h k (by simpa [qk]using hk)
  .rfl
 .unfold WN;split
  .rename_i x ys n;have:=λwd=>QS (wd:=wd) (dst:=dst) (ob:=ob) (x:=x) (c:=ys≠[]/\ym ys=true/\ys.length<=1073741824) (res:=λus=> .c (.bool (decide (0<(kj n us (xl ys) 0 0).2.2)||decide (0<(kj n us (xl ys) 0 0).2.1)))) (new:=λus=>(kj n us (xl ys) 0 0).1) (λ_=>rfl)
   simpa [qk]using this _
  .trivial
theorem WQ {fS fR:Nat} (hk:SubK C.P fS fR):EffAt C fR WO:=by
 refine⟨λ{B F0 w0 F loc st a w dst args ts ty pos after g} h=>?_,λdst vs ob ob' h hd=>?_,λdst vs ob hv hb=>?_⟩
 .unfold WO;split
  .rename_i v ys a0;obtain⟨x,y2,hax,hx,hy⟩:∃x y2,args.toList=[x,y2]/\ev st x=v/\ev st y2= .c (.sl ys):=by
    match hl:args.toList with
    |[]=>rw[hl]at a0;simp at a0
    |[x]=>rw[hl]at a0;simp at a0
    |[x,y]=>rw[hl]at a0;simp only[M2,bb,List.cons.injEq]at a0;exact⟨x,y,rfl,a0.1,a0.2.1⟩
    |_::_::_::_=>rw[hl]at a0;simp at a0
   obtain⟨fn,hf,hb,hn⟩:=hk.there fR (.inr rfl);have a5:=(xb h y2).1;rw[hy]at a5;rw[<-hx];refine J1 (zs:=[y2]) h hf hb hn hax ?_;rintro⟨hne,a2,a3⟩ g off cap us hH hnF a4;obtain⟨b,o,c,hye,hF,a1⟩:=Gw a5 hne a2;refine⟨Zm _ _ _,_,λloc objs w F=>⟨⟨#[],rfl,trivial⟩,trivial⟩,?_⟩;have:=hk.res (cap:=cap) (cv:=c) us (xl ys) hH (λe=>hnF (e▸hF)) a4 (by rw[QT];exact a3) a1;rw[M2,bb,hye];exact this
  .trivial
 .unfold WO;split
  .exact J0 λk hk=>h k (by simpa [qk]using hk)
  .rfl
 .unfold WO;split
  .rename_i x ys;have:=λwd=>QS (wd:=wd) (dst:=dst) (ob:=ob) (x:=x) (c:=ys≠[]/\ym ys=true/\ys.length<=1073741824) (res:=λ_=> .tp []) (new:=λus=>ZN us (xl ys) 0) (λ_=>rfl)
   simpa [qk]using this _
  .trivial
end
end Eng
end
