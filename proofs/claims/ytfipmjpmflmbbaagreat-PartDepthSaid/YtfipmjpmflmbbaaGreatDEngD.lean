/- The engine, part 21: code, loops, functions. -/
import Derived.Test.YtfipmjpmflmbbaaGreatDEngC
import Derived.Deep.AppendSrc
import Derived.Laws.Externs
import Derived.Lib.Bytealg
import Derived.Sort.Row
import Derived.Lib.Builder
open Array renaming length_toList→Aw, getElem?_modify→Bx
open Bool renaming and_eq_true→Dd, false_eq_true→F2, not_eq_true→Hu
open Eng.D renaming undef→Hv, sl→Hx
open Eng.Frame renaming refl→Hy, trans'→I0
open Eng.St renaming has→I1
open Go.Code renaming wp_mono→I2, region→I3
open Go.IntKind renaming u64→J3, u32→J4
open Go.Sort renaming putCells→J7
open Go.Value renaming int→J8
open List renaming mem_cons→J9, append_assoc→Lm, mem_append→Lr, map_cons→Ls, length_append→Lv, singleton_append→M0, length_singleton→M1, length_map→M2, mem_map→M3, getElem?_append_right→No, mem_append_right→Pl, cons_append→P1, range_eq_range'→Ts, getElem?_append_left→T1, range'_succ→U0, length_cons→U3, mem_singleton→V1, map_nil→W0, length_take→W1, length_drop→W2, range'→bd, replicate→be, mapM_cons→bh, getElem?_take_of_lt→bm, mem_of_getElem?→bw, getElem?_drop→bx, size_toArray→ca, mem_range'_1→cb, flatten_cons→cc, append_nil→cg, length→cr
open Nat renaming eq_of_beq_eq_true→c1, add_zero→c2, lt_or_ge→c3, beq→cH, mul_one→cL, add_assoc→dl, zero_add→dn, add_comm→ea, le_refl→eb, strongRecOn→ed, beq_refl→el, beq_eq→en
open Ne renaming symm→er
open Option.some renaming injEq→ey
open Prod.mk renaming injEq→ez
section
namespace Eng
open Go Go.RowKit
theorem Yn {α:Type} (d:α) {l l':List α} (hl:l.length=l'.length) (h:∀i,nth d l i=nth d l' i):l=l':=by
 apply List.ext_getElem hl;intro i h1 h2;have:=h i
 rwa [qo _ h1,qo _ h2]at this
structure Away (locs:List Loc) (m s1:St):Prop where
 lt:m.tmps.length=s1.tmps.length
 lo:m.objs.length=s1.objs.length
 tmps:∀t,t∉qT locs→nth .any m.tmps t=nth .any s1.tmps t
 objs:∀k,k∉xm locs→nth .none m.objs k=nth .none s1.objs k
theorem xn {α:Type} {d:α} {l:List α} {i:Nat} (h:nth d l i≠d):i<l.length:=by
 rcases c3 i l.length with h'|h'
 ·exact h'
 ·exact absurd (qJ _ h') h
theorem yk {α:Type} (d:α) (pre r:List α) (i:Nat):nth d (pre++r) (pre.length+i)=nth d r i:=by
 rw[qI,qI,No (by omega),Nat.add_sub_cancel_left]
theorem yl:∀{zs:List Value} {cells:List V} {pre r:List D},xq zs cells=true→putCells zs pre.length (pre++(cells.map toC++r))=cells
 |[],[],_,_,_=>rfl
 |z::zs,v::vs,pre,r,h=>by
  simp only[xq,Dd]at h;have hv:V.c (toC v)=v:=by cases v<;>simp_all[isC,toC]
  simp only[putCells,Ls,P1];have h1:=yk Hv pre (toC v::(vs.map toC++r)) 0;rw[c2]at h1;rw[h1];have h2:=yl (pre:=pre++[toC v]) (r:=r) h.2;simp only[Lv,M1,Lm,M0]at h2;rw[h2];simp only[nth,hv]
 |[],_::_,_,_,h=>by simp[xq]at h
 |_::_,[],_,_,h=>by simp[xq]at h
theorem Qk:∀{zs:List Value} {cells:List V},xq zs cells=true→cells.length=zs.length
 |[],[],_=>rfl
 |z::zs,v::vs,h=>by simp only[xq,Dd]at h;simp[Qk h.2]
 |[],_::_,h=>by simp[xq]at h
 |_::_,[],h=>by simp[xq]at h
theorem Yo {ob:List Obj}:∀{ms:List MC} {cells:List V},wu ms cells ob=true→(G6 ms cells ob).length=ms.length
 |[],[],_=>rfl
 | .dat z::ms,v::vs,h=>by simp only[wu,Dd]at h;simp[G6,Yo h.2]
 | .own key size::ms,v::vs,h=>by simp only[wu,Dd]at h;simp[G6,Yo h.2]
 |[],_::_,h=>by simp[wu]at h
 | .dat _::_,[],h=>by simp[wu]at h
 | .own .. ::_,[],h=>by simp[wu]at h
theorem Sl {ob1:List Obj} {R:List D}:∀{ms:List MC} {cells:List V} {pre:List D},wu ms cells ob1=true→ay ms pre.length (pre++(G6 ms cells ob1++R))=cells∧
 ∀ob:List Obj,ob.length=ob1.length→(ME ms pre.length (pre++(G6 ms cells ob1++R)) ob).length=ob1.length∧∀j,nth .none (ME ms pre.length (pre++(G6 ms cells ob1++R)) ob) j=if j∈z4 ms then nth .none ob1 j else nth .none ob j
 |[],[],pre,_=>⟨rfl,fun ob ho=>⟨ho,fun j=>by simp[z4,ME]⟩⟩
 | .dat z::ms,v::vs,pre,h=>by
  simp only[wu,Dd]at h;have hv:V.c (toC v)=v:=by cases v<;>simp_all[isC,toC]
  have h1:=yk Hv pre (toC v::(G6 ms vs ob1++R)) 0;rw[c2]at h1;obtain⟨h2,h3⟩:=Sl (R:=R) (pre:=pre++[toC v]) h.2;simp only[Lv,M1,Lm,M0]at h2 h3;refine⟨?_,?_⟩
  ·simp only[ay,G6,P1];rw[h1,h2];simp only[nth,hv]
  ·simp only[ME,G6,P1,z4];exact h3
 | .own key size::ms,v::vs,pre,h=>by
  simp only[wu,Dd]at h;obtain⟨ho,h⟩:=h;unfold ax at ho;split at ho
  ·rename_i a3;split at ho
   ·rename_i sz es hk;simp only[Dd]at ho;obtain rfl:=c1 ho.1;obtain rfl:=c1 ho.2;have hr:Ek a3 ob1= .sl es:=by simp only[Ek,hk]
    have h1:=yk Hv pre (Hx es::(G6 ms vs ob1++R)) 0;rw[c2]at h1;obtain⟨h2,h3⟩:=Sl (R:=R) (pre:=pre++[Hx es]) h;simp only[Lv,M1,Lm,M0]at h2 h3;have a4:a3<ob1.length:=xn (by rw[hk];simp);refine⟨?_,?_⟩
    ·simp only[ay,G6,P1,hr];rw[h2]
    ·intro ob a5;simp only[ME,G6,P1,hr,h1,nth,toL];obtain⟨h4,h5⟩:=h3 (upd ob a3 (.arr sz es false)) (by rw[qk];exact a5);refine⟨h4,fun j=>?_⟩;rw[h5 j];simp only[z4,J9];by_cases hj:j∈z4 ms
     ·simp[hj]
     ·simp only[hj,if_false,or_false];by_cases hjk:j=a3
      ·subst hjk;rw[if_pos rfl,qg _ _ _ (by rw[a5];exact a4),hk]
      ·rw[if_neg hjk,qe _ _ _ (er hjk)]
   ·simp at ho
  ·simp at ho
 |[],_::_,_,h=>by simp[wu]at h
 | .dat _::_,[],_,h=>by simp[wu]at h
 | .own .. ::_,[],_,h=>by simp[wu]at h
theorem ym:∀{locs:List Loc} {pre:List D} {m s1:St},za locs s1=true→Away locs m s1→(fill locs pre.length (pre++xY locs s1) m).tmps=s1.tmps∧(fill locs pre.length (pre++xY locs s1) m).objs=s1.objs
 |[],pre,m,s1,_,h=>⟨Yn .any h.lt fun i=>h.tmps i (by simp[qT]),Yn .none h.lo fun i=>h.objs i (by simp[xm])⟩
 | .slot s z::r,pre,m,s1,hn,h=>by
  simp only[za,Dd]at hn;have hv:V.c (toC (nth .any s1.tmps s))=nth .any s1.tmps s:=by revert hn;cases nth .any s1.tmps s<;>simp[isC,toC]
  have a6:s<s1.tmps.length:=xn (by intro e;rw[e]at hn;simp[isC]at hn);simp only[fill,xY];have h1:=yk Hv pre (toC (nth .any s1.tmps s)::xY r s1) 0;rw[c2]at h1;rw[h1];have h2:=ym (locs:=r) (pre:=pre++[toC (nth .any s1.tmps s)]) (m:=⟨upd m.tmps s (nth .any s1.tmps s),m.objs,m.dirty⟩) (s1:=s1) hn.2 ⟨by simp only[qk];exact h.lt,h.lo,fun t ht=>by
   by_cases hst:s=t
   ·subst hst;rw[qg _ _ _ (by rw[h.lt];exact a6)]
   ·show nth .any (upd m.tmps s _) t=_;rw[qe _ _ _ hst];exact h.tmps t (by simp only[qT,J9,not_or];exact⟨er hst,ht⟩),fun k hk=>h.objs k hk⟩
  simp only[Lv,M1,Lm,M0]at h2;simp only[nth,hv];exact h2
 | .box k zs::r,pre,m,s1,hn,h=>by
  simp only[za]at hn;split at hn
  ·rename_i a3 hk;simp only[Dd]at hn;have a4:k<s1.objs.length:=xn (by rw[hk];simp);simp only[fill,xY,hk];rw[yl hn.1];have h2:=ym (locs:=r) (pre:=pre++a3.map toC) (m:=⟨m.tmps,upd m.objs k (.box a3),m.dirty⟩) (s1:=s1) hn.2 ⟨h.lt,by simp only[qk];exact h.lo,fun t ht=>h.tmps t ht,fun j hj=>by
    by_cases hkj:k=j
    ·subst hkj;rw[qg _ _ _ (by rw[h.lo];exact a4),hk]
    ·show nth .none (upd m.objs k _) j=_;rw[qe _ _ _ hkj];exact h.objs j (by simp only[xm,J9,not_or];exact⟨er hkj,hj⟩)⟩
   simp only[Lv,M2,Lm,Qk hn.1]at h2;exact h2
  ·simp at hn
 | .own s key size::r,pre,m,s1,hn,h=>by
  simp only[za]at hn;split at hn
  ·rename_i k hv;split at hn
   ·rename_i sz es hk;simp only[Dd]at hn;obtain rfl:=c1 hn.1.1;obtain rfl:=c1 hn.1.2;have a4:k<s1.objs.length:=xn (by rw[hk];simp);have a6:s<s1.tmps.length:=xn (by rw[hv];simp);simp only[fill,xY,hk];have h1:=yk Hv pre (Hx es::xY r s1) 0;rw[c2]at h1;rw[h1];have h2:=ym (locs:=r) (pre:=pre++[Hx es]) (m:=⟨upd m.tmps s (.arr k),upd m.objs k (.arr sz es false),m.dirty⟩) (s1:=s1) hn.2 ⟨by simp only[qk];exact h.lt,by simp only[qk];exact h.lo,fun t ht=>by
     by_cases hst:s=t
     ·subst hst;rw[qg _ _ _ (by rw[h.lt];exact a6),hv]
     ·show nth .any (upd m.tmps s _) t=_;rw[qe _ _ _ hst];exact h.tmps t (by simp only[qT,J9,not_or];exact⟨er hst,ht⟩),fun j hj=>by
     by_cases hkj:k=j
     ·subst hkj;rw[qg _ _ _ (by rw[h.lo];exact a4),hk]
     ·show nth .none (upd m.objs k _) j=_;rw[qe _ _ _ hkj];exact h.objs j (by simp only[xm,J9,not_or];exact⟨er hkj,hj⟩)⟩
    simp only[Lv,M1,Lm,M0]at h2;simp only[nth,toL];exact h2
   ·simp at hn
  ·simp at hn
 | .bld k T key::r,pre,m,s1,hn,h=>by
  simp only[za]at hn;split at hn
  ·rename_i T' a5 hk;split at hn
   ·rename_i sz es hj;simp only[Dd]at hn;obtain rfl:=c1 hn.1.1.1;obtain rfl:=c1 hn.1.1.2;obtain rfl:=c1 hn.1.2;have a4:k<s1.objs.length:=xn (by rw[hk];simp);have a7:a5<s1.objs.length:=xn (by rw[hj];simp);simp only[fill,xY,hj];have h1:=yk Hv pre (Hx es::xY r s1) 0;rw[c2]at h1;rw[h1];have h2:=ym (locs:=r) (pre:=pre++[Hx es]) (m:=⟨m.tmps,upd (upd m.objs a5 (.arr 1 es false)) k (.bld T' (.arr a5)),m.dirty⟩) (s1:=s1) hn.2 ⟨h.lt,by simp only[qk];exact h.lo,fun t ht=>h.tmps t ht,fun i hi=>by
     by_cases hki:k=i
     ·subst hki;rw[qg _ _ _ (by rw[qk,h.lo];exact a4),hk]
     ·show nth .none (upd (upd m.objs a5 _) k _) i=_;rw[qe _ _ _ hki];by_cases hji:a5=i
      ·subst hji;rw[qg _ _ _ (by rw[h.lo];exact a7),hj]
      ·rw[qe _ _ _ hji];exact h.objs i (by simp only[xm,J9,not_or];exact⟨er hki,er hji,hi⟩)⟩
    simp only[Lv,M1,Lm,M0]at h2;simp only[nth,toL];exact h2
   ·simp at hn
  ·simp at hn
 | .mix k ms::r,pre,m,s1,hn,h=>by
  simp only[za]at hn;split at hn
  ·rename_i a3 hk;simp only[Dd]at hn;have a4:k<s1.objs.length:=xn (by rw[hk];simp);obtain⟨g1,g2⟩:=Sl (R:=xY r s1) (pre:=pre) hn.1;obtain⟨g3,g4⟩:=g2 m.objs h.lo;simp only[fill,xY,hk];rw[g1];have h2:=ym (locs:=r) (pre:=pre++G6 ms a3 s1.objs) (m:=⟨m.tmps,upd (ME ms pre.length (pre++(G6 ms a3 s1.objs++xY r s1)) m.objs) k (.box a3),m.dirty⟩) (s1:=s1) hn.2 ⟨h.lt,by simp only[qk];exact g3,fun t ht=>h.tmps t ht,fun i hi=>by
    by_cases hki:k=i
    ·subst hki;rw[qg _ _ _ (by rw[g3];exact a4),hk]
    ·show nth Obj.none (upd _ k _) i=_;rw[qe _ _ _ hki,g4 i];by_cases hm:i∈z4 ms
     ·rw[if_pos hm]
     ·rw[if_neg hm];exact h.objs i (by simp only[xm,J9,Lr,not_or];exact⟨er hki,hm,hi⟩)⟩
   simp only[Lv,Yo hn.1,Lm]at h2;exact h2
  ·simp at hn
def TypedL:List Value→List D→Prop
 |[],us=>us=[]
 |z::zs,us=>∃d r,us=d::r∧jS z d=true∧TypedL zs r
theorem yO {v:Value} {b:Bool} {d:D} (hv:v= .bool b) (h:jS v d=true):∃x,d= .bool x:=by
 subst hv;cases d<;>simp[jS,isB]at h;exact⟨_,rfl⟩
theorem MV {v:Value} {a:Option Addr} {n c:Nat} {d:D} (hv:v= .slice a n c) (h:jS v d=true):∃x,d= .sl x:=by
 subst hv;cases d<;>simp[jS,isL]at h;exact⟨_,rfl⟩
theorem xI {z r:List Value} {us:List D} (h:DG z=some r) (ht:TypedL z us):∃(x:R4) (ds:List D),us=rk x ds∧TypedL r ds:=by
 obtain⟨b,o,n,c,b',o',n',c',rfl⟩:=RW h;obtain⟨d1,r1,rfl,h1,d2,r2,rfl,h2,d3,r3,rfl,h3,d4,r4,rfl,h4,h5⟩:=ht;obtain⟨x1,rfl⟩:=yO rfl h1;obtain⟨x2,rfl⟩:=MV rfl h2;obtain⟨x3,rfl⟩:=yO rfl h3;obtain⟨x4,rfl⟩:=MV rfl h4;exact⟨⟨x1,x2,x3,x4⟩,r4,rfl,h5⟩
theorem xb {n:Nat} {z r:List Value} (h:yd (n+1) z=some r):∃q,DG z=some q∧yd n q=some r:=by
 simp only[yd]at h;split at h
 ·rename_i q hq;exact⟨q,hq,h⟩
 ·simp at h
theorem Q1 {z r:List Value} {us:List D} (h:yd 5 z=some r) (ht:TypedL z us):∃(x:P20) (ds:List D),us=pk x ds∧TypedL r ds:=by
 obtain⟨q1,e1,h⟩:=xb h;obtain⟨q2,e2,h⟩:=xb h;obtain⟨q3,e3,h⟩:=xb h;obtain⟨q4,e4,h⟩:=xb h;obtain⟨q5,e5,h⟩:=xb h;simp only[yd,ey]at h;subst h;obtain⟨x1,d1,rfl,t1⟩:=xI e1 ht;obtain⟨x2,d2,rfl,t2⟩:=xI e2 t1;obtain⟨x3,d3,rfl,t3⟩:=xI e3 t2;obtain⟨x4,d4,rfl,t4⟩:=xI e4 t3;obtain⟨x5,d5,rfl,t5⟩:=xI e5 t4;exact⟨⟨x1,x2,x3,x4,x5⟩,d5,rfl,t5⟩
theorem TK {z r:List Value} {us:List D} (h:OQ z=some r) (ht:TypedL z us):∃(x:C66) (ds:List D),us=ck x ds∧TypedL r ds:=by
 unfold OQ at h;split at h
 ·rename_i b q;split at h
  ·rename_i b' q' hq;obtain⟨d0,us0,rfl,t0,ht0⟩:=ht;obtain⟨a,rfl⟩:=yO rfl t0;obtain⟨q1,e1,hq⟩:=xb hq;obtain⟨q2,e2,hq⟩:=xb hq;obtain⟨q3,e3,hq⟩:=xb hq;obtain⟨q4,e4,hq⟩:=xb hq;obtain⟨q5,e5,hq⟩:=xb hq;obtain⟨q6,e6,hq⟩:=xb hq;simp only[yd,ey]at hq;subst hq;obtain⟨x1,d1,rfl,t1⟩:=xI e1 ht0;obtain⟨x2,d2,rfl,t2⟩:=xI e2 t1;obtain⟨x3,d3,rfl,t3⟩:=xI e3 t2;obtain⟨x4,d4,rfl,t4⟩:=xI e4 t3;obtain⟨x5,d5,rfl,t5⟩:=xI e5 t4;obtain⟨x6,d6,rfl,t6⟩:=xI e6 t5;obtain⟨d7,us7,rfl,t7,ht7⟩:=t6;obtain⟨w,rfl⟩:=yO rfl t7;have hs:∃s,yd 5 q'=some s∧yd 5 s=some r:=by obtain⟨q1,f1,h⟩:=xb h;obtain⟨q2,f2,h⟩:=xb h;obtain⟨q3,f3,h⟩:=xb h;obtain⟨q4,f4,h⟩:=xb h;obtain⟨q5,f5,h⟩:=xb h;exact⟨q5,by simp only[yd,f1,f2,f3,f4,f5],h⟩
   obtain⟨s,hs1,hs2⟩:=hs;obtain⟨p,d8,rfl,t8⟩:=Q1 hs1 ht7;obtain⟨p',d9,rfl,t9⟩:=Q1 hs2 t8;exact⟨⟨a,x1,x2,x3,x4,x5,x6,w,p,p'⟩,d9,rfl,t9⟩
  ·simp at h
 ·simp at h
theorem ka:∀{g:Bool} {n:Nat} {zs:List Value} {us:List D} {K:List D→Prop},RJ g n zs K→TypedL zs us→K us
 |_,0,_,_,_,h,_=>h.elim
 |_,_+1,[],us,K,h,ht=>by have ht:us=[]:=ht;subst ht;exact h
 |g,n+1,z::zs,us,K,h,ht=>by
  simp only[RJ]at h;split at h
  ·rename_i q hq;obtain⟨x,ds,rfl,h2⟩:=TK hq ht;exact ka (K:=fun us=>K (ck x us)) (h x) h2
  split at h
  ·rename_i q hq;obtain⟨x,ds,rfl,h2⟩:=Q1 hq ht;exact ka (K:=fun us=>K (pk x us)) (h x) h2
  split at h
  ·rename_i q hq;have hq:DG (z::zs)=some q:=by
    split at hq
    ·exact hq
    ·simp at hq
   obtain⟨x,ds,rfl,h2⟩:=xI hq ht;exact ka (K:=fun us=>K (rk x us)) (h x) h2
  obtain⟨d,r,rfl,h1,h2⟩:=ht;cases z with
  |int k n=>
   cases d<;>simp only[jS,isI,F2]at h1;have h1:=of_decide_eq_true h1;subst h1;exact ka (K:=fun us=>K (_::us)) (h _) h2
  |bool b=>
   cases d<;>simp only[jS,isB,F2]at h1;exact ka (K:=fun us=>K (_::us)) (h _) h2
  |string b=>
   cases d<;>simp only[jS,isS,F2]at h1;exact ka (K:=fun us=>K (_::us)) (h _) h2
  |slice b l c=>
   cases d<;>simp only[jS,isL,F2]at h1;exact ka (K:=fun us=>K (_::us)) (h _) h2
  |_=>exact ka (K:=fun us=>K (d::us)) (h d) h2
theorem MW {zs:List Value} {us:List D} {K:List D→Prop} (h:ti zs K) (ht:TypedL zs us):K us:=ka h ht
theorem TypedL.append:∀{zs zs':List Value} {us us':List D},TypedL zs us→TypedL zs' us'→TypedL (zs++zs') (us++us')
 |[],zs',us,us',h,h'=>by have h:us=[]:=h;subst h;exact h'
 |z::zs,zs',us,us',h,h'=>by obtain⟨d,r,rfl,h1,h2⟩:=h;exact⟨d,r++us',rfl,h1,h2.append h'⟩
theorem vT:∀{zs:List Value} {cells:List V},xq zs cells=true→TypedL zs (cells.map toC)
 |[],[],_=>rfl
 |z::zs,v::vs,h=>by simp only[xq,Dd]at h;exact⟨_,_,rfl,h.1.2,vT h.2⟩
 |[],_::_,h=>by simp[xq]at h
 |_::_,[],h=>by simp[xq]at h
theorem Kl {ob:List Obj}:∀{ms:List MC} {cells:List V},wu ms cells ob=true→TypedL (zsM ms) (G6 ms cells ob)
 |[],[],_=>rfl
 | .dat z::ms,v::vs,h=>by simp only[wu,Dd]at h;exact⟨_,_,rfl,h.1.2,Kl h.2⟩
 | .own key size::ms,v::vs,h=>by
  simp only[wu,Dd]at h;obtain⟨ho,h⟩:=h;unfold ax at ho;split at ho
  ·split at ho
   ·rename_i hk;refine⟨_,_,rfl,?_,Kl h⟩;simp only[Ek,hk];rfl
   ·simp at ho
  ·simp at ho
 |[],_::_,h=>by simp[wu]at h
 | .dat _::_,[],h=>by simp[wu]at h
 | .own .. ::_,[],h=>by simp[wu]at h
theorem zc:∀{locs:List Loc} {m:St},za locs m=true→TypedL (OV locs) (xY locs m)
 |[],_,_=>rfl
 | .slot s z::r,m,h=>by simp only[za,Dd]at h;exact⟨_,_,rfl,h.1.2,zc h.2⟩
 | .box k zs::r,m,h=>by
  simp only[za]at h;split at h
  ·rename_i cells hk;simp only[Dd]at h;simp only[OV,xY,hk];exact(vT h.1).append (zc h.2)
  ·simp at h
 | .own s key size::r,m,h=>by
  simp only[za]at h;split at h
  ·split at h
   ·rename_i hk;simp only[Dd]at h;simp only[OV,xY,hk];exact⟨_,_,rfl,rfl,zc h.2⟩
   ·simp at h
  ·simp at h
 | .bld k T key::r,m,h=>by
  simp only[za]at h;split at h
  ·split at h
   ·rename_i hj;simp only[Dd]at h;simp only[OV,xY,hj];exact⟨_,_,rfl,rfl,zc h.2⟩
   ·simp at h
  ·simp at h
 | .mix k ms::r,m,h=>by
  simp only[za]at h;split at h
  ·rename_i cells hk;simp only[Dd]at h;simp only[OV,xY,hk];exact(Kl h.1).append (zc h.2)
  ·simp at h
theorem Yp {us:List D}:∀{ms:List MC} {i:Nat} {ob:List Obj},(ME ms i us ob).length=ob.length∧∀j,j∉z4 ms→nth .none (ME ms i us ob) j=nth .none ob j
 |[],_,_=>⟨rfl,fun _ _=>rfl⟩
 | .dat z::ms,i,ob=>by simp only[ME,z4];exact Yp
 | .own key size::ms,i,ob=>by simp only[ME,z4,J9,not_or];obtain⟨h1,h2⟩:=Yp (us:=us) (ms:=ms) (i:=i+1) (ob:=upd ob key (.arr size (toL (nth .undef us i)) false));exact⟨h1.trans (qk _ _ _),fun j hj=>(h2 j hj.2).trans (qe _ _ _ (er hj.1))⟩
theorem vz:∀{locs:List Loc} {i:Nat} {us:List D} {m:St},(fill locs i us m).tmps.length=m.tmps.length∧(fill locs i us m).objs.length=m.objs.length∧(fill locs i us m).dirty=m.dirty∧
 (∀t,t∉qT locs→nth .any (fill locs i us m).tmps t=nth .any m.tmps t)∧(∀k,k∉xm locs→nth .none (fill locs i us m).objs k=nth .none m.objs k)
 |[],_,_,_=>⟨rfl,rfl,rfl,fun _ _=>rfl,fun _ _=>rfl⟩
 | .slot s z::r,i,us,m=>by obtain⟨h1,h2,h3,h4,h5⟩:=vz (locs:=r) (i:=i+1) (us:=us) (m:=⟨upd m.tmps s (.c (nth .undef us i)),m.objs,m.dirty⟩);refine⟨by simp only[fill];rw[h1];exact qk _ _ _,h2,h3,fun t ht=>?_,h5⟩;simp only[qT,J9,not_or]at ht;simp only[fill];rw[h4 t ht.2];exact qe _ _ _ (er ht.1)
 | .box k zs::r,i,us,m=>by obtain⟨h1,h2,h3,h4,h5⟩:=vz (locs:=r) (i:=i+zs.length) (us:=us) (m:=⟨m.tmps,upd m.objs k (.box (putCells zs i us)),m.dirty⟩);refine⟨h1,by simp only[fill];rw[h2];exact qk _ _ _,h3,h4,fun t ht=>?_⟩;simp only[xm,J9,not_or]at ht;simp only[fill];rw[h5 t ht.2];exact qe _ _ _ (er ht.1)
 | .own s key size::r,i,us,m=>by
  obtain⟨h1,h2,h3,h4,h5⟩:=vz (locs:=r) (i:=i+1) (us:=us) (m:=⟨upd m.tmps s (.arr key),upd m.objs key (.arr size (toL (nth .undef us i)) false),m.dirty⟩);refine⟨by simp only[fill];rw[h1];exact qk _ _ _,by simp only[fill];rw[h2];exact qk _ _ _,h3,fun t ht=>?_,fun t ht=>?_⟩
  ·simp only[qT,J9,not_or]at ht;simp only[fill];rw[h4 t ht.2];exact qe _ _ _ (er ht.1)
  ·simp only[xm,J9,not_or]at ht;simp only[fill];rw[h5 t ht.2];exact qe _ _ _ (er ht.1)
 | .bld k T key::r,i,us,m=>by obtain⟨h1,h2,h3,h4,h5⟩:=vz (locs:=r) (i:=i+1) (us:=us) (m:=⟨m.tmps,upd (upd m.objs key (.arr 1 (toL (nth .undef us i)) false)) k (.bld T (.arr key)),m.dirty⟩);refine⟨h1,by simp only[fill];rw[h2];simp only[qk],h3,h4,fun t ht=>?_⟩;simp only[xm,J9,not_or]at ht;simp only[fill];rw[h5 t ht.2.2];show nth .none (upd (upd m.objs key _) k _) t=_;rw[qe _ _ _ (er ht.1),qe _ _ _ (er ht.2.1)]
 | .mix k ms::r,i,us,m=>by obtain⟨g1,g2⟩:=Yp (us:=us) (ms:=ms) (i:=i) (ob:=m.objs);obtain⟨h1,h2,h3,h4,h5⟩:=vz (locs:=r) (i:=i+ms.length) (us:=us) (m:=⟨m.tmps,upd (ME ms i us m.objs) k (.box (ay ms i us)),m.dirty⟩);refine⟨h1,by simp only[fill];rw[h2];simp only[qk];exact g1,h3,h4,fun t ht=>?_⟩;simp only[xm,J9,Lr,not_or]at ht;simp only[fill];rw[h5 t ht.2.2];show nth Obj.none (upd _ k _) t=_;rw[qe _ _ _ (er ht.1),g2 t ht.2.1]
theorem Hh {a l:List Nat} (h:GP a l=true):∀k∈a,k∈l:=by
 induction a with
 |nil=>intro k hk;simp at hk
 |cons x r ih=>
  simp only[GP,Dd]at h;intro k hk;rcases J9.1 hk with rfl|hk
  ·exact ze.1 h.1
  ·exact ih h.2 k hk
theorem aW {p:Nat→Prop} (h:∃n,p n):∃n,p n∧∀m,p m→n≤m:=by
 obtain⟨n,hn⟩:=h
 induction n using ed with
 |_ n ih=>
  by_cases hc:∃m,m<n∧p m
  ·obtain⟨m,hm,hp⟩:=hc;exact ih m hm hp
  ·exact⟨n,hn,fun m hm=>Nat.le_of_not_lt fun hlt=>hc ⟨m,hlt,hm⟩⟩
open Classical in
noncomputable def wx (p:Nat→Prop):Nat:=if h:∃n,p n then Classical.choose (aW h)else 0
theorem Ve {p:Nat→Prop} (h:∃n,p n):p (wx p):=by unfold wx;rw[dif_pos h];exact(Classical.choose_spec (aW h)).1
theorem Vf {p:Nat→Prop} {m:Nat} (h:p m):wx p≤m:=by unfold wx;rw[dif_pos ⟨m,h⟩];exact(Classical.choose_spec (aW ⟨m,h⟩)).2 m h
section
variable {C:Cx} {B:Bd} {F0:Nat→Prop} {w0:World} {anns:Nat→Ann}
def XM:X→Exit→Prop
 | .normal,e=>e= .normal
 | .exit i,e=>e= .exit i
 | .ret,e=>e= .ret
def tr (C:Cx) (B:Bd) (F0:Nat→Prop) (w0:World) (mt:List Nat) (Q:X→St→Prop) (st:St) (e:Exit) (a:Act) (w:World):Prop:=
 ∃x s',XM x e∧Q x s'∧Frame mt st s'∧I1 C B F0 w0 s' a w
theorem Yq {t:Nat} {o:Oper}:∀{l:List Oper},o∈l→o.dst=some t→t∈OT l
 |[],h,_=>by simp at h
 |p::r,h,hd=>by
  simp only[OT];rcases J9.1 h with rfl|h
  ·rw[hd];simp
  ·have:=Yq h hd;split
   ·simp[this]
   ·exact this
theorem kx:∀{us:List (Nat×Obj)} {l:List Nat} {k:Nat},k∈we us l↔k∈l∨∃p∈us,p.1=k
 |[],l,k=>by simp[we]
 |(j,o)::r,l,k=>by
  simp only[we,J9];rw[kx];constructor
  ·rintro(rfl|h|⟨p,hp,rfl⟩)
   ·exact .inr ⟨(k,o),.inl rfl,rfl⟩
   ·exact .inl h
   ·exact .inr ⟨p,.inr hp,rfl⟩
  ·rintro(h|⟨p,rfl|hp,rfl⟩)
   ·exact .inr (.inl h)
   ·exact .inl rfl
   ·exact .inr (.inr ⟨p,hp,rfl⟩)
theorem Frame.put {mt:List Nat} {s:St} {dst:Option Nat} {v:V} {up:List (Nat×Obj)} (h:∀t,dst=some t→t∈mt):Frame mt s (s.put dst v up):=by
 refine⟨?_,kv _ _,fun t ht=>?_,fun k hk=>?_,fun k hk=>kx.2 (.inl hk)⟩
 ·simp only[St.put];cases dst with
  |none=>rfl
  |some t=>exact qk _ _ _
 ·simp only[St.put];cases dst with
  |none=>rfl
  |some d=>exact qe _ _ _ fun e=>ht (by rw[←e];exact h d rfl)
 ·exact zX _ _ fun p hp e=>hk (kx.2 (.inr ⟨p,hp,e⟩))
theorem Hi {Gv:Nat→List A→List A→Prop} {ops:Array Oper}:∀(l:List Oper) (k:Nat) (s:St) (K:St→Prop),(∀j,l[j]? =ops[k+j]?)→wpL C Gv ops l s K→∃rc s',Tr C Gv ops rc (bd k l.length) s s'∧K s'∧Frame (OT ops.toList) s s'
 |[],_,s,_,_,h=>⟨fun _=>([],[]),s,⟨rfl,rfl⟩,h,Hy _ _⟩
 |o::l,k,s,K,hk,h=>by
  have h0:ops[k]? =some o:=by simpa using(hk 0).symm
  obtain⟨v,up,h1,h2⟩:=Hf h;obtain⟨rc,s',h3,h4,h5⟩:=Hi l (k+1) _ K (fun j=>by have:=hk (j+1);simpa [dl,ea 1 j]using this) h2;refine⟨fun i=>if i=k then(opk o (ev s) s.objs,up.map (·.1))else rc i,s',?_,h4,I0 (Frame.put fun t ht=>Yq (o:=o) ?_ ht) h5⟩
  ·rw[U3,U0];refine⟨o,h0,v,up,h1,?_,h3.recs fun i hi=>?_⟩
   ·simp only[if_pos];exact⟨fun _ _ h=>h,fun p hp=>M3.2 ⟨p,hp,rfl⟩⟩
   ·have:=(cb.1 hi).1;rw[if_neg (by omega)]
  ·have:=bw (show ops.toList[k]? =some o by simpa using h0);exact this
theorem Vg {Gv:Nat→List A→List A→Prop} {ops:Array Oper}:∀(l:List Oper) (k:Nat) (s:St) (acc:List Rec) (K:St→List Rec→Prop),(∀j,l[j]? =ops[k+j]?)→acc.length=k→nZ C Gv ops l s acc K→
 ∃R s',Tr C Gv ops (fun i=>nth ([],[]) (acc++R) i) (bd k l.length) s s'∧K s' (acc++R)∧Frame (OT ops.toList) s s'
 |[],_,s,acc,_,_,_,h=>⟨[],s,⟨rfl,rfl⟩,by rw[cg];exact h,Hy _ _⟩
 |o::l,k,s,acc,K,hk,hacc,h=>by
  have h0:ops[k]? =some o:=by simpa using(hk 0).symm
  obtain⟨v,up,h1,h2⟩:=Hf h;obtain⟨R,s',h3,h4,h5⟩:=Vg l (k+1) _ _ K (fun j=>by have:=hk (j+1);simpa [dl,ea 1 j]using this) (by simp[hacc]) h2;refine⟨(opk o (ev s) s.objs,we up [])::R,s',?_,by rw[Lm]at h4;exact h4,?_⟩
  ·rw[U3,U0];refine⟨o,h0,v,up,h1.same rfl rfl,?_,?_⟩
   ·have e:nth ([],[]) (acc++(opk o (ev s) s.objs,we up [])::R) k=(opk o (ev s) s.objs,we up []):=by have:=yk ([],[]) acc ((opk o (ev s) s.objs,we up [])::R) 0;rw[c2,hacc]at this;rw[this];rfl
    simp only;rw[e];exact⟨fun _ _ h=>h,fun p hp=>kx.2 (.inr ⟨p,hp,rfl⟩)⟩
   ·simp only[Lm,M0]at h3;exact h3.same rfl rfl
  ·refine I0 (s':=⟨(s.put o.dst v up).tmps,(s.put o.dst v up).objs,we up []++s.dirty⟩) ?_ h5;have hf:=Frame.put (mt:=OT ops.toList) (s:=s) (dst:=o.dst) (v:=v) (up:=up) fun t ht=>Yq (o:=o) (bw (show ops.toList[k]? =some o by simpa using h0)) ht
   refine⟨hf.lt,hf.lo,hf.tmps,fun j hj=>hf.objs j fun hj'=>hj ?_,fun j hj=>Pl _ hj⟩;rcases kx.1 hj' with h|h
   ·exact Pl _ h
   ·exact List.mem_append_left _ (kx.2 (.inr h))
theorem Hj [EffOk C] {id:Nat} {ops:Array Oper} {d:Bool} {Q:X→St→Prop} {s:St} {a:Act} {w:World} (hm:C.P.follows .mixedOrders=true) (hd:d=true→yK C ops.toList=true) (h:wpL C (qc C) ops ops.toList s (Q .normal)) (hh:I1 C B F0 w0 s a w):
 (I3 id ops d).wp C.P (tr C B F0 w0 (OT ops.toList) Q s) a w:=by
 obtain⟨rc,s',h1,h2,h3⟩:=Hi ops.toList 0 s _ (by simp) h;rw[Aw,←Ts]at h1;exact Xb hm (fun h=>Kf rc (hd h)) h1 hh fun a w hw=>⟨.normal,s',rfl,h2,h3,hw⟩
theorem Pk [EffOk C] {id:Nat} {ops:Array Oper} {d:Bool} {Q:X→St→Prop} {s:St} {a:Act} {w:World} (hm:C.P.follows .mixedOrders=true) (h:nZ C (qc C) ops ops.toList s [] fun s rs=>cnd (ye C ops.toList rs) (Q .normal s)) (hh:I1 C B F0 w0 s a w):
 (I3 id ops d).wp C.P (tr C B F0 w0 (OT ops.toList) Q s) a w:=by
 obtain⟨R,s',h1,h2,h3⟩:=Vg ops.toList 0 s [] _ (by simp) rfl h;rw[Aw,←Ts]at h1;unfold cnd at h2;split at h2
 ·rename_i hr;exact Xb hm (fun _=>ZE hr) h1 hh fun a w hw=>⟨.normal,s',rfl,h2,h3,hw⟩
 ·exact h2.elim
theorem Ik [EffOk C] (hm:C.P.follows .mixedOrders=true):∀(c:Code) (n:Nat) (Q:X→St→Prop) (s:St) (a:Act) (w:World),wpC C (qc C) anns n c Q s→I1 C B F0 w0 s a w→
 c.wp C.P (tr C B F0 w0 (kq anns n c) Q s) a w:=by
 intro c
 induction c with
 |skip=>intro n Q s a w h hh;exact wp_skip ⟨.normal,s,rfl,h,Hy _ _,hh⟩
 |region id ops d=>
  intro n Q s a w h hh;simp only[wpC,T4]at h;cases d with
  |false=>exact Hj hm (by simp) h hh
  |true=>
   dsimp only at h
   split at h
   ·rename_i hr;exact Hj hm (fun _=>hr) h hh
   ·exact Pk hm h hh
 |seq x y ihx ihy=>
  intro n Q s a w h hh;simp only[wpC,T4,Vd,Kk]at h;split at h
  ·rename_i hj;refine wp_seq (I2 (fun e a' w' hp=>?_) (ihx n _ s a w h hh));obtain⟨z,s',hz,hq,hf,a3⟩:=hp;cases z with
   |normal=>
    have hz:e= .normal:=hz;subst hz;refine I2 (fun e a' w' hp=>?_) (ihy _ _ s' a' w' hq a3);obtain⟨z,bb,hz,hq,ap,b3⟩:=hp;exact⟨z,bb,hz,hq,(hf.trans ap).mono fun t ht=>by
     simp only[kq,Lr]at ht ⊢;rcases ht with ht|ht
     ·exact .inl ht
     ·exact .inr (.inl ht),b3⟩
   |exit i=>have hz:e= .exit i:=hz;subst hz;exact⟨.exit i,s',rfl,hq,hf.mono fun t ht=>by simp[kq,ht],a3⟩
   |ret=>have hz:e= .ret:=hz;subst hz;exact⟨.ret,s',rfl,hq,hf.mono fun t ht=>by simp[kq,ht],a3⟩
  ·rename_i J hj;have hjs:JH anns y=qT J.locs:=by unfold JH;rw[hj]
   obtain⟨h1,b2⟩:=h;generalize hlocs:J.locs=locs at *;generalize hmt:kq anns n x=mt at *;generalize hms:Wy x=ms at *;have hh0:I1 C B F0 w0 ⟨s.tmps,s.objs,[]⟩ a w:=xt hh rfl rfl;have h2:=ihx n _ _ a w h1 hh0;rw[hmt]at h2;refine wp_seq (I2 (fun e a' w' hp=>?_) h2);obtain⟨z,s',hz,hq,hf,a3⟩:=hp;have ad:Frame (kq anns n (.seq x y)) s ⟨s'.tmps,s'.objs,s'.dirty++s.dirty⟩:=by
    refine⟨hf.lt,hf.lo,fun t ht=>?_,fun k hk=>?_,fun k hk=>Pl _ hk⟩
    ·simp only[kq,Lr,not_or]at ht;exact hf.tmps t (by rw[←hmt];exact ht.1)
    ·simp only[Lr,not_or]at hk;exact hf.objs k hk.1
   cases z with
   |normal=>
    have hz:e= .normal:=hz;subst hz;simp only at hq;split at hq
    ·exact hq.elim
    rename_i m' a5;obtain⟨a4,a7⟩:=TJ (C:=C) (B:=B) (F0:=F0) (w0:=w0) (a:=a') (w:=w') a5;unfold cnd at hq;split at hq
    ·rename_i ba;generalize hm:(⟨yf s.tmps (mt++qT locs),jT s.objs (ms++xm locs),ms++(xm locs++s.dirty)⟩:St)=m at *;have al:m.tmps=yf s.tmps (mt++qT locs):=by rw[←hm]
     have ag:m.objs=jT s.objs (ms++xm locs):=by rw[←hm]
     have b5:m.dirty=ms++(xm locs++s.dirty):=by rw[←hm]
     have a6:Away locs m m':=by
      refine⟨?_,?_,fun t ht=>?_,fun k hk=>?_⟩
      ·rw[al,wL];exact(a4.lt.trans hf.lt).symm
      ·rw[ag,kw];exact(a4.lo.trans hf.lo).symm
      ·rw[al];by_cases htm:t∈mt
       ·rw[Xd _ _ (.inl (by simp[htm])),a4.tin t htm ht]
       ·rw[wO _ _ (by simp[htm,ht]),a4.tout t htm ht,hf.tmps t htm]
      ·rw[ag];by_cases hkm:k∈ms
       ·rw[wP _ _ (.inl (by simp[hkm])),a4.oin k hkm]
       ·have a8:k∉m'.dirty:=fun h=>by
         rcases Lr.1 (Hh ba k h)with h|h
         ·exact hkm h
         ·exact hk h
        rw[jA _ _ (by simp[hkm,hk]),a4.oout k a8,hf.objs k fun h=>a8 (a4.dirty k (.inl h))]
     have b4:=ym (pre:=[]) (m:=m) a4.ok a6;have hb:=MW b2 (zc a4.ok) hq;have hS:I1 C B F0 w0 (fill locs 0 (xY locs m') m) a' w':=xt (a7 a3) b4.1.symm b4.2.symm;obtain⟨q1,q2,q3,q4,q5⟩:=vz (locs:=locs) (i:=0) (us:=xY locs m') (m:=m);refine I2 (fun e a' w' hp=>?_) (ihy _ _ _ a' w' hb hS);obtain⟨z,bb,hz,hq,ap,b3⟩:=hp;refine⟨z,bb,hz,hq,⟨?_,?_,fun t ht=>?_,fun k hk=>?_,fun k hk=>?_⟩,b3⟩
     ·rw[ap.lt,q1,al,wL]
     ·rw[ap.lo,q2,ag,kw]
     ·simp only[kq,Lr,not_or,hjs,hmt]at ht;rw[ap.tmps t ht.2.1,q4 t ht.2.2,al,wO _ _ (by simp[ht.1,ht.2.2])]
     ·have a8:k∉(fill locs 0 (xY locs m') m).dirty:=fun h=>hk (ap.dirty k h)
      rw[q3,b5]at a8;simp only[Lr,not_or]at a8;rw[ap.objs k (fun h=>hk h),q5 k a8.2.1,ag,jA _ _ (by simp[a8.1,a8.2.1])]
     ·refine ap.dirty k ?_;rw[q3,b5];simp[hk]
    ·exact hq.elim
   |exit i=>have hz:e= .exit i:=hz;subst hz;exact⟨.exit i,_,rfl,hq,ad,xt a3 rfl rfl⟩
   |ret=>have hz:e= .ret:=hz;subst hz;exact⟨.ret,_,rfl,hq,ad,xt a3 rfl rfl⟩
 |cond cd x y ihx ihy=>
  intro n Q s a w h hh;simp only[wpC]at h;split at h
  ·rename_i d hd;obtain⟨F,bc,hc⟩:=hh;have he:=(qZ hc cd).1;rw[hd]at he;cases d with
   |bool b=>
    have hb:a.eval cd= .bool b:=(fun(x:Value) (hx:CD w F (.bool b) x)=>(by cases hx;rfl:x= .bool b)) _ he;refine wp_cond hb ?_;cases b with
    |true=>rw[if_pos rfl];refine I2 (fun e a' w' hp=>?_) (ihx n Q s a w h ⟨F,bc,hc⟩);obtain⟨z,s',hz,hq,hf,a3⟩:=hp;exact⟨z,s',hz,hq,hf.mono fun t ht=>by simp[kq,ht],a3⟩
    |false=>rw[if_neg (by simp)];refine I2 (fun e a' w' hp=>?_) (ihy _ Q s a w h ⟨F,bc,hc⟩);obtain⟨z,s',hz,hq,hf,a3⟩:=hp;exact⟨z,s',hz,hq,hf.mono fun t ht=>by simp[kq,ht],a3⟩
   |_=>exact h.elim
  ·exact h.elim
 |block id x ih=>
  intro n Q s a w h hh;simp only[wpC]at h;refine wp_block (I2 (fun e a' w' hp=>?_) (ih n _ s a w h hh));obtain⟨z,s',hz,hq,hf,a3⟩:=hp;cases z with
  |normal=>have hz:e= .normal:=hz;subst hz;exact⟨.normal,s',rfl,hq,hf,a3⟩
  |exit i=>
   have hz:e= .exit i:=hz;subst hz;simp only at hq;unfold Exit.inBlock;split at hq
   ·rename_i hi;have:=c1 hi;simp only[this,if_true];exact⟨.normal,s',rfl,hq,hf,a3⟩
   ·rename_i hi;have:i≠id:=fun e=>by subst e;simp at hi
    simp only[this,if_false];exact⟨.exit i,s',rfl,hq,hf,a3⟩
  |ret=>have hz:e= .ret:=hz;subst hz;exact⟨.ret,s',rfl,hq,hf,a3⟩
 |exit id=>intro n Q s a w h hh;exact wp_exit ⟨.exit id,s,rfl,h,Hy _ _,hh⟩
 |ret=>intro n Q s a w h hh;exact wp_ret ⟨.ret,s,rfl,h,Hy _ _,hh⟩
 |loop body ih=>
  intro n Q s a w h hh;simp only[wpC,T4]at h;split at h
  ·exact h.elim
  rename_i m b7;generalize hmt:kq anns (n+1) body=mt at *;generalize hms:Wy body=ms at *;generalize hlocs:(anns n).locs=locs at *;obtain⟨b9,b2⟩:=h;obtain⟨hM,b8⟩:=TJ (C:=C) (B:=B) (F0:=F0) (w0:=w0) (a:=a) (w:=w) b7;have b1:(fill locs 0 (xY locs m) ⟨m.tmps,m.objs,[]⟩).tmps=m.tmps∧(fill locs 0 (xY locs m) ⟨m.tmps,m.objs,[]⟩).objs=m.objs:=
   ym (pre:=[]) (m:=⟨m.tmps,m.objs,[]⟩) hM.ok ⟨rfl,rfl,fun _ _=>rfl,fun _ _=>rfl⟩
  let S:List D→St:=fun us=>fill locs 0 us ⟨m.tmps,m.objs,[]⟩
  let p:Act→World→Nat→Prop:=fun a w k=>∃us,TypedL (OV locs) us∧(anns n).inv (xY (anns n).gh m) us∧I1 C B F0 w0 (S us) a w∧(anns n).meas us=k
  have h0:∃k,p a w k:=⟨_,xY locs m,zc hM.ok,b9,xt (b8 hh) b1.1.symm b1.2.symm,rfl⟩;refine wp_loop (fun a w=>∃k,p a w k) (fun a w=>wx (p a w)) h0 fun a1 w1 h1=>?_
  obtain⟨us,hty,hiv,hs,hme⟩:=Ve h1;have hb:=MW b2 hty hiv;refine I2 (fun e a' w' hp=>?_) (ih (n+1) _ (S us) a1 w1 hb hs);rw[hmt]at hp;obtain⟨z,s',hz,hq,hf,a3⟩:=hp;obtain⟨q1,q2,q3,q4,q5⟩:=vz (locs:=locs) (i:=0) (us:=us) (m:=⟨m.tmps,m.objs,[]⟩)
  --the frame from the loop's start to an end that leaves it
  have ad:Frame (qT locs++mt) s ⟨s'.tmps,s'.objs,s'.dirty++m.dirty⟩:=by
   refine⟨hf.lt.trans (q1.trans hM.lt),hf.lo.trans (q2.trans hM.lo),fun t ht=>?_,fun k hk=>?_,fun k hk=>Pl _ (hM.dirty k (.inl hk))⟩
   ·simp only[Lr,not_or]at ht;show nth .any s'.tmps t=_;rw[hf.tmps t ht.2,q4 t ht.1];exact hM.tout t ht.2 ht.1
   ·simp only[Lr,not_or]at hk;show nth .none s'.objs k=_;rw[hf.objs k hk.1,q5 k fun h=>hk.2 (hM.dirty k (.inr h))];exact hM.oout k hk.2
  cases z with
  |normal=>
   have hz:e= .normal:=hz;subst hz;simp only at hq;split at hq
   ·exact hq.elim
   rename_i m' a5;obtain⟨a4,a7⟩:=TJ (C:=C) (B:=B) (F0:=F0) (w0:=w0) (a:=a') (w:=w') a5;unfold cnd at hq;split at hq
   ·rename_i ba;obtain⟨hi',hm'⟩:=hq;have a6:Away locs ⟨m.tmps,m.objs,[]⟩ m':=by
     refine⟨(a4.lt.trans (hf.lt.trans q1)).symm,(a4.lo.trans (hf.lo.trans q2)).symm,fun t ht=>?_,fun k hk=>?_⟩
     ·show nth .any m.tmps t=_;by_cases htm:t∈mt
      ·rw[hM.tin t htm ht,a4.tin t htm ht]
      ·rw[a4.tout t htm ht,hf.tmps t htm,q4 t ht]
     ·show nth .none m.objs k=_;by_cases hkm:k∈ms
      ·rw[hM.oin k hkm,a4.oin k hkm]
      ·have a8:k∉m'.dirty:=fun h=>by
        rcases Lr.1 (Hh ba k h)with h|h
        ·exact hkm h
        ·exact hk h
       rw[a4.oout k a8,hf.objs k fun h=>a8 (a4.dirty k (.inl h)),q5 k hk]
    have b4:=ym (pre:=[]) (m:=⟨m.tmps,m.objs,[]⟩) a4.ok a6;have b6:p a' w' ((anns n).meas (xY locs m')):=⟨xY locs m',zc a4.ok,hi',xt (a7 a3) b4.1.symm b4.2.symm,rfl⟩;refine⟨⟨_,b6⟩,?_⟩;have h3:=Vf b6;show wx (p a' w')<wx (p a1 w1);omega
   ·exact hq.elim
  |exit i=>have hz:e= .exit i:=hz;subst hz;exact⟨.exit i,_,rfl,hq,by rw[kq,hlocs,hmt];exact ad,xt a3 rfl rfl⟩
  |ret=>have hz:e= .ret:=hz;subst hz;exact⟨.ret,_,rfl,hq,by rw[kq,hlocs,hmt];exact ad,xt a3 rfl rfl⟩
 |_=>intro n Q s a w h hh;exact h.elim
end
end Eng
end
section
namespace Eng
open Go Go.RowKit
section
variable {C:Cx}
def Km (F0:Nat→Prop) (B:Bd) (w:World):Nat→Prop:=fun b=>F0 b∨(Own B b∧b<w.heap.size)
def DI (tmps:Array Value) (r:ResultVar):Sem Value:=
 match r with
 | .tmp t=>pure (tmps.getD t undef)
 | .cell x t=>do loadVar t (←asAddr (tmps.getD x undef))
theorem Hk {F0:Nat→Prop} {w0:World} {B:Bd} {F:Nat→Prop} {loc:Where} {st:St} {a:Act} {w:World} (h:Conc C B F0 w0 F loc st a w) {cells:List V} {ds:List D} {xs:List Value} (hc:MF st.objs cells=some ds)
 (hv:All2 (fun v x=>CV loc st.objs w F v x∧x.oneCell'=true) cells xs):All2 (CD w (Km F0 B w)) ds xs:=by
 unfold MF at hc;split at hc
 ·rename_i cs hcs;split at hc
  ·rename_i ds' us hd;simp only[ey]at hc;subst hc;rw[XS hcs]at hv;exact(Jd h hd (T7 hv)).2 (Km F0 B w) (fun b hb=>by
    rcases h.fsub b hb with h'|h'
    ·exact .inl h'
    ·exact .inr ⟨h',h.bound b hb⟩) (fun p _ b c hl=> .inr (h.fresh _ _ _ hl))
  ·simp at hc
 ·simp at hc
theorem iA {F0:Nat→Prop} {w0:World} {B:Bd} {F:Nat→Prop} {loc:Where} {st:St} {a:Act} {w:World} (h:Conc C B F0 w0 F loc st a w) {v:V} {x:Value} {r:A} (hr:toR st.objs v=some r) (hv:CV loc st.objs w F v x):CA w (Km F0 B w) r x:=by
 unfold toR at hr;split at hr
 ·rename_i k n;split at hr
  ·rename_i _ a3 hk;split at hr
   ·rename_i ds hn hds;simp only[ey]at hr;subst hr;obtain rfl:=c1 hn;obtain⟨b,c,hl,rfl⟩:=hv _ hk rfl;have a8:=h.objs k;rw[hk]at a8;obtain⟨b',c',cs,t',a6,_,a5,hsz,hlc,a4,_⟩:=a8;rw[hl]at a6;simp only[ey,ez]at a6;obtain⟨rfl,rfl⟩:=a6;have al:∀j,j<a3.length→nth undef (cs.toList.take a3.length) j=nth undef cs.toList j:=fun j hj=>by rw[qI,qI,List.getElem?_take,if_pos hj]
    have ag:(cs.toList.take a3.length).length=a3.length:=by simp;omega
    have h2:All2 (fun v x=>CV loc st.objs w F v x∧x.oneCell'=true) a3 (cs.toList.take a3.length):=kt .any undef ag.symm fun j hj=>by
     obtain⟨u,q1,q2,q3⟩:=a4 j hj;have e:nth undef cs.toList j=u:=by rw[qI];simp[q1]
     rw[al j hj,e];exact⟨q2,q3⟩
    have a7:=Hk h hds h2;have ad:=a7.length;rw[ag]at ad;have hf:∀l:List D,(l.map fun d=>[d]).flatten=l:=fun l=>by induction l with|nil=>rfl|cons _ _ ih=>simp[ih]
    show CD w (Km F0 B w) (.sl (ds.map fun d=>[d])) _;have:=CD.sl (w:=w) (F:=Km F0 B w) (ds.map fun d=>[d]) b 0 c 1 (fun j=>nth undef (cs.toList.take a3.length) j) (by rw[M2];omega) (fun e he=>by obtain⟨_,_,rfl⟩:=M3.1 he;rfl) (.inr (h.fresh _ _ _ hl)) (fun j hj=>by
     rw[M2,cL]at hj;rw[dn,zp a5,al j (by omega),qI];simp[show j<cs.size by omega]) (fun j hj=>by
     rw[M2,cL]at hj;rw[hf];exact a7.nth .undef undef _ _ j hj)
    rw[M2,ad]at this;exact this
   ·simp at hr
  ·simp at hr
 ·split at hr
  ·rename_i r' us h1;simp only[ey]at hr;subst hr;exact(If h h1 hv).2 (Km F0 B w) (fun b hb=>by
    rcases h.fsub b hb with h'|h'
    ·exact .inl h'
    ·exact .inr ⟨h',h.bound b hb⟩) (fun p _ b c hl=> .inr (h.fresh _ _ _ hl))
  ·simp at hr
theorem XY {F0:Nat→Prop} {w0:World} {B:Bd} {F:Nat→Prop} {loc:Where} {st:St} {a:Act} {w:World} (h:Conc C B F0 w0 F loc st a w):∀{rs:List ResultVar} {as:List A},resD C st rs=some as→
 ∃vs:List Value,(rs.mapM (DI a.tmps)).run C.P w= .ok vs w∧All2 (CA w (Km F0 B w)) as vs
 |[],as,hr=>by simp only[resD,ey]at hr;subst hr;exact⟨[],rfl,trivial⟩
 | .tmp t::r,as,hr=>by
  simp only[resD]at hr;split at hr
  ·rename_i d as' h1 h2;simp only[ey]at hr;subst hr;obtain⟨vs,h3,h4⟩:=XY h h2;refine⟨a.tmps.getD t undef::vs,?_,?_,h4⟩
   ·rw[bh];simp[h3,DI]
   ·have hv:=(Qv h t).1;exact iA h h1 hv
  ·simp at hr
 | .cell x t::r,as,hr=>by
  simp only[resD]at hr;split at hr
  ·rename_i k hv;split at hr
   ·rename_i cells z hk hz;split at hr
    ·rename_i ds as' hlen hds h2;have hlen:cells.length=z.length:=of_decide_eq_true hlen;obtain⟨vs,h3,h4⟩:=XY h h2;have hx:=(Qv h x).1;simp only[Act.eval]at hx;rw[hv]at hx;obtain⟨b,c,hl,hp⟩:=hx _ hk rfl;have hco:=h.objs k;rw[hk]at hco;obtain⟨b',c',cs,t',hl',hnF,hblk,hall,hrefs⟩:=hco;rw[hl]at hl';simp only[ey,ez]at hl';obtain⟨rfl,rfl⟩:=hl';have hl2:=hall.length;have hcell:∀j,j<z.length→w.cell? ⟨b,0+j,none⟩=some (nth undef cs.toList (0+j)):=fun j hj=>by rw[dn,zp hblk,qo _ (by omega)];simp at hl2;simp[show j<cs.size by omega]
     have hFF:∀b,F b→Km F0 B w b:=fun b hb=>by
      rcases h.fsub b hb with h'|h'
      ·exact .inl h'
      ·exact .inr ⟨h',h.bound b hb⟩
     have hcd:All2 (CD w (Km F0 B w)) ds cs.toList:=Hk h hds hall;have hcs:∀n,n=cs.toList.length→Yc (fun j=>nth undef cs.toList j) 0 n=cs.toList:=fun n hn=>by
      apply Yn undef
      ·rw[hn];rw[Qx]
      ·intro i;by_cases hi:i<n
       ·rw[Je _ _ _ _ _ hi,dn]
       ·rw[qJ _ (by rw[Qx];omega),qJ _ (by omega)]
     have h1:=wG (P:=C.P) (w:=w) (b:=b) (o:=0) hz (fun j=>nth undef cs.toList j) hcell;obtain⟨_,zv,_,_,hzc,_,_,hzt,_⟩:=xT hz;have hpos:vd C.P t=false→0<z.length:=by intro hf;cases zv<;>simp[hf]at hzt<;>(subst hzc;simp[Value.cells])
     have a3:∀y,(Instr.loadAt t (.pointer (some ⟨b,0,none⟩))).run C.P w= .ok y w→(do loadVar t (←asAddr (a.tmps.getD x undef)):Sem Value).run C.P w= .ok y w:=fun y hy=>by
      have hp':a.tmps.getD x undef= .pointer (some ⟨b,0,none⟩):=hp;rw[hp']
      simpa [Instr.loadAt,Instr.sureAddr,asAddr]using hy
     have hlc:z.length=cs.toList.length:=by rw[←hlen];exact hl2
     split at hr
     ·rename_i ht;simp only[ey]at hr;subst hr;rcases h1 with h1|⟨h1,_⟩
      ·rw[ht]at h1;refine⟨.agg cs::vs,?_,⟨cs,rfl,hcd⟩,h4⟩;have h5:=a3 _ h1;rw[hcs _ hlc]at h5;rw[bh];simp only[Sem.run_bind,DI,h5,Result.andThen_ok,h3];rfl
      ·rw[ht]at h1;simp at h1
     ·rename_i ht;simp only[ey]at hr;subst hr;rcases h1 with h1|⟨_,h1⟩
      ·rw[ht]at h1;refine⟨nth undef cs.toList 0::vs,?_,?_,h4⟩
       ·have h5:=a3 _ h1;rw[bh];simp only[Sem.run_bind,DI,h5,Result.andThen_ok,h3];rfl
       ·have h6:=hpos ht;exact hcd.nth .undef undef _ _ 0 (by have:=hcd.length;omega)
      ·have:=hpos ht;omega
    ·simp at hr
   ·simp at hr
  ·simp at hr
theorem E5 {w:World} {F:Nat→Prop} {loc:Where} {objs:List Obj} {a:A} {v:Value} (h:CA w F a v):CV loc objs w F (Ie a) v:=by
 cases a with
 |ag cs=>exact h
 |c d=>
  cases d with
  |ptr cs=>
   replace h:CD w F (.ptr cs) v:=h;cases h with
   |ptr cs b o vs hF hc hd=>
    refine⟨b,o,cs.length,by simp,by simp,⟨fun e he=>by simp at he;rw[he],hF,fun j hj=>?_⟩⟩;have hj:j<cs.length:=by simpa using hj
    exact⟨vs j,hc j hj,by simpa using hd j hj⟩
  |_=>exact h
theorem Xf {objs:List Obj} (a:A):Ref objs (Ie a):=by
 cases a with
 |c d=>cases d<;>trivial
 |ag cs=>trivial
theorem XZ {w:World} {F:Nat→Prop} {loc:Where} {objs:List Obj}:∀{args:List A} {vs:List Value},All2 (CA w F) args vs→All2 (CV loc objs w F) (args.map Ie) vs
 |[],[],_=>trivial
 |_::_,_::_,h=>⟨E5 h.1,XZ h.2⟩
 |[],_::_,h=>h.elim
 |_::_,[],h=>h.elim
theorem yQ {α β:Type} {R:α→β→Prop}:∀{as as':List α} {bs bs':List β},All2 R as bs→All2 R as' bs'→All2 R (as++as') (bs++bs')
 |[],_,[],_,_,h'=>h'
 |_::_,_,_::_,_,h,h'=>⟨h.1,yQ h.2 h'⟩
 |[],_,_::_,_,h,_=>h.elim
 |_::_,_,[],_,h,_=>h.elim
theorem Xg {α β:Type} {R:α→β→Prop} {a:α} {b:β} (h:R a b):∀n,All2 R (be n a) (be n b)
 |0=>trivial
 |n+1=>⟨h,Xg h n⟩
theorem Kn {α:Type} (d:α):∀(n i:Nat),nth d (be n d) i=d
 |0,_=>rfl
 |n+1,0=>rfl
 |n+1,i+1=>by simp only[List.replicate_succ,nth];exact Kn d n i
theorem Xh {n:Nat} {args:List A} {vs:List Value} {w:World} {F:Nat→Prop} (hb:∀b,F b→b<w.heap.size) (hinv:Inv C F w) (hargs:All2 (CA w F) args vs):
 I1 C ⟨w.heap.size,fun _=>False⟩ F w (vS n args) {tmps:=vs.toArray++Array.replicate (n-vs.toArray.size) undef,defers:=[]} w:=by
 have a3:=hargs.length;refine⟨F,⟨C.P,fun _=>none,fun _=>0⟩,⟨rfl,BelowX.refl _ _,eb _,rfl,?_,fun v hv=>?_,fun k=>?_,fun _ _ _ _ _ h=>by simp at h,fun _ _ _ h=>by simp at h,hb,fun b h=> .inl h,fun _ h=>h,hinv⟩⟩
 ·simp only[vS,Array.toList_append,Array.toList_replicate,ca];rw[a3];exact yQ (XZ hargs) (Xg trivial _)
 ·simp only[vS,Lr,M3,List.mem_replicate]at hv;rcases hv with⟨x,_,rfl⟩|⟨_,rfl⟩
  ·exact Xf x
  ·trivial
 ·simp only[vS];rw[Kn];rfl
theorem Sn {fn:Func} {w:World} {F:Nat→Prop} {s':St} {a':Act} {w':World} {res:List A} (hh:I1 C ⟨w.heap.size,fun _=>False⟩ F w s' a' w') (has:resD C s' fn.results.toList=some res):
 a'.defers=[]∧∃v,(results fn a'.tmps).run C.P w'= .ok v w'∧Below w.heap.size w w'∧∃u,Ending.returned v= .returned u∧Tg w' (fun b=>F b∨(w.heap.size≤b∧b<w'.heap.size)) res u:=by
 obtain⟨F',loc',a3⟩:=hh;obtain⟨us,h1,h2⟩:=XY a3 has;refine⟨a3.defers,if h:us.toArray.size=1 then us.toArray[0]else .tuple us.toArray,?_,a3.below.toBelow,_,rfl,?_⟩
 ·unfold results;rw[Array.mapM_eq_mapM_toList];simp only[Sem.run_bind,map_eq_pure_bind];have h5:∀g:ResultVar→Sem Value,g=DI a'.tmps→(fn.results.toList.mapM g).run C.P w'= .ok us w':=fun g hg=>by rw[hg];exact h1
  rw[h5 _ (by funext r;cases r<;>rfl)];rfl
 ·have hl:=h2.length;have h2:All2 (CA w' (fun b=>F b∨(w.heap.size≤b∧b<w'.heap.size))) res us:=h2.mono fun _ _ h=>h.mono (fun b hb=>hb.imp id fun hb=>⟨hb.1.elim id False.elim,hb.2⟩) fun _ _=>rfl
  match res,us,h2 with
  |[a],[u],h2=>exact h2.1
  |[],[],h2=>exact⟨#[],rfl,trivial⟩
  |a::b::r,u::v::s,h2=>exact⟨(u::v::s).toArray,by simp,h2⟩
theorem qu [EffOk C] {anns:Nat→Ann} {f:Nat} {fn:Func} {args res:List A} (hm:C.P.follows .mixedOrders=true) (hf:C.P.funcs[f]? =some fn) (h:wpF C (qc C) anns fn args (fun r=>r=res)):qc C f args res:=by
 intro w F vs hb a5 a3;unfold wpF at h;split at h
 ·exact h.elim
 rename_i c hc;refine calls_of_wp hf hc ?_;refine I2 (fun e a' w' hp=>?_) (Ik hm c 0 _ _ _ _ h (Xh hb a5 a3));obtain⟨x,s',hx,hq,_,hh⟩:=hp;have a6:∀as,resD C s' fn.results.toList=some as→as=res→_:=fun as a4 he=>Sn (fn:=fn) hh (he▸a4)
 cases x with
 |normal=>
  have hx:e= .normal:=hx;subst hx;simp only at hq;split at hq
  ·rename_i as a4;exact a6 as a4 hq
  ·exact hq.elim
 |ret=>
  have hx:e= .ret:=hx;subst hx;simp only at hq;split at hq
  ·rename_i as a4;exact a6 as a4 hq
  ·exact hq.elim
 |exit i=>exact hq.elim
end
end Eng
end
section
namespace Eng
open Go Go.RowKit
def Th (d m k:Nat):Nat:=match cH k d with
 |true=>m
 |false=>k
def DJ (d m:Nat):V→V
 | .box k off=> .box (Th d m k) off
 | .arr k=> .arr (Th d m k)
 | .elt k i off=> .elt (Th d m k) i off
 | .sub k off len=> .sub (Th d m k) off len
 | .arrAt _ _ _ _=> .any
 | .boxAt k g=> .boxAt (Th d m k) g
 | .tpo k as=> .tpo (Th d m k) as
 | .agv _=> .any
 | .vec k n=> .vec (Th d m k) n
 |v=>v
def Yr (d m:Nat):List V→List V
 |[]=>[]
 |v::r=>DJ d m v::Yr d m r
def WA (d m:Nat):Obj→Obj
 | .box cells=> .box (Yr d m cells)
 | .bld T q=> .bld T (DJ d m q)
 | .vec cells=> .vec (Yr d m cells)
 |o=>o
def Pm (d m:Nat):List Obj→List Obj
 |[]=>[]
 |v::r=>WA d m v::Pm d m r
def evict1 (d:Nat) (st:St):St:=
 match nth .none st.objs d with
 | .none=>st
 |o=>match Nat.blt d st.objs.length with
  |true=>⟨Yr d st.objs.length st.tmps,Pm d st.objs.length (upd st.objs d .none)++[WA d st.objs.length o],[]⟩
  |false=>st
def evict:List Nat→St→St
 |[],st=>st
 |d::r,st=>evict r (evict1 d st)
theorem So (d m k:Nat):Th d m k=if k=d then m else k:=by
 unfold Th;split
 ·rename_i h;rw[if_pos (c1 h)]
 ·rename_i h;rw[if_neg fun e=>by subst e;simp at h]
theorem jH (d m:Nat):∀l,Yr d m l=l.map (DJ d m)
 |[]=>rfl
 |v::r=>by simp only[Yr,Ls];rw[jH d m r]
theorem Ys (d m:Nat):∀l,Pm d m l=l.map (WA d m)
 |[]=>rfl
 |v::r=>by simp only[Pm,Ls];rw[Ys d m r]
theorem Yt {α β:Type} (f:α→β) (d:α) (l:List α) (i:Nat):nth (f d) (l.map f) i=f (nth d l i):=by
 rw[qI,qI,List.getElem?_map];cases l[i]? <;>rfl
section
variable {C:Cx} {B:Bd} {F0:Nat→Prop} {w0:World} {F:Nat→Prop} {loc:Where} {st:St} {a:Act} {w:World}
theorem Ref.lt {objs:List Obj} {v:V} (h:Ref objs v):∀k∈qn v,k<objs.length:=by
 intro k hk;cases v<;>simp only[qn,V1,List.not_mem_nil]at hk<;>first|(subst hk;exact xn h)|exact xn (h k hk)
theorem Ref.ren {objs objs':List Obj} {d m:Nat} {v:V} (ho:∀k,k<objs.length→nth .none objs' (Th d m k)=WA d m (nth .none objs k)) (hr:Ref objs v):Ref objs' (DJ d m v):=by
 have hn:∀{o:Obj},o≠ .none→WA d m o≠ .none:=fun{o} h=>by cases o<;>simp_all[WA]
 have key:∀k,nth .none objs k≠ .none→nth .none objs' (Th d m k)≠ .none:=fun k h e=>hn h ((ho k (xn h)).symm.trans e)
 cases v<;>first|exact key _ hr|trivial
theorem CV.ren {loc':Where} {objs objs':List Obj} {d m:Nat} {v:V} {x:Value} (ho:∀k,k<objs.length→nth .none objs' (Th d m k)=WA d m (nth .none objs k)∧loc' (Th d m k)=loc k) (hr:Ref objs v) (h:CV loc objs w F v x):CV loc' objs' w F (DJ d m v) x:=by
 have hl:=hr.lt;cases v with
 |box k off=>
  obtain⟨h1,h2⟩:=ho k (hl k (by simp[qn]));intro o hc a3;rw[h1]at hc;rw[h2];have hb:zx (nth .none objs k)=true:=by rw[←hc]at a3;revert a3;cases nth .none objs k<;>simp[WA,zx]
  exact h _ rfl hb
 |tpo k as=>obtain⟨h1,h2⟩:=ho k (hl k (by simp[qn]));obtain⟨x,ys,rfl,h3,h4⟩:=h;refine⟨x,ys,rfl,fun s es fz hc=>?_,h4⟩;rw[h1]at hc;rw[h2];cases hk:nth .none objs k<;>rw[hk]at hc<;>simp only[WA,reduceCtorEq]at hc;exact h3 _ _ _ (hk.trans hc)
 |arr k=>obtain⟨h1,h2⟩:=ho k (hl k (by simp[qn]));intro s es fz hc;rw[h1]at hc;rw[h2];cases hk:nth .none objs k<;>rw[hk]at hc<;>simp only[WA,reduceCtorEq]at hc;exact h _ _ _ (hk.trans hc)
 |elt k i off=>obtain⟨h1,h2⟩:=ho k (hl k (by simp[qn]));intro s es fz hc;rw[h1]at hc;rw[h2];cases hk:nth .none objs k<;>rw[hk]at hc<;>simp only[WA,reduceCtorEq]at hc;exact h _ _ _ (hk.trans hc)
 |sub k off len=>obtain⟨h1,h2⟩:=ho k (hl k (by simp[qn]));intro s es fz hc;rw[h1]at hc;rw[h2];cases hk:nth .none objs k<;>rw[hk]at hc<;>simp only[WA,reduceCtorEq]at hc;exact h _ _ _ (hk.trans hc)
 |arrAt k g c t=>trivial
 |agv cs=>trivial
 |boxAt k g=>
  obtain⟨h1,h2⟩:=ho k (hl k (by simp[qn]));intro o hc a3;rw[h1]at hc;rw[h2];have hb:zx (nth .none objs k)=true:=by rw[←hc]at a3;revert a3;cases nth .none objs k<;>simp[WA,zx]
  exact h _ rfl hb
 |vec k n=>
  obtain⟨h1,h2⟩:=ho k (hl k (by simp[qn]));intro o hc a3;rw[h1]at hc;rw[h2];have hb:zx (nth .none objs k)=true:=by rw[←hc]at a3;revert a3;cases nth .none objs k<;>simp[WA,zx]
  exact h _ rfl hb
 |_=>exact h
theorem wQ {α β γ:Type} {R:α→β→Prop} {R':γ→β→Prop} {f:α→γ}:∀{as:List α} {bs:List β},(∀a∈as,∀b,R a b→R' (f a) b)→All2 R as bs→All2 R' (as.map f) bs
 |[],[],_,_=>trivial
 |a::as,b::bs,h,h'=>⟨h a (by simp) b h'.1,wQ (fun c hc=>h c (by simp[hc])) h'.2⟩
 |[],_::_,_,h=>h.elim
 |_::_,[],_,h=>h.elim
set_option maxHeartbeats 1000000 in
theorem Pn {d:Nat} (hh:I1 C B F0 w0 st a w):I1 C B F0 w0 (evict1 d st) a w:=by
 unfold evict1;split
 ·exact hh
 ·rename_i hne;split
  ·rename_i hd;rw[Nat.blt_eq]at hd;obtain⟨F,a3,h⟩:=hh;generalize hm:st.objs.length=m at *;generalize hobj:Pm d m (upd st.objs d .none)++[WA d m (nth .none st.objs d)]=objs'
   let loc':Where:=⟨a3.P,fun j=>if j=m then a3 d else if j=d then none else a3 j,fun j=>if j=m then a3.ty d else a3.ty j⟩
   have a4:(Pm d m (upd st.objs d .none)).length=m:=by rw[Ys,M2,qk,hm]
   have a7:∀j,nth .none objs' j=if j=m then WA d m (nth .none st.objs d)else if j=d then .none else WA d m (nth .none st.objs j):=fun j=>by
    rw[←hobj];by_cases h1:j<m
    ·rw[if_neg (by omega),qI,T1 (by omega),←qI,Ys];have:=Yt (WA d m) .none (upd st.objs d .none) j;have e:WA d m .none= .none:=rfl;rw[e]at this;rw[this,zm];by_cases h2:j=d
     ·subst h2;rw[if_pos ⟨rfl,by omega⟩,if_pos rfl];rfl
     ·rw[if_neg fun e=>h2 e.1.symm,if_neg h2]
    ·by_cases h2:j=m
     ·subst h2;rw[if_pos rfl,qI,No (by omega)];simp[a4]
     ·rw[if_neg h2,if_neg (by omega),qJ _ (by simp[a4];omega),qJ _ (by omega)];rfl
   have ho:∀k,k<st.objs.length→nth .none objs' (Th d m k)=WA d m (nth .none st.objs k)∧loc' (Th d m k)=a3 k:=fun k hk=>by
    rw[So,a7];by_cases hkd:k=d
    ·subst hkd;simp[loc']
    ·have:k≠m:=by omega
     simp[loc',hkd,this]
   have hlm:a3 m=none:=by have:=h.objs m;rw[qJ _ (by omega)]at this;exact this
   have hld:∀{k b c},a3 k=some (b,c)→k<m:=fun{k b c} hk=>by
    rcases c3 k m with h'|h'
    ·exact h'
    ·have:=h.objs k;rw[qJ _ (by omega)]at this;rw[this]at hk;simp at hk
   have a6:∀i,i<m→loc'.ty (Th d m i)=a3.ty i:=fun i hi=>by
    rw[So];by_cases hid:i=d
    ·simp[hid,loc']
    ·have:i≠m:=by omega
     simp[hid,loc',this]
   have a8:∀(j k:Nat),loc' j=a3 k→loc'.ty j=a3.ty k→CO a3 st.objs w F k (nth .none st.objs k)→CO loc' objs' w F j (WA d m (nth .none st.objs k)):=by
    intro j k hl hty hc;cases hk:nth .none st.objs k with
    |none=>rw[hk]at hc;exact hl.trans hc
    |dead=>rw[hk]at hc;exact hl.trans hc
    |box cells=>
     rw[hk]at hc;obtain⟨b,c,cs,t,h1,h2,h3,h4,h5⟩:=hc;refine⟨b,c,cs,t,hl.trans h1,h2,h3,?_,?_⟩
     ·rw[jH];exact wQ (fun v hv x hx=>⟨CV.ren ho (h5 v hv) hx.1,hx.2⟩) h4
     ·intro v hv;rw[jH]at hv;obtain⟨u,hu,rfl⟩:=M3.1 hv;exact(h5 u hu).ren fun k hk=>(ho k hk).1
    |vec cells=>
     rw[hk]at hc;obtain⟨b,c,cs,t,h1,h2,h3,h4,h5,h7,h8,h9⟩:=hc;have a5:(Yr d m cells).length=cells.length:=by rw[jH,M2]
     refine⟨b,c,cs,t,hl.trans h1,h2,h3,h4,by rw[a5];exact h5,fun j hj=>?_,fun v hv=>?_,h9.1,by rw[a5];exact h9.2⟩
     ·rw[a5]at hj;obtain⟨x,q1,q2,q3⟩:=h7 j hj;refine⟨x,q1,?_,q3⟩;rw[jH,show(V.any:V)=DJ d m .any from rfl,Yt];exact CV.ren ho (h8 _ (wv hj)) q2
     ·rw[jH]at hv;obtain⟨u,hu,rfl⟩:=M3.1 hv;exact(h8 u hu).ren fun k hk=>(ho k hk).1
    |bld T q=>
     rw[hk]at hc;obtain⟨b,c,p,v,h1,h2,h3,h4,h5,h6⟩:=hc;refine⟨b,c,p,v,hl.trans h1,h2,h3,h4,CV.ren ho h6.1 h5,h6.1.ren fun k hk=>(ho k hk).1,fun i hi=>?_⟩;cases q with
     |arr i'=>simp only[DJ,V.arr.injEq]at hi;subst hi;have hlt:=Ref.lt h6.1 i' (by simp[qn]);rw[a6 i' (by omega)];exact h6.2 i' rfl
     |_=>simp[DJ]at hi
    |arr s es fz=>rw[hk]at hc;obtain⟨h1,h2,h3,h4⟩:=hc;refine⟨h1,h2,h3,?_⟩;rw[hl,hty];exact h4
   refine⟨F,loc',h.prog,h.below,h.hB,h.defers,?_,?_,fun j=>?_,?_,?_,h.bound,h.fsub,h.fsup,h.inv⟩
   ·show All2 _ (Yr d m st.tmps) _;rw[jH];exact wQ (fun v hv x hx=>CV.ren ho (h.refs v hv) hx) h.tmps
   ·intro v hv;have hv:v∈Yr d m st.tmps:=hv;rw[jH]at hv;obtain⟨u,hu,rfl⟩:=M3.1 hv;exact(h.refs u hu).ren fun k hk=>(ho k hk).1
   ·show CO loc' objs' w F j (nth .none objs' j);rw[a7];split
    ·rename_i e;exact a8 j d (by simp[loc',e]) (by simp[loc',e]) (h.objs d)
    ·split
     ·rename_i e1 e2;show loc' j=none;simp[loc',e2];omega
     ·rename_i e1 e2;exact a8 j j (by simp[loc',e1,e2]) (by simp[loc',e1]) (h.objs j)
   ·intro j j' b c c' g1 g2;simp only[loc']at g1 g2;split at g1<;>split at g2
    ·rw[‹j=m›,‹j'=m›]
    ·split at g2
     ·simp at g2
     ·exact absurd (h.inj _ _ _ _ _ g1 g2).symm ‹_›
    ·split at g1
     ·simp at g1
     ·exact absurd (h.inj _ _ _ _ _ g1 g2) ‹_›
    ·split at g1
     ·simp at g1
     ·split at g2
      ·simp at g2
      ·exact h.inj _ _ _ _ _ g1 g2
   ·intro j b c g1;simp only[loc']at g1;split at g1
    ·exact h.fresh _ _ _ g1
    ·split at g1
     ·simp at g1
     ·exact h.fresh _ _ _ g1
  ·exact hh
theorem Hl:∀(l:List Nat) {st:St},I1 C B F0 w0 st a w→I1 C B F0 w0 (evict l st) a w
 |[],_,h=>h
 |_::r,_,h=>Hl r (Pn h)
end
def Yu (k:Nat) (ds:List D):V→V
 | .box j off=>match cH j k with
  |true=> .eref [ds] 0 off
  |false=> .box j off
 | .boxAt j g=>match cH j k with
  |true=> .any
  |false=> .boxAt j g
 | .agv _=> .any
 |v=>v
def WB (k:Nat) (ds:List D):List V→List V
 |[]=>[]
 |v::r=>Yu k ds v::WB k ds r
def E6 (k:Nat) (ds:List D):Obj→Obj
 | .box cells=> .box (WB k ds cells)
 | .bld T q=> .bld T (Yu k ds q)
 | .vec cells=> .vec (WB k ds cells)
 |o=>o
def Ko (k:Nat) (ds:List D):List Obj→List Obj
 |[]=>[]
 |v::r=>E6 k ds v::Ko k ds r
def frz1 (k:Nat) (st:St):St:=
 match nth .none st.objs k with
 | .box cells=>match qD cells with
  |some ds=>⟨WB k ds st.tmps,upd (Ko k ds st.objs) k .dead,[]⟩
  |none=>st
 |_=>st
theorem jI (k:Nat) (ds:List D):∀l,WB k ds l=l.map (Yu k ds)
 |[]=>rfl
 |v::r=>by simp only[WB,Ls];rw[jI k ds r]
theorem MX (k:Nat) (ds:List D):∀l,Ko k ds l=l.map (E6 k ds)
 |[]=>rfl
 |v::r=>by simp only[Ko,Ls];rw[MX k ds r]
section
variable {C:Cx} {B:Bd} {F0:Nat→Prop} {w0:World} {F:Nat→Prop} {loc:Where} {st:St} {a:Act} {w:World}
theorem Za {α β:Type} {R:α→β→Prop}:∀{as:List α} {bs:List β},All2 R as bs→∀a∈as,∃b,R a b
 |a::as,b::bs,h,x,hx=>by
  rcases J9.1 hx with rfl|hx
  ·exact⟨b,h.1⟩
  ·exact Za h.2 x hx
theorem CV.frz {loc':Where} {objs objs':List Obj} {F':Nat→Prop} {k:Nat} {ds:List D} {cells:List V} {v:V} {x:Value} (hk:nth .none objs k= .box cells) (hF:∀b,F b→F' b) (hty:loc'.ty=loc.ty)
 (hn:∀j,nth .none objs' j=if j=k then .dead else E6 k ds (nth .none objs j)) (hl:∀j,j≠k→loc' j=loc j)
 (hp:∀b c,loc k=some (b,c)→Row w F' [ds] b 0 ds.length)
 (hr:Ref objs v) (h:CV loc objs w F v x):CV loc' objs' w F' (Yu k ds v) x∧Ref objs' (Yu k ds v):=by
 have hne:∀{o:Obj},o≠ .none→E6 k ds o≠ .none:=fun{o} h=>by cases o<;>simp_all[E6]
 have a3:∀j,nth .none objs j≠ .none→nth .none objs' j≠ .none:=fun j hj=>by
  rw[hn];split
  ·simp
  ·exact hne hj
 have a6:∀o:Obj,zx (E6 k ds o)=zx o:=fun o=>by cases o<;>rfl
 have a4:∀j s es fz,nth .none objs' j= .arr s es fz→nth .none objs j= .arr s es fz∧loc' j=loc j:=fun j s es fz hj=>by
  rw[hn]at hj;split at hj
  ·simp at hj
  ·rename_i e;refine⟨?_,hl j e⟩;cases hj2:nth .none objs j<;>rw[hj2]at hj<;>simp only[E6,reduceCtorEq]at hj;exact hj
 cases v with
 |box j off=>
  simp only[Yu];by_cases a5:j=k
  ·subst a5;rw[show cH j j=true from el j]
   dsimp only
   obtain⟨b,c,h1,rfl⟩:=h _ hk rfl;exact⟨⟨b,0,ds.length,by simp,by simp,hp b c h1⟩,trivial⟩
  ·rw[show cH j k=false from by rw[←Hu,en];exact a5];refine⟨fun o hc hb=>?_,a3 j hr⟩;rw[hn,if_neg a5]at hc;have a7:zx (nth .none objs j)=true:=by rw[←a6,hc];exact hb
   obtain⟨b,c,h1,h2⟩:=h _ rfl a7;exact⟨b,c,by rw[hl j a5];exact h1,h2⟩
 |boxAt j g=>
  simp only[Yu];by_cases a5:j=k
  ·subst a5;rw[show cH j j=true from el j];exact⟨trivial,trivial⟩
  ·rw[show cH j k=false from by rw[←Hu,en];exact a5];refine⟨fun o hc hb=>?_,a3 j hr⟩;rw[hn,if_neg a5]at hc;have a7:zx (nth .none objs j)=true:=by rw[←a6,hc];exact hb
   obtain⟨⟨c,h1⟩,h2⟩:=h _ rfl a7;exact⟨⟨c,by rw[hl j a5];exact h1⟩,h2⟩
 |vec j n=>
  refine⟨fun o hc hb=>?_,a3 j hr⟩;rw[hn]at hc;split at hc
  ·subst hc;simp[zx]at hb
  ·rename_i a5;obtain⟨b,c,h1,h2⟩:=h _ rfl (by rw[←a6,hc];exact hb);exact⟨b,c,by rw[hl j a5];exact h1,h2⟩
 |arr j=>refine⟨fun s es fz hc=>?_,a3 j hr⟩;obtain⟨h1,h2⟩:=a4 j s es fz hc;rw[h2];exact h s es fz h1
 |elt j i off=>refine⟨fun s es fz hc=>?_,a3 j hr⟩;obtain⟨h1,h2⟩:=a4 j s es fz hc;rw[h2];exact h s es fz h1
 |sub j off len=>refine⟨fun s es fz hc=>?_,a3 j hr⟩;obtain⟨h1,h2⟩:=a4 j s es fz hc;rw[h2];exact h s es fz h1
 |arrAt j g c t=>refine⟨fun s es fz hc=>?_,a3 j hr⟩;obtain⟨h1,h2⟩:=a4 j s es fz hc;rw[h2,hty];exact h s es fz h1
 |tpo j as=>obtain⟨y,ys,rfl,h3,h4⟩:=h;refine⟨⟨y,ys,rfl,fun s es fz hc=>?_,h4.mono fun _ _ h=>h.mono hF fun _ _=>rfl⟩,a3 j hr⟩;obtain⟨h1,h2⟩:=a4 j s es fz hc;rw[h2];exact h3 s es fz h1
 |agv cs=>exact⟨trivial,trivial⟩
 |c d=>exact⟨CD.mono h hF fun _ _=>rfl,trivial⟩
 |ag cs=>obtain⟨vs,rfl,h⟩:=h;exact⟨⟨vs,rfl,h.mono fun _ _ h=>h.mono hF fun _ _=>rfl⟩,trivial⟩
 |tp as=>obtain⟨vs,rfl,h⟩:=h;exact⟨⟨vs,rfl,h.mono fun _ _ h=>h.mono hF fun _ _=>rfl⟩,trivial⟩
 |eref es i off=>obtain⟨b,o,a8,h1,h2,h3⟩:=h;exact⟨⟨b,o,a8,h1,h2,h3.mono hF fun _ _=>rfl⟩,trivial⟩
 |any=>exact⟨trivial,trivial⟩
 |no=>exact⟨h,trivial⟩
 |nilS=>exact⟨h,trivial⟩
 |gl g off=>exact⟨h,trivial⟩
 |fn f=>exact⟨h,trivial⟩
theorem E7 {k:Nat} (hh:I1 C B F0 w0 st a w):I1 C B F0 w0 (frz1 k st) a w:=by
 unfold frz1;split
 ·rename_i an hk;split
  ·rename_i ds hds;obtain⟨F,loc,h⟩:=hh;have b1:=h.objs k;rw[hk]at b1;obtain⟨b0,c0,cs,t,a7,hnF,ad,a8,b2⟩:=b1;have hlt:k<st.objs.length:=xn (by rw[hk];simp)
   let F':Nat→Prop:=fun x=>F x∨x=b0
   have hF:∀b,F b→F' b:=fun b hb=> .inl hb
   let loc':Where:=⟨loc.P,fun j=>if j=k then none else loc j,loc.ty⟩
   have hl:∀j,j≠k→loc' j=loc j:=fun j hj=>by simp[loc',hj]
   have hn:∀j,nth .none (upd (Ko k ds st.objs) k .dead) j=if j=k then .dead else E6 k ds (nth .none st.objs j):=fun j=>by
    rw[MX];by_cases hj:k=j
    ·subst hj;rw[qg _ _ _ (by rw[M2];exact hlt),if_pos rfl]
    ·rw[qe _ _ _ hj,if_neg (er hj)];exact Yt (E6 k ds) .none st.objs j
   have ap:All2 (CD w F) ds cs.toList:=z7 (loc:=loc) (objs:=st.objs) hds (a8.mono fun _ _ h=>h.1);have al:=ap.length;have hp:∀b c,loc k=some (b,c)→Row w F' [ds] b 0 ds.length:=fun b c hb=>by
    rw[a7]at hb;simp only[ey,ez]at hb;obtain⟨rfl,rfl⟩:=hb;refine⟨fun e he=>by simp only[V1]at he;rw[he],.inr rfl,fun j hj=>?_⟩;simp only[M1,Nat.one_mul]at hj;refine⟨nth undef cs.toList j,?_,?_⟩
    ·rw[dn,zp ad,qo _ (by omega)];simp at al;simp[show j<cs.size by omega]
    ·simp only[cc,List.flatten_nil,cg];exact(ap.nth .undef undef _ _ j hj).mono hF fun _ _=>rfl
   have a5:∀v x,Ref st.objs v→CV loc st.objs w F v x→CV loc' (upd (Ko k ds st.objs) k .dead) w F' (Yu k ds v) x∧Ref (upd (Ko k ds st.objs) k .dead) (Yu k ds v):=fun v x hr hv=>CV.frz (loc:=loc) (objs:=st.objs) hk hF rfl hn hl hp hr hv
   have a3:∀j b c,j≠k→loc j=some (b,c)→b≠b0:=fun j b c hj hb e=>by subst e;exact hj (h.inj _ _ _ _ _ hb a7)
   refine⟨F',loc',h.prog,h.below,h.hB,h.defers,?_,fun v hv=>?_,fun j=>?_,fun i j b c c' q1 q2=>?_,fun j b c q=>?_,fun b hb=>?_,fun b hb=>?_,fun b hb=>hF _ (h.fsup b hb),h.inv.mono hF fun _ _=>rfl⟩
   ·show All2 _ (WB k ds st.tmps) _;rw[jI];exact wQ (fun v hv x hx=>(a5 v x (h.refs v hv) hx).1) h.tmps
   ·have hv:v∈WB k ds st.tmps:=hv;rw[jI]at hv;obtain⟨u,hu,rfl⟩:=M3.1 hv;obtain⟨x,hx⟩:=Za h.tmps u hu;exact(a5 u x (h.refs u hu) hx).2
   ·show CO loc' _ w F' j (nth .none (upd (Ko k ds st.objs) k .dead) j);rw[hn];split
    ·rename_i e;show loc' j=none;simp[loc',e]
    ·rename_i e;have hc:=h.objs j;cases hj:nth .none st.objs j with
     |none=>rw[hj]at hc;exact(hl j e).trans hc
     |dead=>rw[hj]at hc;exact(hl j e).trans hc
     |box cells2=>
      rw[hj]at hc;obtain⟨b,c,a4,t2,h1,h2,h3,h4,h5⟩:=hc;refine⟨b,c,a4,t2,(hl j e).trans h1,fun hb=>?_,h3,?_,fun v hv=>?_⟩
      ·rcases hb with hb|hb
       ·exact h2 hb
       ·exact a3 j b c e h1 hb
      ·show All2 (fun v x=>CV loc' (upd (Ko k ds st.objs) k .dead) w F' v x∧x.oneCell'=true) (WB k ds cells2) a4.toList;rw[jI];exact wQ (fun v hv x hx=>⟨(a5 v x (h5 v hv) hx.1).1,hx.2⟩) h4
      ·rw[jI]at hv;obtain⟨u,hu,rfl⟩:=M3.1 hv;obtain⟨x,hx⟩:=Za h4 u hu;exact(a5 u x (h5 u hu) hx.1).2
     |vec cells2=>
      rw[hj]at hc;obtain⟨b,c,a4,t2,h1,h2,h3,h4,h5,h7,h8,h9⟩:=hc;have ag:(WB k ds cells2).length=cells2.length:=by rw[jI,M2]
      have a6:∀j,j<cells2.length→∃x,a4[j]? =some x∧(CV loc' (upd (Ko k ds st.objs) k .dead) w F' (Yu k ds (nth .any cells2 j)) x∧Ref (upd (Ko k ds st.objs) k .dead) (Yu k ds (nth .any cells2 j)))∧x.oneCell'=true:=fun j hj=>by obtain⟨x,q1,q2,q3⟩:=h7 j hj;exact⟨x,q1,a5 _ x (h8 _ (wv hj)) q2,q3⟩
      refine⟨b,c,a4,t2,(hl j e).trans h1,fun hb=>?_,h3,h4,by rw[ag];exact h5,fun i hi=>?_,fun v hv=>?_,h9.1,by rw[ag];exact h9.2⟩
      ·rcases hb with hb|hb
       ·exact h2 hb
       ·exact a3 j b c e h1 hb
      ·rw[ag]at hi;obtain⟨x,q1,q2,q3⟩:=a6 i hi;refine⟨x,q1,?_,q3⟩;rw[jI k ds cells2,show(V.any:V)=Yu k ds .any from rfl,Yt];exact q2.1
      ·rw[jI]at hv;obtain⟨u,hu,rfl⟩:=M3.1 hv;obtain⟨i,hi,rfl⟩:=List.getElem_of_mem hu;obtain⟨x,_,q2,_⟩:=a6 i hi;rw[qo _ hi]at q2;exact q2.2
     |bld T q=>
      rw[hj]at hc;obtain⟨b,c,p,v,h1,h2,h3,h4,h5,h6,h7⟩:=hc;have h8:=a5 q v h6 h5;refine⟨b,c,p,v,(hl j e).trans h1,fun hb=>?_,h3,h4,h8.1,h8.2,fun i hi=>?_⟩
      ·rcases hb with hb|hb
       ·exact h2 hb
       ·exact a3 j b c e h1 hb
      ·have:q= .arr i:=by
        cases q with
        |arr m=>exact hi
        |box m off=>simp only[Yu]at hi;split at hi<;>simp at hi
        |boxAt m g=>simp only[Yu]at hi;split at hi<;>simp at hi
        |_=>simp only[Yu,reduceCtorEq]at hi
       exact h7 i this
     |arr s es fz=>
      rw[hj]at hc;obtain⟨h1,h2,h3,h4⟩:=hc;refine⟨h1,h2,h3,?_⟩;rcases h4 with⟨q1,q2⟩|⟨b,c,a4,t2,q1,q2,q3,q4,q5,q6,q7,q8⟩
      ·exact .inl ⟨(hl j e).trans q1,q2⟩
      ·refine .inr ⟨b,c,a4,t2,(hl j e).trans q1,?_,q3,q4,q5,fun i hi=>?_,q7,q8⟩
       ·cases fz with
        |true=>exact hF _ q2
        |false=>
         intro hb;rcases hb with hb|hb
         ·exact q2 hb
         ·exact a3 j b c e q1 hb
       ·obtain⟨v,r1,r2⟩:=q6 i hi;exact⟨v,r1,r2.mono hF fun _ _=>rfl⟩
   ·have e1:i≠k:=fun e=>by simp[loc',e]at q1
    have e2:j≠k:=fun e=>by simp[loc',e]at q2
    rw[hl i e1]at q1;rw[hl j e2]at q2;exact h.inj _ _ _ _ _ q1 q2
   ·have e1:j≠k:=fun e=>by simp[loc',e]at q
    rw[hl j e1]at q;exact h.fresh _ _ _ q
   ·rcases hb with hb|hb
    ·exact h.bound b hb
    ·subst hb;exact(h.fresh _ _ _ a7).2
   ·rcases hb with hb|hb
    ·exact h.fsub b hb
    ·subst hb;exact .inr (h.fresh _ _ _ a7).1
  ·exact hh
 ·exact hh
end
end Eng
end
section
namespace Eng
open Go Go.RowKit
def kz:List A→Bool
 |[]=>true
 |a::r=>W7 a&&kz r
theorem wR {rs:List A} (h:kz rs=true):∀r∈rs,W7 r=true:=by
 induction rs with
 |nil=>intro r hr;simp at hr
 |cons a r ih=>
  simp only[kz,Dd]at h;intro x hx;rcases J9.1 hx with rfl|hx
  ·exact h.1
  ·exact ih h.2 x hx
def iB (K:Nat→List A→Option (List A)):R→Option (V×List (Nat×Obj))
 | .fail=>none
 | .ok v up=>some (v,up)
 | .cond (dc:=dc) _ v up=>match dc with
  | .isTrue _=>some (v,up)
  | .isFalse _=>none
 | .look z row off ag=>match Nat.ble (off+z.length) row.length with
  |true=>some (match ag with|true=> .ag (seg row off z.length)|false=> .c (nth .undef (seg row off z.length) 0),[])
  |false=>none
 | .call f as sh up=>match K f as with
  |some rs=>match zE sh||kz rs with
   |true=>some (VX rs,up)
   |false=>none
  |none=>none
def Yv (K:Nat→List A→Option (List A)) (C:Cx) (ops:Array Oper) (o:Oper) (st:St):Option (V×List (Nat×Obj)):=
 match o.guard with
 |none=>iB K (xw C o (ev st) st.objs)
 |some (j,want)=>match Qg ops j with
  |none=>none
  |some t=>match nth .any st.tmps t with
   | .c (.bool c)=>match c,want with
    |true,true=>iB K (xw C o (ev st) st.objs)
    |false,false=>iB K (xw C o (ev st) st.objs)
    |true,false=>some (.no,[])
    |false,true=>some (.no,[])
   | .no=>some (.no,[])
   |_=>none
def DK (K:Nat→List A→Option (List A)) (C:Cx) (ops:Array Oper):List Oper→St→Option St
 |[],st=>some st
 |o::r,st=>match Yv K C ops o st with
  |some (v,up)=>DK K C ops r (st.put o.dst v up)
  |none=>none
def WC (K:Nat→List A→Option (List A)) (C:Cx) (ops:Array Oper):List Oper→St→List Rec→Option (St×List Rec)
 |[],st,rs=>some (st,rs)
 |o::r,st,rs=>match Yv K C ops o st with
  |some (v,up)=>WC K C ops r (st.put o.dst v up) (rs++[(opk o (ev st) st.objs,we up [])])
  |none=>none
def settle1 (k i:Nat) (st:St):St:=
 match nth .none st.objs k with
 | .box cells=>match nth .any cells i with
  | .arr j=>match nth .none st.objs j with
   | .arr s es _=>⟨st.tmps,upd (upd st.objs j (.arr s es true)) k (.box (upd cells i (.c (.sl es)))),st.dirty⟩
   |_=>st
  |_=>st
 |_=>st
def settleN (k:Nat):Nat→St→St
 |0,st=>st
 |n+1,st=>settleN k n (settle1 k n st)
def iC:V→Bool
 | .arr _=>true
 |_=>false
def settle (k:Nat) (st:St):St:=
 match nth .none st.objs k with
 | .box cells=>match cells.any iC with
  |true=>settleN k cells.length st
  |false=>st
 |_=>st
def settleM:List Operand→St→St
 |[],st=>st
 |x::r,st=>settleM r (match ev st x with
  | .box k 0=>frz1 k st
  |_=>st)
def settleO (C:Cx):List Oper→St→St
 |[],st=>st
 |o::r,st=>settleO C r (match o.op with
  | .load t x=>match vd C.P t&&!C.keep t o.dst with
   |true=>match ev st x with
    | .box k _=>settle k st
    |_=>st
   |false=>st
  | .makeFunc _ _ captured=>settleM captured.toList st
  |_=>st)
def tu (st:St):St:=⟨st.tmps,st.objs,[]⟩
def Il (K:Nat→List A→Option (List A)) (C:Cx) (ops:Array Oper) (draw:Bool) (st:St):Option St:=
 match draw with
 |false=>DK K C ops ops.toList st
 |true=>match yK C ops.toList with
  |true=>DK K C ops ops.toList st
  |false=>match WC K C ops ops.toList st []with
   |some (s,rs)=>match ye C ops.toList rs with
    |true=>some s
    |false=>none
   |none=>none
def Sp (C:Cx):List Oper→List Nat
 |[]=>[]
 |o::r=>RH C o++Sp C r
def jM (K:Nat→List A→Option (List A)) (C:Cx):Nat→Code→St→Option (X×St)
 |0,_,_=>none
 |n+1,c,st=>match c with
  | .skip=>some (.normal,st)
  | .region _ ops d=>match Il K C ops d (settleO C ops.toList (evict (Sp C ops.toList) st))with
   |some s=>some (.normal,tu s)
   |none=>none
  | .seq a b=>match jM K C n a st with
   |some (.normal,s)=>jM K C n b s
   |r=>r
  | .cond c x y=>match ev st c with
   | .c (.bool true)=>jM K C n x st
   | .c (.bool false)=>jM K C n y st
   |_=>none
  | .block id c=>match jM K C n c st with
   |some (.exit i,s)=>match cH i id with
    |true=>some (.normal,s)
    |false=>some (.exit i,s)
   |r=>r
  | .exit id=>some (.exit id,st)
  | .ret=>some (.ret,st)
  | .loop body=>match jM K C n body st with
   |some (.normal,s)=>jM K C n (.loop body) s
   |r=>r
  |_=>none
def XO (tab:Nat→List A→Option (List A)) (C:Cx) (lim:Nat):Nat→Nat→List A→Option (List A)
 |0,_,_=>none
 |n+1,f,args=>match tab f args with
  |some rs=>some rs
  |none=>match C.P.funcs[f]? with
   |none=>none
   |some fn=>match fn.body with
    |none=>none
    |some c=>match jM (XO tab C lim n) C lim c (vS fn.ntmps args)with
     |some (.normal,s)=>resD C s fn.results.toList
     |some (.ret,s)=>resD C s fn.results.toList
     |_=>none
section
variable {C:Cx} {B:Bd} {F0:Nat→Prop} {w0:World} {K:Nat→List A→Option (List A)}
theorem TL (hK:∀f as rs,K f as=some rs→qc C f as rs) {r:R} {v:V} {up:List (Nat×Obj)} (h:iB K r=some (v,up)):Out (qc C) r v up:=by
 unfold iB at h;split at h
 ·simp at h
 ·simp only[ey,ez]at h;exact⟨h.1.symm,h.2.symm⟩
 ·split at h
  ·simp only[ey,ez]at h;exact⟨by assumption,h.1.symm,h.2.symm⟩
  ·simp at h
 ·split at h
  ·rename_i hle;simp only[ey,ez]at h;exact⟨_,⟨rfl,Nat.le_of_ble_eq_true hle⟩,h.1.symm,h.2.symm⟩
  ·simp at h
 ·split at h
  ·rename_i rs hrs;split at h
   ·rename_i hf;simp only[ey,ez]at h;refine⟨rs,hK _ _ _ hrs,fun hs=>wR ?_,h.1.symm,h.2.symm⟩
    simpa [hs]using hf
   ·simp at h
  ·simp at h
theorem MY (hK:∀f as rs,K f as=some rs→qc C f as rs) {ops:Array Oper} {o:Oper} {st:St} {v:V} {up:List (Nat×Obj)} (h:Yv K C ops o st=some (v,up)):Stp C (qc C) ops o st v up:=by
 unfold Yv at h;split at h
 ·rename_i hg;exact⟨true,by unfold Xa;rw[hg],by rw[if_pos rfl];exact TL hK h⟩
 ·rename_i j a3 hg;split at h
  ·simp at h
  ·rename_i t ht;split at h
   ·rename_i c hc;have hw:∀b,b=(c==a3)→Xa ops o st.tmps b:=fun b hb=>by unfold Xa;rw[hg];exact⟨t,ht,.inl ⟨c,hc,hb⟩⟩
    split at h
    ·exact⟨true,hw _ rfl,by rw[if_pos rfl];exact TL hK h⟩
    ·exact⟨true,hw _ rfl,by rw[if_pos rfl];exact TL hK h⟩
    ·simp only[ey,ez]at h;exact⟨false,hw _ rfl,by rw[if_neg (by simp)];exact⟨h.1.symm,h.2.symm⟩⟩
    ·simp only[ey,ez]at h;exact⟨false,hw _ rfl,by rw[if_neg (by simp)];exact⟨h.1.symm,h.2.symm⟩⟩
   ·rename_i hd;simp only[ey,ez]at h;exact⟨false,by unfold Xa;rw[hg];exact⟨t,ht,.inr ⟨hd,rfl⟩⟩,by rw[if_neg (by simp)];exact⟨h.1.symm,h.2.symm⟩⟩
   ·simp at h
theorem Ss (hK:∀f as rs,K f as=some rs→qc C f as rs) {ops:Array Oper}:∀(l:List Oper) (k:Nat) (s s':St),(∀j,l[j]? =ops[k+j]?)→DK K C ops l s=some s'→∃rc,Tr C (qc C) ops rc (bd k l.length) s s'
 |[],_,s,s',_,h=>by simp only[DK,ey]at h;subst h;exact⟨fun _=>([],[]),rfl,rfl⟩
 |o::l,k,s,s',hk,h=>by
  have h0:ops[k]? =some o:=by simpa using(hk 0).symm
  simp only[DK]at h;split at h
  ·rename_i v up hs;obtain⟨rc,h3⟩:=Ss hK l (k+1) _ _ (fun j=>by have:=hk (j+1);simpa [dl,ea 1 j]using this) h;refine⟨fun i=>if i=k then(opk o (ev s) s.objs,up.map (·.1))else rc i,?_⟩;rw[U3,U0];refine⟨o,h0,v,up,MY hK hs,?_,h3.recs fun i hi=>?_⟩
   ·simp only[if_pos];exact⟨fun _ _ h=>h,fun p hp=>M3.2 ⟨p,hp,rfl⟩⟩
   ·have:=(cb.1 hi).1;rw[if_neg (by omega)]
  ·simp at h
theorem MZ (hK:∀f as rs,K f as=some rs→qc C f as rs) {ops:Array Oper}:∀(l:List Oper) (k:Nat) (s s':St) (acc R:List Rec),(∀j,l[j]? =ops[k+j]?)→acc.length=k→WC K C ops l s acc=some (s',R)→
 Tr C (qc C) ops (fun i=>nth ([],[]) R i) (bd k l.length) s s'∧∃R',R=acc++R'
 |[],_,s,s',acc,R,_,_,h=>by simp only[WC,ey,ez]at h;obtain⟨rfl,rfl⟩:=h;exact⟨⟨rfl,rfl⟩,[],by simp⟩
 |o::l,k,s,s',acc,R,hk,hacc,h=>by
  have h0:ops[k]? =some o:=by simpa using(hk 0).symm
  simp only[WC]at h;split at h
  ·rename_i v up hs;obtain⟨h3,R',hR⟩:=MZ hK l (k+1) _ _ _ _ (fun j=>by have:=hk (j+1);simpa [dl,ea 1 j]using this) (by simp[hacc]) h;refine⟨?_,(opk o (ev s) s.objs,we up [])::R',by rw[hR];simp⟩;rw[U3,U0];refine⟨o,h0,v,up,MY hK hs,?_,h3⟩;have e:nth ([],[]) R k=(opk o (ev s) s.objs,we up []):=by rw[hR,Lm];have:=yk ([],[]) acc ((opk o (ev s) s.objs,we up [])::R') 0;rw[c2,hacc]at this;exact this
   simp only;rw[e];exact⟨fun _ _ h=>h,fun p hp=>kx.2 (.inr ⟨p,hp,rfl⟩)⟩
  ·simp at h
theorem TM {k i:Nat} {st:St} {a:Act} {w:World} (hh:I1 C B F0 w0 st a w):I1 C B F0 w0 (settle1 k i st) a w:=by
 unfold settle1;split
 ·rename_i a3 hk;split
  ·rename_i j hi;split
   ·rename_i s es fz hj;obtain⟨F,a4,h⟩:=hh;have hkj:k≠j:=by intro e;subst e;rw[hk]at hj;cases hj
    have h1:=h.freeze1 hj;generalize hF':(fun b=>F b∨∃c,a4 j=some (b,c))=F' at h1;have hFF:∀b,F b→F' b:=fun b hb=>by rw[←hF'];exact .inl hb
    have hFj:∀b c,a4 j=some (b,c)→F' b:=fun b c hb=>by rw[←hF'];exact .inr ⟨c,hb⟩
    refine⟨F',a4,?_⟩;have hlt:k<st.objs.length:=by
     rcases c3 k st.objs.length with h|h
     ·exact h
     ·rw[qJ _ h]at hk;simp at hk
    have ag:nth .none (upd st.objs j (.arr s es true)) k= .box a3:=by rw[qe _ _ _ (er hkj)];exact hk
    have a8:k<(upd st.objs j (.arr s es true)).length:=by rw[qk];exact hlt
    have a5:Le (upd st.objs j (.arr s es true)) (upd (upd st.objs j (.arr s es true)) k (.box (upd a3 i (.c (.sl es))))) a4 a4:=by
     refine⟨rfl,fun _ _=>rfl,fun j hj=>?_,fun j o' hj hc hbx=>?_,fun j s' es' fz' hj hc=>?_⟩
     ·rw[zm];split
      ·simp
      ·exact hj
     ·rw[zm]at hc;split at hc
      ·rename_i e;rw[←e.1];exact⟨by rw[ag];rfl,rfl⟩
      ·exact⟨by rw[hc];exact hbx,rfl⟩
     ·rw[zm]at hc;split at hc
      ·simp at hc
      ·exact⟨⟨_,_,hc,rfl⟩,rfl⟩
    refine h1.relocate a5 (fun m=>?_) h1.inj h1.fresh;by_cases hm:k=m
    ·subst hm;rw[qg _ _ _ a8];have h0:=h1.objs k;simp only at h0;rw[ag]at h0;obtain⟨b,c,cs,t,q1,q2,q3,q4,q5⟩:=h0;have hi0:i<a3.length:=by
      rcases c3 i a3.length with h|h
      ·exact h
      ·rw[qJ _ h]at hi;simp at hi
     have hcl:=q4.length;have hx:=All2.nth .any undef a3 cs.toList i q4 hi0;rw[hi]at hx;have a6:=h1.objs j;simp only at a6;have a7:j<st.objs.length:=by
      rcases c3 j st.objs.length with h|h
      ·exact h
      ·rw[qJ _ h]at hj;simp at hj
     have ad:nth .none (upd st.objs j (.arr s es true)) j= .arr s es true:=qg _ _ _ a7;rw[ad]at a6;have hcd:=WQ (F':=F') ad a6 hx.1 (fun _ h=>h) hFj;refine⟨b,c,cs,t,q1,q2,q3,?_,fun v hv=>?_⟩
     ·have h6:All2 (fun v x=>CV a4 (upd (upd st.objs j (.arr s es true)) k (.box (upd a3 i (.c (.sl es))))) w F' v x∧x.oneCell'=true) a3 cs.toList:=
       q4.mono_mem fun v hv x hx=>⟨CV.le (fun _ h=>h) (fun _ _=>rfl) a5 (q5 v hv) hx.1,hx.2⟩
      have h7:=All2.upd (i:=i) (a:=V.c (.sl es)) (b:=nth undef cs.toList i) ⟨hcd,hx.2⟩ h6;have h8:upd cs.toList i (nth undef cs.toList i)=cs.toList:=by rw[xr,qo _ (by omega)];exact List.set_getElem_self _
      rw[h8]at h7;exact h7
     ·rcases xU hv with hv|rfl
      ·exact(q5 v hv).le a5
      ·trivial
    ·rw[qe _ _ _ hm];exact CO.le (fun _ h=>h) (fun _ _=>rfl) a5 rfl rfl (fun _ _ _=>⟨rfl,fun h=>h⟩) (h1.objs m)
   ·exact hh
  ·exact hh
 ·exact hh
theorem Kp {k:Nat} {a:Act} {w:World}:∀(n:Nat) {st:St},I1 C B F0 w0 st a w→I1 C B F0 w0 (settleN k n st) a w
 |0,_,h=>h
 |n+1,_,h=>Kp n (TM h)
theorem Po {k:Nat} {st:St} {a:Act} {w:World} (hh:I1 C B F0 w0 st a w):I1 C B F0 w0 (settle k st) a w:=by
 unfold settle;split
 ·split
  ·exact Kp _ hh
  ·exact hh
 ·exact hh
theorem Kq {a:Act} {w:World}:∀(l:List Operand) {st:St},I1 C B F0 w0 st a w→I1 C B F0 w0 (settleM l st) a w
 |[],_,h=>h
 |x::l,st,h=>by
  refine Kq l ?_;split
  ·exact E7 h
  ·exact h
theorem Kr {a:Act} {w:World}:∀(l:List Oper) {st:St},I1 C B F0 w0 st a w→I1 C B F0 w0 (settleO C l st) a w
 |[],_,h=>h
 |o::l,st,h=>by
  refine Kr l ?_;split
  ·split
   ·split
    ·exact Po h
    ·exact h
   ·exact h
  ·exact Kq _ h
  ·exact h
def og (C:Cx) (B:Bd) (F0:Nat→Prop) (w0:World) (x:X) (s':St) (e:Exit) (a:Act) (w:World):Prop:=XM x e∧I1 C B F0 w0 s' a w
theorem aX [EffOk C] (hm:C.P.follows .mixedOrders=true) (hK:∀f as rs,K f as=some rs→qc C f as rs) {id:Nat} {ops:Array Oper} {d:Bool} {s s':St} {a:Act} {w:World} (h:Il K C ops d s=some s') (hh:I1 C B F0 w0 s a w):
 (I3 id ops d).wp C.P (og C B F0 w0 .normal s') a w:=by
 have hq:∀a w,I1 C B F0 w0 s' a w→og C B F0 w0 .normal s' .normal a w:=fun a w h=>⟨rfl,h⟩
 have a3:DK K C ops ops.toList s=some s'→(d=true→yK C ops.toList=true)→(I3 id ops d).wp C.P (og C B F0 w0 .normal s') a w:=fun h hr=>by obtain⟨rc,ht⟩:=Ss hK ops.toList 0 s s' (by simp) h;rw[Aw,←Ts]at ht;exact Xb hm (fun hd=>Kf rc (hr hd)) ht hh hq
 unfold Il at h;split at h
 ·exact a3 h (by simp)
 ·split at h
  ·rename_i hr;exact a3 h fun _=>hr
  ·split at h
   ·rename_i s1 rs a4;split at h
    ·rename_i hr;simp only[ey]at h;subst h;obtain⟨ht,_⟩:=MZ hK ops.toList 0 s s1 [] rs (by simp) rfl a4;rw[Aw,←Ts]at ht;exact Xb hm (fun _=>ZE hr) ht hh hq
    ·simp at h
   ·simp at h
theorem Zb [EffOk C] (hm:C.P.follows .mixedOrders=true) (hK:∀f as rs,K f as=some rs→qc C f as rs):∀(n:Nat) (c:Code) (s s':St) (x:X) (a:Act) (w:World),jM K C n c s=some (x,s')→I1 C B F0 w0 s a w→c.wp C.P (og C B F0 w0 x s') a w:=by
 intro n
 induction n using ed with
 |_ n ih=>
  intro c s s' x a w h hh;cases n with
  |zero=>simp[jM]at h
  |succ n=>
   cases c with
   |skip=>simp only[jM,ey,ez]at h;obtain⟨rfl,rfl⟩:=h;exact wp_skip ⟨rfl,hh⟩
   |region id ops d=>
    simp only[jM]at h;split at h
    ·rename_i s1 h1;simp only[ey,ez]at h;obtain⟨rfl,rfl⟩:=h;have h3:=aX (id:=id) hm hK h1 (Kr _ (Hl _ hh));refine I2 (fun e a w q=>?_) h3;obtain⟨q1,q2⟩:=q;exact⟨q1,xt q2 rfl rfl⟩
    ·simp at h
   |seq p q=>
    simp only[jM]at h;split at h
    ·rename_i s1 h1;refine wp_seq (I2 (fun e a' w' hp=>?_) (ih n (by omega) p s s1 .normal a w h1 hh));obtain⟨he,a3⟩:=hp;have he:e= .normal:=he;subst he;exact ih n (by omega) q s1 s' x a' w' h a3
    ·rename_i a4;refine wp_seq (I2 (fun e a' w' hp=>?_) (ih n (by omega) p s s' x a w h hh));obtain⟨he,a3⟩:=hp;cases x with
     |normal=>exact absurd h (a4 s')
     |exit i=>have he:e= .exit i:=he;subst he;exact⟨rfl,a3⟩
     |ret=>have he:e= .ret:=he;subst he;exact⟨rfl,a3⟩
   |cond cd p q=>
    simp only[jM]at h;have hb:∀b,ev s cd= .c (.bool b)→a.eval cd= .bool b:=fun b hb=>by obtain⟨F,loc,hc⟩:=hh;have he:=(qZ hc cd).1;rw[hb]at he;exact(fun(x:Value) (hx:CD w F (.bool b) x)=>(by cases hx;rfl:x= .bool b)) _ he
    split at h
    ·rename_i hc;exact wp_cond (hb _ hc) (by rw[if_pos rfl];exact ih n (by omega) p s s' x a w h hh)
    ·rename_i hc;exact wp_cond (hb _ hc) (by rw[if_neg (by simp)];exact ih n (by omega) q s s' x a w h hh)
    ·simp at h
   |block id p=>
    simp only[jM]at h;split at h
    ·rename_i i s1 h1;refine wp_block (I2 (fun e a' w' hp=>?_) (ih n (by omega) p s s1 _ a w h1 hh));obtain⟨he,a3⟩:=hp;have he:e= .exit i:=he;subst he;unfold Exit.inBlock;split at h
     ·rename_i hi;simp only[ey,ez]at h;obtain⟨rfl,rfl⟩:=h;have:=c1 hi;simp only[this,if_true];exact⟨rfl,a3⟩
     ·rename_i hi;simp only[ey,ez]at h;obtain⟨rfl,rfl⟩:=h;have:i≠id:=fun e=>by subst e;simp at hi
      simp only[this,if_false];exact⟨rfl,a3⟩
    ·rename_i a4;refine wp_block (I2 (fun e a' w' hp=>?_) (ih n (by omega) p s s' x a w h hh));obtain⟨he,a3⟩:=hp;cases x with
     |normal=>have he:e= .normal:=he;subst he;exact⟨rfl,a3⟩
     |exit i=>exact absurd h (a4 i s')
     |ret=>have he:e= .ret:=he;subst he;exact⟨rfl,a3⟩
   |exit id=>simp only[jM,ey,ez]at h;obtain⟨rfl,rfl⟩:=h;exact wp_exit ⟨rfl,hh⟩
   |ret=>simp only[jM,ey,ez]at h;obtain⟨rfl,rfl⟩:=h;exact wp_ret ⟨rfl,hh⟩
   |loop body=>
    let p:Act→World→Nat→Prop:=fun a w k=>k≤n+1∧∃s,jM K C k (.loop body) s=some (x,s')∧I1 C B F0 w0 s a w
    refine wp_loop (fun a w=>∃k,p a w k) (fun a w=>wx (p a w)) ⟨n+1,eb _,s,h,hh⟩ fun a1 w1 h1=>?_
    obtain⟨hle,s1,hr,hs⟩:=Ve h1;generalize hk:wx (p a1 w1)=k at *;cases k with
    |zero=>simp[jM]at hr
    |succ k=>
     simp only[jM]at hr;split at hr
     ·rename_i s2 hb;refine I2 (fun e a' w' hp=>?_) (ih k (by omega) body s1 s2 .normal a1 w1 hb hs);obtain⟨he,a3⟩:=hp;have he:e= .normal:=he;subst he;have a5:p a' w' k:=⟨by omega,s2,hr,a3⟩;refine⟨⟨_,a5⟩,?_⟩;have:=Vf a5;show wx (p a' w')<k+1;omega
     ·rename_i a4;refine I2 (fun e a' w' hp=>?_) (ih k (by omega) body s1 s' x a1 w1 hr hs);obtain⟨he,a3⟩:=hp;cases x with
      |normal=>exact absurd hr (a4 s')
      |exit i=>have he:e= .exit i:=he;subst he;exact⟨rfl,a3⟩
      |ret=>have he:e= .ret:=he;subst he;exact⟨rfl,a3⟩
   |_=>simp[jM]at h
theorem v3 [EffOk C] {tab:Nat→List A→Option (List A)} {lim:Nat} (hm:C.P.follows .mixedOrders=true) (htab:∀f as rs,tab f as=some rs→qc C f as rs):∀(n f:Nat) (args res:List A),XO tab C lim n f args=some res→qc C f args res:=by
 intro n
 induction n with
 |zero=>intro f args res h;simp[XO]at h
 |succ n ih=>
  intro f args res h;simp only[XO]at h;split at h
  ·rename_i rs hrs;simp only[ey]at h;subst h;exact htab _ _ _ hrs
  ·split at h
   ·simp at h
   rename_i fn hf;split at h
   ·simp at h
   rename_i c hc;have a7:∀(x:X) (s:St),(x= .normal∨x= .ret)→jM (XO tab C lim n) C lim c (vS fn.ntmps args)=some (x,s)→resD C s fn.results.toList=some res→qc C f args res:=by
    intro x s hx hr a5 w F vs hb a4 a3;refine calls_of_wp hf hc (I2 (fun e a' w' hp=>?_) (Zb hm (fun f as rs h=>ih f as rs h) lim c _ s x _ w hr (Xh hb a4 a3)));obtain⟨he,hh⟩:=hp;have a6:=Sn (fn:=fn) hh a5;rcases hx with rfl|rfl
    ·have he:e= .normal:=he;subst he;exact a6
    ·have he:e= .ret:=he;subst he;exact a6
   split at h
   ·rename_i s hr;exact a7 _ _ (.inl rfl) hr h
   ·rename_i s hr;exact a7 _ _ (.inr rfl) hr h
   ·simp at h
end
end Eng
end
section
namespace Eng
open Go Go.RowKit
end Eng
end
section
namespace Eng
open Go Go.RowKit
end Eng
end
section
namespace Eng
open Go Go.RowKit
section
variable {C:Cx} {B:Bd} {F0:Nat→Prop} {w0:World} {F:Nat→Prop} {loc:Where} {st:St} {a:Act} {w:World}
end
end Eng
end
section
namespace Eng
open Go Go.RowKit
section
variable {C:Cx} {B:Bd} {F0:Nat→Prop} {w0:World} {F:Nat→Prop} {loc:Where} {st:St} {a:Act} {w:World}
variable {dst:Option Nat} {ty:TypeId} {pos:String} {after:Array Edge} {g:Option (Nat×Bool)}
theorem zZ {f:Nat} {fn:Func} {args:Array Operand} {ts:Array TypeId} (hf:C.P.funcs[f]? =some fn) (hb:fn.body≠none) (hn:fn.name≠ "runtime.NumGoroutine")
 {R:Ending→World→Prop} (hc:Calls C.P f (args.map a.eval) w R) {next:Act→World→Prop} {Q:Exit→Act→World→Prop} (h:∀e w',R e w'→∃v,e= .returned v∧next (a.put dst v) w'):
 Oper.wp C.P ⟨dst,.call ⟨.value (.func f),args,ts⟩,ty,pos,after,g⟩ a w next Q:=by
 have a3:(execOp a.eval ⟨dst,.call ⟨.value (.func f),args,ts⟩,ty,pos,after,g⟩).run C.P w= .ok (.enter f (args.map a.eval)) w:=by simp[execOp,resolve,Act.eval,Deferred.ofValue,invoke,callFunc,hf,hn,hb]
 unfold Oper.wp;rw[a3,Oper.upon_enter];refine hc.mono fun e w' he=>?_
 obtain⟨v,rfl,hx⟩:=h e w' he;exact hx
end
end Eng
end
section
namespace Eng
open Go Go.RowKit
structure EffAt (C:Cx) (f:Nat) (e:Option Nat→List V→List Obj→R):Prop where
 rs:∀{B:Bd} {F0:Nat→Prop} {w0:World} {F:Nat→Prop} {loc:Where} {st:St} {a:Act} {w:World} {dst:Option Nat} {args:Array Operand} {ts:Array TypeId} {ty:TypeId} {pos:String} {after:Array Edge} {g:Option (Nat×Bool)},
  Conc C B F0 w0 F loc st a w→RSW C B F0 w0 st a w ⟨dst,.call ⟨.value (.func f),args,ts⟩,ty,pos,after,g⟩ (e dst (args.toList.map (ev st)) st.objs)
 ag:∀(dst:Option Nat) (vs:List V) (ob ob':List Obj),(∀k∈vY ob (vs.flatMap qn),nth .none ob k=nth .none ob' k)→(∀d,eN (C.wd f) dst d→qA ob d=qA ob' d)→e dst vs ob=e dst vs ob'
 good:∀(dst:Option Nat) (vs:List V) (ob:List Obj),(∀v∈vs,∀k∈qn v,nth .none ob k≠ .none)→(∀k,∀u∈qW (nth .none ob k),∀j∈qn u,nth .none ob j≠ .none)→tn (C.wd f) dst (vY ob (vs.flatMap qn)) ob (e dst vs ob)
theorem xV {C:Cx} (h:∀f e,C.eff f=some e→EffAt C f e):EffOk C where
 rs hf _ _ _ _ _ _ _ _ _ _ _ _ _ _ _ hc:=(h _ _ hf).rs hc
 ag hf:=(h _ _ hf).ag
 good hf:=(h _ _ hf).good
end Eng
end
section
namespace Eng
open Go Go.RowKit Go.Sort
def oh (by_ c:Int):List Int→Int
 |[]=>c
 |y::_=>J3.wrap (c+J3.wrap (J3.wrap y*by_))
def aY (x c:Int):List Int→Int
 |[]=>J4.wrap (x+c)
 |y::_=>J4.wrap (J4.wrap (x+c)+y)
def wB (by_:Int):List Int→List Int→Int→Int→List Int×Int×Int
 |[],_,c,b=>([],c,b)
 |x::us,vs,c,b=>
  let t:=oh by_ c vs
  let y:=J3.wrap (t.tmod 1000000000+b)
  match decide (J3.wrap x<y)with
  |true=>
   let r:=wB by_ us vs.tail (J3.wrap (t.tdiv 1000000000)) 1
   (J4.wrap (J3.wrap (J3.wrap (J3.wrap x+1000000000)-y))::r.1,r.2)
  |false=>
   let r:=wB by_ us vs.tail (J3.wrap (t.tdiv 1000000000)) 0
   (J4.wrap (J3.wrap (J3.wrap x-y))::r.1,r.2)
def Wz:List Int→List Int→Int→List Int
 |[],_,_=>[]
 |x::us,vs,c=>
  let t:=aY x c vs
  match decide (1000000000≤t)with
  |true=>J4.wrap (t-1000000000)::Wz us vs.tail 1
  |false=>t::Wz us vs.tail 0
theorem Ks (by_:Int):∀(us vs:List Int) (c b:Int),(wB by_ us vs c b).1.length=us.length
 |[],_,_,_=>rfl
 |x::us,vs,c,b=>by simp only[wB];split<;>simp[Ks by_ us]
theorem Kt:∀(us vs:List Int) (c:Int),(Wz us vs c).length=us.length
 |[],_,_=>rfl
 |x::us,vs,c=>by simp only[Wz];split<;>simp[Kt us]
structure SubK (P:Program) (fS fR:Nat):Prop where
 there:∀f,f=fS∨f=fR→∃fn,P.funcs[f]? =some fn∧fn.body≠none∧fn.name≠ "runtime.NumGoroutine"
 sub:∀{w:World} {g off cap bv ov cv:Nat} (us vs:List Int) (by_:Int),Holds (J8 .u32) w g off us.toArray→bv≠g→us.length≤1073741824→vs.length≤1073741824→
  (∀j (h:j<vs.length),w.cell? ⟨bv,ov+j,none⟩=some (.int .u32 vs[j]))→
  Calls P fS #[.slice (some ⟨g,off,none⟩) us.length cap,.slice (some ⟨bv,ov,none⟩) vs.length cv,.int .u64 by_] w fun e w'=>
   e= .returned (.bool (decide (0<(wB by_ us vs 0 0).2.2)||decide (0<(wB by_ us vs 0 0).2.1)))∧w'=putRow (J8 .u32) w g off (wB by_ us vs 0 0).1.toArray
 res:∀{w:World} {g off cap bv ov cv:Nat} (us vs:List Int),Holds (J8 .u32) w g off us.toArray→bv≠g→us.length≤1073741824→vs.length≤1073741824→
  (∀j (h:j<vs.length),w.cell? ⟨bv,ov+j,none⟩=some (.int .u32 vs[j]))→
  Calls P fR #[.slice (some ⟨g,off,none⟩) us.length cap,.slice (some ⟨bv,ov,none⟩) vs.length cv] w fun e w'=>
   e= .returned (.tuple #[])∧w'=putRow (J8 .u32) w g off (Wz us vs 0).toArray
def intB:List D→Bool
 |[.int .u32 _]=>true
 |_=>false
def Q2:List (List D)→Bool
 |[]=>true
 |e::r=>intB e&&Q2 r
def tz:List D→Int
 |[.int _ n]=>n
 |_=>0
def xp (es:List (List D)):List Int:=es.map tz
def xM (l:List Int):List (List D):=l.map fun n=>[.int .u32 n]
theorem Yw:∀{es:List (List D)},Q2 es=true→es=xM (xp es)
 |[],_=>rfl
 |e::r,h=>by
  simp only[Q2,Dd]at h;have ih:=Yw h.2;have he:=h.1;unfold intB at he;split at he
  ·simp only[xM,xp,Ls,tz]at ih ⊢;rw[←ih]
  ·simp at he
theorem WD (l:List Int):(xM l).flatten=l.map (D.int .u32):=by
 induction l with
 |nil=>rfl
 |cons c l ih=>simp only[xM,Ls,cc]at ih ⊢;rw[ih];rfl
theorem xN (l:List Int):(xM l).length=l.length:=by simp[xM]
theorem Vh (l:List Int):∀e∈xM l,e.length=1:=by
 intro e he;simp only[xM,M3]at he;obtain⟨c,_,rfl⟩:=he;rfl
def v4 (c:Prop) [Decidable c] (res:List Int→V) (new:List Int→List Int) (x:V) (ob:List Obj):R:=
 match x with
 | .sub k off len=>match nth .none ob k with
  | .arr s es false=>match cH s 1 with
   |true=> .cond (c∧0<len∧off+len≤es.length∧Q2 ((es.drop off).take len)=true) (res (xp ((es.drop off).take len))) [(k,.arr 1 (es.take off++xM (new (xp ((es.drop off).take len)))++es.drop (off+len)) false)]
   |false=> .fail
  |_=> .fail
 |_=> .fail
def Hm (_:Option Nat) (vs:List V) (ob:List Obj):R:=
 match vs with
 |[x,.c (.sl ys),.c (.int .u64 n)]=>v4 (ys≠[]∧Q2 ys=true∧ys.length≤1073741824)
  (fun us=> .c (.bool (decide (0<(wB n us (xp ys) 0 0).2.2)||decide (0<(wB n us (xp ys) 0 0).2.1)))) (fun us=>(wB n us (xp ys) 0 0).1) x ob
 |_=> .fail
def Hn (_:Option Nat) (vs:List V) (ob:List Obj):R:=
 match vs with
 |[x,.c (.sl ys)]=>v4 (ys≠[]∧Q2 ys=true∧ys.length≤1073741824) (fun _=> .tp []) (fun us=>Wz us (xp ys) 0) x ob
 |_=> .fail
theorem Vi {c:Prop} [Decidable c] {res:List Int→V} {new:List Int→List Int} {x:V} {ob ob':List Obj} (h:∀k∈vY ob (qn x),nth .none ob k=nth .none ob' k):v4 c res new x ob=v4 c res new x ob':=by
 cases x with
 |sub k off len=>simp only[v4];rw[h k (by simp[qn,qE])]
 |_=>rfl
theorem ZH {wd:Bool} {dst:Option Nat} {c:Prop} [Decidable c] {res:List Int→V} {new:List Int→List Int} (hres:∀us,qn (res us)=[]) {x:V} {ob:List Obj}:tn wd dst (vY ob (qn x)) ob (v4 c res new x ob):=by
 unfold v4;split
 ·rename_i k off len;split
  ·rename_i s es hk;split
   ·refine⟨fun p hp=>?_,fun j hj=>by rw[hres]at hj;simp at hj⟩;simp only[V1]at hp;subst hp;exact⟨.inr ⟨by simp[qn,qE],by rw[hk];simp⟩,by simp,fun u hu=>by simp[qW]at hu⟩
   ·trivial
  ·trivial
 ·trivial
section
variable {C:Cx} {B:Bd} {F0:Nat→Prop} {w0:World} {F:Nat→Prop} {loc:Where} {st:St} {a:Act} {w:World}
variable {dst:Option Nat} {ty:TypeId} {pos:String} {after:Array Edge} {g:Option (Nat×Bool)}
theorem Su {k off len b c:Nat} {es:List (List D)} {us us':List Int} {v:V} {x:Value} (h:Conc C B F0 w0 F loc st a w) (hk:nth .none st.objs k= .arr 1 es false) (hl:loc k=some (b,c))
 (hle:off+len≤es.length) (hus:(es.drop off).take len=xM us) (hlen:us'.length=us.length)
 (hv:∀(loc:Where) (objs:List Obj) (w:World) (F:Nat→Prop),CV loc objs w F v x∧Ref objs v):
 I1 C B F0 w0 (st.put dst v [(k,.arr 1 (es.take off++xM us'++es.drop (off+len)) false)]) (a.put dst x) (putRow (J8 .u32) w b off us'.toArray):=by
 have hul:us.length=len:=by have:=congrArg cr hus;rw[xN,W1,W2]at this;omega
 have ad:=h.objs k;rw[hk]at ad;obtain⟨a8,_,a4,ad⟩:=ad;rcases ad with⟨h4,_⟩|⟨b',c',cs,t,h4,h5,h6,h7,h8,h9,h10,h11⟩
 ·rw[h4]at hl;simp at hl
 rw[h4]at hl;simp only[ey,ez]at hl;obtain⟨rfl,rfl⟩:=hl;have hfk:=h.fresh _ _ _ h4;have hkl:k<st.objs.length:=xn (by rw[hk];simp);generalize hes':es.take off++xM us'++es.drop (off+len)=es' at *;have ap:es'.length=es.length:=by rw[←hes'];simp only[Lv,W1,W2,xN];omega
 have a6:∀e∈es',e.length=1:=by
  rw[←hes'];intro e he;simp only[Lr]at he;rcases he with(he|he)|he
  ·exact a4 e (List.mem_of_mem_take he)
  ·exact Vh us' e he
  ·exact a4 e (List.mem_of_mem_drop he)
 have hn:∀j,nth .none (upd st.objs k (.arr 1 es' false)) j=if j=k then .arr 1 es' false else nth .none st.objs j:=by
  intro j;by_cases h1:j=k
  ·subst h1;rw[qg _ _ _ hkl,if_pos rfl]
  ·rw[qe _ _ _ (er h1),if_neg h1]
 have a3:∀β,β≠b'→(putRow (J8 .u32) w b' off us'.toArray).heap[β]? =w.heap[β]? :=by intro β hβ;show(w.heap.modify b' _)[β]? =_;rw[Bx,if_neg (er hβ)]
 have ag:(putRow (J8 .u32) w b' off us'.toArray).heap[b']? =some (.cells (J7 (J8 .u32) off us'.toArray cs) t (0,0)):=by show(w.heap.modify b' _)[b']? =_;rw[Bx,if_pos rfl,h6];rfl
 have an:∀β,F β→(putRow (J8 .u32) w b' off us'.toArray).heap[β]? =w.heap[β]? :=fun β hβ=>a3 β fun e=>h5 (e▸hβ)
 have a7:Le st.objs (upd st.objs k (.arr 1 es' false)) loc loc:=by
  refine⟨rfl,fun _ _=>rfl,fun j hj=>?_,fun j o' hj hc hbx=>?_,fun j s' es2 fz' hj hc=>?_⟩
  ·rw[hn];split
   ·simp
   ·exact hj
  ·rw[hn]at hc;split at hc
   ·rw[←hc]at hbx;simp[zx]at hbx
   ·exact⟨by rw[hc];exact hbx,rfl⟩
  ·rw[hn]at hc;split at hc
   ·rename_i e;subst e;simp only[Obj.arr.injEq]at hc;obtain⟨rfl,rfl,rfl⟩:=hc;exact⟨⟨es,false,hk,ap⟩,rfl⟩
   ·exact⟨⟨_,_,hc,rfl⟩,rfl⟩
 refine⟨F,loc,h.step (up:=[(k,.arr 1 es' false)]) (fun _ h=>h) an a7 (h.below.trans ⟨rfl,rfl,rfl,by rw[size_putRow];exact eb _,fun j hj hjX=>a3 j (fun e=>by
  rcases hfk.1 with h1|h1
  ·omega
  ·exact hjX (e▸h1))⟩) (by rw[size_putRow];exact h.hB) (fun j=>?_) h.inj (fun j β c hβ=>by rw[size_putRow];exact h.fresh j β c hβ) (fun β hβ=>by rw[size_putRow];exact h.bound β hβ) h.fsub (hv _ _ _ _).1 (hv loc _ w F).2⟩
 show CO loc (upd st.objs k (.arr 1 es' false)) _ F j (nth .none (upd st.objs k (.arr 1 es' false)) j);rw[hn];by_cases h1:j=k
 ·subst h1;rw[if_pos rfl];refine⟨by rw[ap];exact a8,by omega,a6,.inr ⟨b',c',_,t,h4,h5,ag,?_,by omega,fun i hi=>?_,h10,h11⟩⟩
  ·simp only[J7,Array.size_mapIdx];exact h7
  ·rw[cL]at hi;obtain⟨u,hu,hcd⟩:=h9 i (by omega);have a5:=hcd.mono (F':=F) (fun _ h=>h) an;have al:(J7 (J8 .u32) off us'.toArray cs)[i]? =some (if off≤i∧i<off+us'.length then J8 .u32 (us'.toArray[i-off]!)else u):=by simp only[J7,Array.getElem?_mapIdx,hu,Option.map_some,ca]
   refine⟨_,al,?_⟩;have b2:∀(l:List (List D)),(∀e∈l,e.length=1)→∀i,i<l.length→nth .undef l.flatten i=nth .undef (nth [] l i) 0:=fun l hl i hi=>by
    have:=zd hl i 0 hi (by omega)
    simpa using this
   rw[b2 es' a6 i hi];rw[b2 es a4 i (by omega)]at a5;by_cases hr:off≤i∧i<off+us'.length
   ·rw[if_pos hr];have b1:i-off<us'.length:=by omega
    have:nth [] es' i=[D.int .u32 (us'[i-off])]:=by
     rw[←hes',qI,Lm,No (by simp;omega),T1 (by simp[xN];omega)];have e1:i-(es.take off).length=i-off:=by simp;omega
     rw[e1];simp[xM,b1]
    rw[this];have:us'.toArray[i-off]! =us'[i-off]:=by simp[b1]
    rw[this];exact .int _ _
   ·rw[if_neg hr];have:nth [] es' i=nth [] es i:=by
     rw[←hes'];simp only[qI];by_cases h2:i<off
     ·rw[Lm,T1 (by simp;omega),bm h2]
     ·rw[No (by simp[xN];omega),bx];congr 2;simp[xN];omega
    rw[this];exact a5
 ·rw[if_neg h1];refine CO.le (fun _ h=>h) an a7 rfl rfl (fun β c hβ=>⟨?_,fun h=>h⟩) (h.objs j);refine a3 β fun e=>?_
  subst e;exact h1 (h.inj _ _ _ _ _ hβ h4)
theorem Vj {f:Nat} {fn:Func} {x:Operand} {zs:List Operand} {c:Prop} [Decidable c] {res:List Int→V} {new:List Int→List Int} {args:Array Operand} {ts:Array TypeId}
 (h:Conc C B F0 w0 F loc st a w) (hf:C.P.funcs[f]? =some fn) (hb:fn.body≠none) (hn:fn.name≠ "runtime.NumGoroutine") (hargs:args.toList=x::zs)
 (hc:c→∀{g off cap:Nat} (us:List Int),Holds (J8 .u32) w g off us.toArray→¬F g→us.length≤1073741824→(new us).length=us.length∧∃rv,(∀(loc:Where) (objs:List Obj) (w:World) (F:Nat→Prop),CV loc objs w F (res us) rv∧Ref objs (res us))∧
  Calls C.P f (.slice (some ⟨g,off,none⟩) us.length cap::zs.map a.eval).toArray w fun e w'=>e= .returned rv∧w'=putRow (J8 .u32) w g off (new us).toArray):
 RSW C B F0 w0 st a w ⟨dst,.call ⟨.value (.func f),args,ts⟩,ty,pos,after,g⟩ (v4 c res new (ev st x) st.objs):=by
 have hx:=(qZ h x).1;unfold v4;split
 ·rename_i k off ag hxv;rw[hxv]at hx;split
  ·rename_i s es hk;split
   ·rename_i hs;have hs:s=1:=c1 hs;subst hs;rintro⟨hcc,hl0,hle,a6⟩;have a6:=Yw a6;generalize hue:xp ((es.drop off).take ag)=us at *;obtain⟨b,cp,hl,hle2,hxe⟩:=(hx 1 es false hk).resolve_right (by rintro(⟨_,_,_,_,h4,_⟩|⟨_,_,_,h4,_⟩)<;>omega);have hul:us.length=ag:=by have:=congrArg cr a6;rw[xN,W1,W2]at this;omega
    have a7:=h.objs k;rw[hk]at a7;obtain⟨a5,_,ad,a7⟩:=a7;rcases a7 with⟨h4,_⟩|⟨b',c',cs,t,h4,h5,h6,h7,h8,h9,h10,h11⟩
    ·rw[h4]at hl;simp at hl
    rw[h4]at hl;simp only[ey,ez]at hl;obtain⟨rfl,rfl⟩:=hl;have a4:Holds (J8 .u32) w b' off us.toArray:=by
     intro j hj;have hj:j<us.length:=by simpa using hj
     obtain⟨u,hu,al⟩:=h9 (off+j) (by omega);have hel:nth [] es (off+j)=[D.int .u32 us[j]]:=by
      have:nth [] ((es.drop off).take ag) j=nth [] es (off+j):=by simp only[qI];rw[bm (by omega),bx]
      rw[←this,a6,qI];simp[xM,hj]
     have an:=zd ad (off+j) 0 (by omega) (by omega);rw[cL,c2,hel]at an;rw[an]at al;have hu':u= .int .u32 us[j]:=by cases(al:CD _ _ (.int .u32 us[j]) _);rfl
     subst hu';refine⟨?_,?_⟩
     ·rw[Lib.cell_of_heap h6,hu];simp[hj]
     ·exact Lib.frozen_of_heap h6 _
    have hr:us.length≤1073741824:=by have:es.length≤1073741824:=a5.one;omega
    obtain⟨a8,rv,hrv,a3⟩:=hc hcc (cap:=c'-off) us a4 h5 hr;intro next Q hnx
    have hae:(.slice (some ⟨b',off,none⟩) us.length (c'-off)::zs.map a.eval).toArray=args.map a.eval:=by apply Array.ext';rw[Array.toList_map,hargs,Ls,hxe,hul,cL]
    rw[hae]at a3;refine zZ hf hb hn a3 fun e w' he=>?_
    obtain⟨rfl,rfl⟩:=he;exact⟨_,rfl,hnx _ _ (Su h hk h4 hle a6 a8 hrv)⟩
   ·trivial
  ·trivial
 ·trivial
theorem Na {ys:List (List D)} {x:Value} (hx:CD w F (.sl ys) x) (hne:ys≠[]) (hl:Q2 ys=true):∃b o c,x= .slice (some ⟨b,o,none⟩) (xp ys).length c∧F b∧∀j (hj:j<(xp ys).length),w.cell? ⟨b,o+j,none⟩=some (.int .u32 (xp ys)[j]):=by
 have hys:=Yw hl;generalize xp ys=l at *;obtain⟨ad,c,a5,hlc,a3⟩:=hx.slice_inv;rcases a3 with h0|⟨b,o,a4,rfl,a3⟩
 ·exact absurd h0 hne
 ·subst hys;have hs1:a4=1:=by obtain⟨e,r,he⟩:=List.exists_cons_of_ne_nil hne;have h1:=a3.hs e (by rw[he];simp);have h2:=Vh l e (by rw[he];simp);omega
  subst hs1;rw[xN]at a5;refine⟨b,o,c,a5,a3.hF,fun j hj=>?_⟩;obtain⟨v,h1,h2⟩:=a3.hc j (by rw[xN];omega);rw[WD,qo _ (by simpa using hj),List.getElem_map]at h2;have:v= .int .u32 l[j]:=by cases(h2:CD _ _ (.int .u32 l[j]) _);rfl
  rw[h1,this]
theorem ZI (ys:List (List D)):(xp ys).length=ys.length:=by simp[xp]
theorem Ho {fS fR:Nat} (hk:SubK C.P fS fR):EffAt C fS Hm:=by
 refine⟨fun{B F0 w0 F loc st a w dst args ts ty pos after g} h=>?_,fun dst vs ob ob' h hd=>?_,fun dst vs ob hv hb=>?_⟩
 ·unfold Hm;split
  ·rename_i v ys n a3;obtain⟨x,y2,z,hax,hx,hy,hz⟩:∃x y2 z,args.toList=[x,y2,z]∧ev st x=v∧ev st y2= .c (.sl ys)∧ev st z= .c (.int .u64 n):=by
    match hl:args.toList with
    |[]=>rw[hl]at a3;simp at a3
    |[x]=>rw[hl]at a3;simp at a3
    |[x,y]=>rw[hl]at a3;simp at a3
    |[x,y,z]=>rw[hl]at a3;simp only[Ls,W0,List.cons.injEq]at a3;exact⟨x,y,z,rfl,a3.1,a3.2.1,a3.2.2.1⟩
    |_::_::_::_::_=>rw[hl]at a3;simp at a3
   obtain⟨fn,hf,hb,hn⟩:=hk.there fS (.inl rfl);have ad:=(qZ h y2).1;rw[hy]at ad;have a7:=(qZ h z).1;rw[hz]at a7;have a7:=vo a7;rw[←hx];refine Vj (zs:=[y2,z]) h hf hb hn hax ?_;rintro⟨hne,a5,a6⟩ g off cap us hH hnF a8;obtain⟨b,o,c,hye,hF,a4⟩:=Na ad hne a5;refine⟨Ks _ _ _ _ _,_,fun loc objs w F=>⟨CD.bool _,trivial⟩,?_⟩;have:=hk.sub (cap:=cap) (cv:=c) us (xp ys) n hH (fun e=>hnF (e▸hF)) a8 (by rw[ZI];exact a6) a4;rw[Ls,Ls,W0,hye,a7];exact this
  ·trivial
 ·unfold Hm;split
  ·exact Vi fun k hk=>h k (by simpa [qn]using hk)
  ·rfl
 ·unfold Hm;split
  ·rename_i x ys n;have:=fun wd=>ZH (wd:=wd) (dst:=dst) (ob:=ob) (x:=x) (c:=ys≠[]∧Q2 ys=true∧ys.length≤1073741824) (res:=fun us=> .c (.bool (decide (0<(wB n us (xp ys) 0 0).2.2)||decide (0<(wB n us (xp ys) 0 0).2.1)))) (new:=fun us=>(wB n us (xp ys) 0 0).1) (fun _=>rfl)
   simpa [qn]using this _
  ·trivial
theorem Hp {fS fR:Nat} (hk:SubK C.P fS fR):EffAt C fR Hn:=by
 refine⟨fun{B F0 w0 F loc st a w dst args ts ty pos after g} h=>?_,fun dst vs ob ob' h hd=>?_,fun dst vs ob hv hb=>?_⟩
 ·unfold Hn;split
  ·rename_i v ys a3;obtain⟨x,y2,hax,hx,hy⟩:∃x y2,args.toList=[x,y2]∧ev st x=v∧ev st y2= .c (.sl ys):=by
    match hl:args.toList with
    |[]=>rw[hl]at a3;simp at a3
    |[x]=>rw[hl]at a3;simp at a3
    |[x,y]=>rw[hl]at a3;simp only[Ls,W0,List.cons.injEq]at a3;exact⟨x,y,rfl,a3.1,a3.2.1⟩
    |_::_::_::_=>rw[hl]at a3;simp at a3
   obtain⟨fn,hf,hb,hn⟩:=hk.there fR (.inr rfl);have a8:=(qZ h y2).1;rw[hy]at a8;rw[←hx];refine Vj (zs:=[y2]) h hf hb hn hax ?_;rintro⟨hne,a5,a6⟩ g off cap us hH hnF a7;obtain⟨b,o,c,hye,hF,a4⟩:=Na a8 hne a5;refine⟨Kt _ _ _,_,fun loc objs w F=>⟨⟨#[],rfl,trivial⟩,trivial⟩,?_⟩;have:=hk.res (cap:=cap) (cv:=c) us (xp ys) hH (fun e=>hnF (e▸hF)) a7 (by rw[ZI];exact a6) a4;rw[Ls,W0,hye];exact this
  ·trivial
 ·unfold Hn;split
  ·exact Vi fun k hk=>h k (by simpa [qn]using hk)
  ·rfl
 ·unfold Hn;split
  ·rename_i x ys;have:=fun wd=>ZH (wd:=wd) (dst:=dst) (ob:=ob) (x:=x) (c:=ys≠[]∧Q2 ys=true∧ys.length≤1073741824) (res:=fun _=> .tp []) (new:=fun us=>Wz us (xp ys) 0) (fun _=>rfl)
   simpa [qn]using this _
  ·trivial
end
end Eng
end
