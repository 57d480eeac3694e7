/- The engine, part 21: code, loops, functions. -/
import Derived.Test.YtlgnobmngljmaaaGreatDoorEngC
import Derived.Deep.AppendSrc
import Derived.Laws.Externs
import Derived.Lib.Bytealg
import Derived.Sort.Row
import Derived.Lib.Builder
section
namespace Eng
open Go Go.RowKit
variable [Env]
omit [Env] in
theorem list_ext {α:Type} (d:α) {l l':List α} (hl:l.length=l'.length) (h:∀i,nth d l i=nth d l' i):l=l':=by
 apply List.ext_getElem hl;intro i h1 h2;have:=h i
 rwa [nth_of_lt _ h1,nth_of_lt _ h2]at this
structure Away (locs:List Loc) (m s1:St):Prop where
 lt:m.tmps.length=s1.tmps.length
 lo:m.objs.length=s1.objs.length
 tmps:∀t,t∉slotsOf locs→nth .any m.tmps t=nth .any s1.tmps t
 objs:∀k,k∉keysOf locs→nth .none m.objs k=nth .none s1.objs k
omit [Env] in
theorem lt_of_nth {α:Type} {d:α} {l:List α} {i:Nat} (h:nth d l i≠d):i<l.length:=by
 rcases Nat.lt_or_ge i l.length with h'|h'
 ·exact h'
 ·exact absurd (nth_big _ h') h
omit [Env] in
theorem nth_app {α:Type} (d:α) (pre r:List α) (i:Nat):nth d (pre++r) (pre.length+i)=nth d r i:=by
 rw[nth_eq,nth_eq,List.getElem?_append_right (by omega),Nat.add_sub_cancel_left]
omit [Env] in
theorem typedCells_read:∀{zs:List Value} {cells:List V} {pre r:List D},typedCells zs cells=true→putCells zs pre.length (pre++(cells.map toC++r))=cells
 |[],[],_,_,_=>rfl
 |z::zs,v::vs,pre,r,h=>by
  simp only[typedCells,Bool.and_eq_true]at h;have hv:V.c (toC v)=v:=by cases v<;>simp_all[isC,toC]
  simp only[putCells,List.map_cons,List.cons_append];have h1:=nth_app D.undef pre (toC v::(vs.map toC++r)) 0;rw[Nat.add_zero]at h1;rw[h1];have h2:=typedCells_read (pre:=pre++[toC v]) (r:=r) h.2;simp only[List.length_append,List.length_singleton,List.append_assoc,List.singleton_append]at h2;rw[h2];simp only[nth,hv]
 |[],_::_,_,_,h=>by simp[typedCells]at h
 |_::_,[],_,_,h=>by simp[typedCells]at h
omit [Env] in
theorem typedCells_len:∀{zs:List Value} {cells:List V},typedCells zs cells=true→cells.length=zs.length
 |[],[],_=>rfl
 |z::zs,v::vs,h=>by simp only[typedCells,Bool.and_eq_true]at h;simp[typedCells_len h.2]
 |[],_::_,h=>by simp[typedCells]at h
 |_::_,[],h=>by simp[typedCells]at h
omit [Env] in
theorem mixR_len {ob:List Obj}:∀{ms:List MC} {cells:List V},mixOk ms cells ob=true→(mixR ms cells ob).length=ms.length
 |[],[],_=>rfl
 | .dat z::ms,v::vs,h=>by simp only[mixOk,Bool.and_eq_true]at h;simp[mixR,mixR_len h.2]
 | .own key size::ms,v::vs,h=>by simp only[mixOk,Bool.and_eq_true]at h;simp[mixR,mixR_len h.2]
 |[],_::_,h=>by simp[mixOk]at h
 | .dat _::_,[],h=>by simp[mixOk]at h
 | .own .. ::_,[],h=>by simp[mixOk]at h
omit [Env] in
theorem mix_eq {ob1:List Obj} {R:List D}:∀{ms:List MC} {cells:List V} {pre:List D},mixOk ms cells ob1=true→mixC ms pre.length (pre++(mixR ms cells ob1++R))=cells∧
 ∀ob:List Obj,ob.length=ob1.length→(mixO ms pre.length (pre++(mixR ms cells ob1++R)) ob).length=ob1.length∧∀j,nth .none (mixO ms pre.length (pre++(mixR ms cells ob1++R)) ob) j=if j∈mixKeys ms then nth .none ob1 j else nth .none ob j
 |[],[],pre,_=>⟨rfl,fun ob ho=>⟨ho,fun j=>by simp[mixKeys,mixO]⟩⟩
 | .dat z::ms,v::vs,pre,h=>by
  simp only[mixOk,Bool.and_eq_true]at h;have hv:V.c (toC v)=v:=by cases v<;>simp_all[isC,toC]
  have h1:=nth_app D.undef pre (toC v::(mixR ms vs ob1++R)) 0;rw[Nat.add_zero]at h1;obtain⟨h2,h3⟩:=mix_eq (R:=R) (pre:=pre++[toC v]) h.2;simp only[List.length_append,List.length_singleton,List.append_assoc,List.singleton_append]at h2 h3;refine⟨?_,?_⟩
  ·simp only[mixC,mixR,List.cons_append];rw[h1,h2];simp only[nth,hv]
  ·simp only[mixO,mixR,List.cons_append,mixKeys];exact h3
 | .own key size::ms,v::vs,pre,h=>by
  simp only[mixOk,Bool.and_eq_true]at h;obtain⟨ho,h⟩:=h;unfold ownMk at ho;split at ho
  ·rename_i key';split at ho
   ·rename_i sz es hk;simp only[Bool.and_eq_true]at ho;obtain rfl:=Nat.eq_of_beq_eq_true ho.1;obtain rfl:=Nat.eq_of_beq_eq_true ho.2;have hr:ownRd key' ob1= .sl es:=by simp only[ownRd,hk]
    have h1:=nth_app D.undef pre (D.sl es::(mixR ms vs ob1++R)) 0;rw[Nat.add_zero]at h1;obtain⟨h2,h3⟩:=mix_eq (R:=R) (pre:=pre++[D.sl es]) h;simp only[List.length_append,List.length_singleton,List.append_assoc,List.singleton_append]at h2 h3;have hklt:key'<ob1.length:=lt_of_nth (by rw[hk];simp);refine⟨?_,?_⟩
    ·simp only[mixC,mixR,List.cons_append,hr];rw[h2]
    ·intro ob hob;simp only[mixO,mixR,List.cons_append,hr,h1,nth,toL];obtain⟨h4,h5⟩:=h3 (upd ob key' (.arr sz es false)) (by rw[length_upd];exact hob);refine⟨h4,fun j=>?_⟩;rw[h5 j];simp only[mixKeys,List.mem_cons];by_cases hj:j∈mixKeys ms
     ·simp[hj]
     ·simp only[hj,if_false,or_false];by_cases hjk:j=key'
      ·subst hjk;rw[if_pos rfl,nth_upd_same _ _ _ (by rw[hob];exact hklt),hk]
      ·rw[if_neg hjk,nth_upd_ne _ _ _ (Ne.symm hjk)]
   ·simp at ho
  ·simp at ho
 |[],_::_,_,h=>by simp[mixOk]at h
 | .dat _::_,[],_,h=>by simp[mixOk]at h
 | .own .. ::_,[],_,h=>by simp[mixOk]at h
omit [Env] in
theorem fill_eq:∀{locs:List Loc} {pre:List D} {m s1:St},normOk locs s1=true→Away locs m s1→(fill locs pre.length (pre++readL locs s1) m).tmps=s1.tmps∧(fill locs pre.length (pre++readL locs s1) m).objs=s1.objs
 |[],pre,m,s1,_,h=>⟨list_ext .any h.lt fun i=>h.tmps i (by simp[slotsOf]),list_ext .none h.lo fun i=>h.objs i (by simp[keysOf])⟩
 | .slot s z::r,pre,m,s1,hn,h=>by
  simp only[normOk,Bool.and_eq_true]at hn;have hv:V.c (toC (nth .any s1.tmps s))=nth .any s1.tmps s:=by revert hn;cases nth .any s1.tmps s<;>simp[isC,toC]
  have hslt:s<s1.tmps.length:=lt_of_nth (by intro e;rw[e]at hn;simp[isC]at hn);simp only[fill,readL];have h1:=nth_app D.undef pre (toC (nth .any s1.tmps s)::readL r s1) 0;rw[Nat.add_zero]at h1;rw[h1];have h2:=fill_eq (locs:=r) (pre:=pre++[toC (nth .any s1.tmps s)]) (m:=⟨upd m.tmps s (nth .any s1.tmps s),m.objs,m.dirty⟩) (s1:=s1) hn.2 ⟨by simp only[length_upd];exact h.lt,h.lo,fun t ht=>by
   by_cases hst:s=t
   ·subst hst;rw[nth_upd_same _ _ _ (by rw[h.lt];exact hslt)]
   ·show nth .any (upd m.tmps s _) t=_;rw[nth_upd_ne _ _ _ hst];exact h.tmps t (by simp only[slotsOf,List.mem_cons,not_or];exact⟨Ne.symm hst,ht⟩),fun k hk=>h.objs k hk⟩
  simp only[List.length_append,List.length_singleton,List.append_assoc,List.singleton_append]at h2;simp only[nth,hv];exact h2
 | .box k zs::r,pre,m,s1,hn,h=>by
  simp only[normOk]at hn;split at hn
  ·rename_i cells hk;simp only[Bool.and_eq_true]at hn;have hklt:k<s1.objs.length:=lt_of_nth (by rw[hk];simp);simp only[fill,readL,hk];rw[typedCells_read hn.1];have h2:=fill_eq (locs:=r) (pre:=pre++cells.map toC) (m:=⟨m.tmps,upd m.objs k (.box cells),m.dirty⟩) (s1:=s1) hn.2 ⟨h.lt,by simp only[length_upd];exact h.lo,fun t ht=>h.tmps t ht,fun j hj=>by
    by_cases hkj:k=j
    ·subst hkj;rw[nth_upd_same _ _ _ (by rw[h.lo];exact hklt),hk]
    ·show nth .none (upd m.objs k _) j=_;rw[nth_upd_ne _ _ _ hkj];exact h.objs j (by simp only[keysOf,List.mem_cons,not_or];exact⟨Ne.symm hkj,hj⟩)⟩
   simp only[List.length_append,List.length_map,List.append_assoc,typedCells_len hn.1]at h2;exact h2
  ·simp at hn
 | .own s key size::r,pre,m,s1,hn,h=>by
  simp only[normOk]at hn;split at hn
  ·rename_i k hv;split at hn
   ·rename_i sz es hk;simp only[Bool.and_eq_true]at hn;obtain rfl:=Nat.eq_of_beq_eq_true hn.1.1;obtain rfl:=Nat.eq_of_beq_eq_true hn.1.2;have hklt:k<s1.objs.length:=lt_of_nth (by rw[hk];simp);have hslt:s<s1.tmps.length:=lt_of_nth (by rw[hv];simp);simp only[fill,readL,hk];have h1:=nth_app D.undef pre (D.sl es::readL r s1) 0;rw[Nat.add_zero]at h1;rw[h1];have h2:=fill_eq (locs:=r) (pre:=pre++[D.sl es]) (m:=⟨upd m.tmps s (.arr k),upd m.objs k (.arr sz es false),m.dirty⟩) (s1:=s1) hn.2 ⟨by simp only[length_upd];exact h.lt,by simp only[length_upd];exact h.lo,fun t ht=>by
     by_cases hst:s=t
     ·subst hst;rw[nth_upd_same _ _ _ (by rw[h.lt];exact hslt),hv]
     ·show nth .any (upd m.tmps s _) t=_;rw[nth_upd_ne _ _ _ hst];exact h.tmps t (by simp only[slotsOf,List.mem_cons,not_or];exact⟨Ne.symm hst,ht⟩),fun j hj=>by
     by_cases hkj:k=j
     ·subst hkj;rw[nth_upd_same _ _ _ (by rw[h.lo];exact hklt),hk]
     ·show nth .none (upd m.objs k _) j=_;rw[nth_upd_ne _ _ _ hkj];exact h.objs j (by simp only[keysOf,List.mem_cons,not_or];exact⟨Ne.symm hkj,hj⟩)⟩
    simp only[List.length_append,List.length_singleton,List.append_assoc,List.singleton_append]at h2;simp only[nth,toL];exact h2
   ·simp at hn
  ·simp at hn
 | .bld k T key::r,pre,m,s1,hn,h=>by
  simp only[normOk]at hn;split at hn
  ·rename_i T' key' hk;split at hn
   ·rename_i sz es hj;simp only[Bool.and_eq_true]at hn;obtain rfl:=Nat.eq_of_beq_eq_true hn.1.1.1;obtain rfl:=Nat.eq_of_beq_eq_true hn.1.1.2;obtain rfl:=Nat.eq_of_beq_eq_true hn.1.2;have hklt:k<s1.objs.length:=lt_of_nth (by rw[hk];simp);have hjlt:key'<s1.objs.length:=lt_of_nth (by rw[hj];simp);simp only[fill,readL,hj];have h1:=nth_app D.undef pre (D.sl es::readL r s1) 0;rw[Nat.add_zero]at h1;rw[h1];have h2:=fill_eq (locs:=r) (pre:=pre++[D.sl es]) (m:=⟨m.tmps,upd (upd m.objs key' (.arr 1 es false)) k (.bld T' (.arr key')),m.dirty⟩) (s1:=s1) hn.2 ⟨h.lt,by simp only[length_upd];exact h.lo,fun t ht=>h.tmps t ht,fun i hi=>by
     by_cases hki:k=i
     ·subst hki;rw[nth_upd_same _ _ _ (by rw[length_upd,h.lo];exact hklt),hk]
     ·show nth .none (upd (upd m.objs key' _) k _) i=_;rw[nth_upd_ne _ _ _ hki];by_cases hji:key'=i
      ·subst hji;rw[nth_upd_same _ _ _ (by rw[h.lo];exact hjlt),hj]
      ·rw[nth_upd_ne _ _ _ hji];exact h.objs i (by simp only[keysOf,List.mem_cons,not_or];exact⟨Ne.symm hki,Ne.symm hji,hi⟩)⟩
    simp only[List.length_append,List.length_singleton,List.append_assoc,List.singleton_append]at h2;simp only[nth,toL];exact h2
   ·simp at hn
  ·simp at hn
 | .mix k ms::r,pre,m,s1,hn,h=>by
  simp only[normOk]at hn;split at hn
  ·rename_i cells hk;simp only[Bool.and_eq_true]at hn;have hklt:k<s1.objs.length:=lt_of_nth (by rw[hk];simp);obtain⟨g1,g2⟩:=mix_eq (R:=readL r s1) (pre:=pre) hn.1;obtain⟨g3,g4⟩:=g2 m.objs h.lo;simp only[fill,readL,hk];rw[g1];have h2:=fill_eq (locs:=r) (pre:=pre++mixR ms cells s1.objs) (m:=⟨m.tmps,upd (mixO ms pre.length (pre++(mixR ms cells s1.objs++readL r s1)) m.objs) k (.box cells),m.dirty⟩) (s1:=s1) hn.2 ⟨h.lt,by simp only[length_upd];exact g3,fun t ht=>h.tmps t ht,fun i hi=>by
    by_cases hki:k=i
    ·subst hki;rw[nth_upd_same _ _ _ (by rw[g3];exact hklt),hk]
    ·show nth Obj.none (upd _ k _) i=_;rw[nth_upd_ne _ _ _ hki,g4 i];by_cases hm:i∈mixKeys ms
     ·rw[if_pos hm]
     ·rw[if_neg hm];exact h.objs i (by simp only[keysOf,List.mem_cons,List.mem_append,not_or];exact⟨Ne.symm hki,hm,hi⟩)⟩
   simp only[List.length_append,mixR_len hn.1,List.append_assoc]at h2;exact h2
  ·simp at hn
def TypedL:List Value→List D→Prop
 |[],us=>us=[]
 |z::zs,us=>∃d r,us=d::r∧typedOk z d=true∧TypedL zs r
omit [Env] in
theorem typed_bool {v:Value} {b:Bool} {d:D} (hv:v= .bool b) (h:typedOk v d=true):∃x,d= .bool x:=by
 subst hv;cases d<;>simp[typedOk,isB]at h;exact⟨_,rfl⟩
omit [Env] in
theorem typed_sl {v:Value} {a:Option Addr} {n c:Nat} {d:D} (hv:v= .slice a n c) (h:typedOk v d=true):∃x,d= .sl x:=by
 subst hv;cases d<;>simp[typedOk,isL]at h;exact⟨_,rfl⟩
omit [Env] in
theorem isR4_typed {z r:List Value} {us:List D} (h:isR4 z=some r) (ht:TypedL z us):∃(x:R4) (ds:List D),us=rk x ds∧TypedL r ds:=by
 obtain⟨b,o,n,c,b',o',n',c',rfl⟩:=isR4_eq h;obtain⟨d1,r1,rfl,h1,d2,r2,rfl,h2,d3,r3,rfl,h3,d4,r4,rfl,h4,h5⟩:=ht;obtain⟨x1,rfl⟩:=typed_bool rfl h1;obtain⟨x2,rfl⟩:=typed_sl rfl h2;obtain⟨x3,rfl⟩:=typed_bool rfl h3;obtain⟨x4,rfl⟩:=typed_sl rfl h4;exact⟨⟨x1,x2,x3,x4⟩,r4,rfl,h5⟩
omit [Env] in
theorem isR4s_step {n:Nat} {z r:List Value} (h:isR4s (n+1) z=some r):∃q,isR4 z=some q∧isR4s n q=some r:=by
 simp only[isR4s]at h;split at h
 ·rename_i q hq;exact⟨q,hq,h⟩
 ·simp at h
omit [Env] in
theorem isP20_typed {z r:List Value} {us:List D} (h:isR4s 5 z=some r) (ht:TypedL z us):∃(x:P20) (ds:List D),us=pk x ds∧TypedL r ds:=by
 obtain⟨q1,e1,h⟩:=isR4s_step h;obtain⟨q2,e2,h⟩:=isR4s_step h;obtain⟨q3,e3,h⟩:=isR4s_step h;obtain⟨q4,e4,h⟩:=isR4s_step h;obtain⟨q5,e5,h⟩:=isR4s_step h;simp only[isR4s,Option.some.injEq]at h;subst h;obtain⟨x1,d1,rfl,t1⟩:=isR4_typed e1 ht;obtain⟨x2,d2,rfl,t2⟩:=isR4_typed e2 t1;obtain⟨x3,d3,rfl,t3⟩:=isR4_typed e3 t2;obtain⟨x4,d4,rfl,t4⟩:=isR4_typed e4 t3;obtain⟨x5,d5,rfl,t5⟩:=isR4_typed e5 t4;exact⟨⟨x1,x2,x3,x4,x5⟩,d5,rfl,t5⟩
omit [Env] in
theorem isC66_typed {z r:List Value} {us:List D} (h:isC66 z=some r) (ht:TypedL z us):∃(x:C66) (ds:List D),us=ck x ds∧TypedL r ds:=by
 unfold isC66 at h;split at h
 ·rename_i b q;split at h
  ·rename_i b' q' hq;obtain⟨d0,us0,rfl,t0,ht0⟩:=ht;obtain⟨a,rfl⟩:=typed_bool rfl t0;obtain⟨q1,e1,hq⟩:=isR4s_step hq;obtain⟨q2,e2,hq⟩:=isR4s_step hq;obtain⟨q3,e3,hq⟩:=isR4s_step hq;obtain⟨q4,e4,hq⟩:=isR4s_step hq;obtain⟨q5,e5,hq⟩:=isR4s_step hq;obtain⟨q6,e6,hq⟩:=isR4s_step hq;simp only[isR4s,Option.some.injEq]at hq;subst hq;obtain⟨x1,d1,rfl,t1⟩:=isR4_typed e1 ht0;obtain⟨x2,d2,rfl,t2⟩:=isR4_typed e2 t1;obtain⟨x3,d3,rfl,t3⟩:=isR4_typed e3 t2;obtain⟨x4,d4,rfl,t4⟩:=isR4_typed e4 t3;obtain⟨x5,d5,rfl,t5⟩:=isR4_typed e5 t4;obtain⟨x6,d6,rfl,t6⟩:=isR4_typed e6 t5;obtain⟨d7,us7,rfl,t7,ht7⟩:=t6;obtain⟨w,rfl⟩:=typed_bool rfl t7;have hs:∃s,isR4s 5 q'=some s∧isR4s 5 s=some r:=by obtain⟨q1,f1,h⟩:=isR4s_step h;obtain⟨q2,f2,h⟩:=isR4s_step h;obtain⟨q3,f3,h⟩:=isR4s_step h;obtain⟨q4,f4,h⟩:=isR4s_step h;obtain⟨q5,f5,h⟩:=isR4s_step h;exact⟨q5,by simp only[isR4s,f1,f2,f3,f4,f5],h⟩
   obtain⟨s,hs1,hs2⟩:=hs;obtain⟨p,d8,rfl,t8⟩:=isP20_typed hs1 ht7;obtain⟨p',d9,rfl,t9⟩:=isP20_typed hs2 t8;exact⟨⟨a,x1,x2,x3,x4,x5,x6,w,p,p'⟩,d9,rfl,t9⟩
  ·simp at h
 ·simp at h
omit [Env] in
theorem allG_use:∀{g:Bool} {n:Nat} {zs:List Value} {us:List D} {K:List D→Prop},allG g n zs K→TypedL zs us→K us
 |_,0,_,_,_,h,_=>h.elim
 |_,_+1,[],us,K,h,ht=>by have ht:us=[]:=ht;subst ht;exact h
 |g,n+1,z::zs,us,K,h,ht=>by
  simp only[allG]at h;split at h
  ·rename_i q hq;obtain⟨x,ds,rfl,h2⟩:=isC66_typed hq ht;exact allG_use (K:=fun us=>K (ck x us)) (h x) h2
  split at h
  ·rename_i q hq;obtain⟨x,ds,rfl,h2⟩:=isP20_typed hq ht;exact allG_use (K:=fun us=>K (pk x us)) (h x) h2
  split at h
  ·rename_i q hq;have hq:isR4 (z::zs)=some q:=by
    split at hq
    ·exact hq
    ·simp at hq
   obtain⟨x,ds,rfl,h2⟩:=isR4_typed hq ht;exact allG_use (K:=fun us=>K (rk x us)) (h x) h2
  obtain⟨d,r,rfl,h1,h2⟩:=ht;cases z with
  |int k n=>
   cases d<;>simp only[typedOk,isI,Bool.false_eq_true]at h1;have h1:=of_decide_eq_true h1;subst h1;exact allG_use (K:=fun us=>K (_::us)) (h _) h2
  |bool b=>
   cases d<;>simp only[typedOk,isB,Bool.false_eq_true]at h1;exact allG_use (K:=fun us=>K (_::us)) (h _) h2
  |string b=>
   cases d<;>simp only[typedOk,isS,Bool.false_eq_true]at h1;exact allG_use (K:=fun us=>K (_::us)) (h _) h2
  |slice b l c=>
   cases d<;>simp only[typedOk,isL,Bool.false_eq_true]at h1;exact allG_use (K:=fun us=>K (_::us)) (h _) h2
  |_=>exact allG_use (K:=fun us=>K (d::us)) (h d) h2
omit [Env] in
theorem allZ_use {zs:List Value} {us:List D} {K:List D→Prop} (h:allZ zs K) (ht:TypedL zs us):K us:=allG_use h ht
omit [Env] in
theorem TypedL.append:∀{zs zs':List Value} {us us':List D},TypedL zs us→TypedL zs' us'→TypedL (zs++zs') (us++us')
 |[],zs',us,us',h,h'=>by have h:us=[]:=h;subst h;exact h'
 |z::zs,zs',us,us',h,h'=>by obtain⟨d,r,rfl,h1,h2⟩:=h;exact⟨d,r++us',rfl,h1,h2.append h'⟩
omit [Env] in
theorem typedCells_typed:∀{zs:List Value} {cells:List V},typedCells zs cells=true→TypedL zs (cells.map toC)
 |[],[],_=>rfl
 |z::zs,v::vs,h=>by simp only[typedCells,Bool.and_eq_true]at h;exact⟨_,_,rfl,h.1.2,typedCells_typed h.2⟩
 |[],_::_,h=>by simp[typedCells]at h
 |_::_,[],h=>by simp[typedCells]at h
omit [Env] in
theorem mix_typed {ob:List Obj}:∀{ms:List MC} {cells:List V},mixOk ms cells ob=true→TypedL (zsM ms) (mixR ms cells ob)
 |[],[],_=>rfl
 | .dat z::ms,v::vs,h=>by simp only[mixOk,Bool.and_eq_true]at h;exact⟨_,_,rfl,h.1.2,mix_typed h.2⟩
 | .own key size::ms,v::vs,h=>by
  simp only[mixOk,Bool.and_eq_true]at h;obtain⟨ho,h⟩:=h;unfold ownMk at ho;split at ho
  ·split at ho
   ·rename_i hk;refine⟨_,_,rfl,?_,mix_typed h⟩;simp only[ownRd,hk];rfl
   ·simp at ho
  ·simp at ho
 |[],_::_,h=>by simp[mixOk]at h
 | .dat _::_,[],h=>by simp[mixOk]at h
 | .own .. ::_,[],h=>by simp[mixOk]at h
omit [Env] in
theorem normOk_typed:∀{locs:List Loc} {m:St},normOk locs m=true→TypedL (zsOf locs) (readL locs m)
 |[],_,_=>rfl
 | .slot s z::r,m,h=>by simp only[normOk,Bool.and_eq_true]at h;exact⟨_,_,rfl,h.1.2,normOk_typed h.2⟩
 | .box k zs::r,m,h=>by
  simp only[normOk]at h;split at h
  ·rename_i cells hk;simp only[Bool.and_eq_true]at h;simp only[zsOf,readL,hk];exact(typedCells_typed h.1).append (normOk_typed h.2)
  ·simp at h
 | .own s key size::r,m,h=>by
  simp only[normOk]at h;split at h
  ·split at h
   ·rename_i hk;simp only[Bool.and_eq_true]at h;simp only[zsOf,readL,hk];exact⟨_,_,rfl,rfl,normOk_typed h.2⟩
   ·simp at h
  ·simp at h
 | .bld k T key::r,m,h=>by
  simp only[normOk]at h;split at h
  ·split at h
   ·rename_i hj;simp only[Bool.and_eq_true]at h;simp only[zsOf,readL,hj];exact⟨_,_,rfl,rfl,normOk_typed h.2⟩
   ·simp at h
  ·simp at h
 | .mix k ms::r,m,h=>by
  simp only[normOk]at h;split at h
  ·rename_i cells hk;simp only[Bool.and_eq_true]at h;simp only[zsOf,readL,hk];exact(mix_typed h.1).append (normOk_typed h.2)
  ·simp at h
omit [Env] in
theorem mixO_out {us:List D}:∀{ms:List MC} {i:Nat} {ob:List Obj},(mixO ms i us ob).length=ob.length∧∀j,j∉mixKeys ms→nth .none (mixO ms i us ob) j=nth .none ob j
 |[],_,_=>⟨rfl,fun _ _=>rfl⟩
 | .dat z::ms,i,ob=>by simp only[mixO,mixKeys];exact mixO_out
 | .own key size::ms,i,ob=>by simp only[mixO,mixKeys,List.mem_cons,not_or];obtain⟨h1,h2⟩:=mixO_out (us:=us) (ms:=ms) (i:=i+1) (ob:=upd ob key (.arr size (toL (nth .undef us i)) false));exact⟨h1.trans (length_upd _ _ _),fun j hj=>(h2 j hj.2).trans (nth_upd_ne _ _ _ (Ne.symm hj.1))⟩
omit [Env] in
theorem fill_out:∀{locs:List Loc} {i:Nat} {us:List D} {m:St},(fill locs i us m).tmps.length=m.tmps.length∧(fill locs i us m).objs.length=m.objs.length∧(fill locs i us m).dirty=m.dirty∧
 (∀t,t∉slotsOf locs→nth .any (fill locs i us m).tmps t=nth .any m.tmps t)∧(∀k,k∉keysOf locs→nth .none (fill locs i us m).objs k=nth .none m.objs k)
 |[],_,_,_=>⟨rfl,rfl,rfl,fun _ _=>rfl,fun _ _=>rfl⟩
 | .slot s z::r,i,us,m=>by obtain⟨h1,h2,h3,h4,h5⟩:=fill_out (locs:=r) (i:=i+1) (us:=us) (m:=⟨upd m.tmps s (.c (nth .undef us i)),m.objs,m.dirty⟩);refine⟨by simp only[fill];rw[h1];exact length_upd _ _ _,h2,h3,fun t ht=>?_,h5⟩;simp only[slotsOf,List.mem_cons,not_or]at ht;simp only[fill];rw[h4 t ht.2];exact nth_upd_ne _ _ _ (Ne.symm ht.1)
 | .box k zs::r,i,us,m=>by obtain⟨h1,h2,h3,h4,h5⟩:=fill_out (locs:=r) (i:=i+zs.length) (us:=us) (m:=⟨m.tmps,upd m.objs k (.box (putCells zs i us)),m.dirty⟩);refine⟨h1,by simp only[fill];rw[h2];exact length_upd _ _ _,h3,h4,fun t ht=>?_⟩;simp only[keysOf,List.mem_cons,not_or]at ht;simp only[fill];rw[h5 t ht.2];exact nth_upd_ne _ _ _ (Ne.symm ht.1)
 | .own s key size::r,i,us,m=>by
  obtain⟨h1,h2,h3,h4,h5⟩:=fill_out (locs:=r) (i:=i+1) (us:=us) (m:=⟨upd m.tmps s (.arr key),upd m.objs key (.arr size (toL (nth .undef us i)) false),m.dirty⟩);refine⟨by simp only[fill];rw[h1];exact length_upd _ _ _,by simp only[fill];rw[h2];exact length_upd _ _ _,h3,fun t ht=>?_,fun t ht=>?_⟩
  ·simp only[slotsOf,List.mem_cons,not_or]at ht;simp only[fill];rw[h4 t ht.2];exact nth_upd_ne _ _ _ (Ne.symm ht.1)
  ·simp only[keysOf,List.mem_cons,not_or]at ht;simp only[fill];rw[h5 t ht.2];exact nth_upd_ne _ _ _ (Ne.symm ht.1)
 | .bld k T key::r,i,us,m=>by obtain⟨h1,h2,h3,h4,h5⟩:=fill_out (locs:=r) (i:=i+1) (us:=us) (m:=⟨m.tmps,upd (upd m.objs key (.arr 1 (toL (nth .undef us i)) false)) k (.bld T (.arr key)),m.dirty⟩);refine⟨h1,by simp only[fill];rw[h2];simp only[length_upd],h3,h4,fun t ht=>?_⟩;simp only[keysOf,List.mem_cons,not_or]at ht;simp only[fill];rw[h5 t ht.2.2];show nth .none (upd (upd m.objs key _) k _) t=_;rw[nth_upd_ne _ _ _ (Ne.symm ht.1),nth_upd_ne _ _ _ (Ne.symm ht.2.1)]
 | .mix k ms::r,i,us,m=>by obtain⟨g1,g2⟩:=mixO_out (us:=us) (ms:=ms) (i:=i) (ob:=m.objs);obtain⟨h1,h2,h3,h4,h5⟩:=fill_out (locs:=r) (i:=i+ms.length) (us:=us) (m:=⟨m.tmps,upd (mixO ms i us m.objs) k (.box (mixC ms i us)),m.dirty⟩);refine⟨h1,by simp only[fill];rw[h2];simp only[length_upd];exact g1,h3,h4,fun t ht=>?_⟩;simp only[keysOf,List.mem_cons,List.mem_append,not_or]at ht;simp only[fill];rw[h5 t ht.2.2];show nth Obj.none (upd _ k _) t=_;rw[nth_upd_ne _ _ _ (Ne.symm ht.1),g2 t ht.2.1]
omit [Env] in
theorem within_ok {a l:List Nat} (h:within a l=true):∀k∈a,k∈l:=by
 induction a with
 |nil=>intro k hk;simp at hk
 |cons x r ih=>
  simp only[within,Bool.and_eq_true]at h;intro k hk;rcases List.mem_cons.1 hk with rfl|hk
  ·exact memN_iff.1 h.1
  ·exact ih h.2 k hk
omit [Env] in
theorem least {p:Nat→Prop} (h:∃n,p n):∃n,p n∧∀m,p m→n≤m:=by
 obtain⟨n,hn⟩:=h
 induction n using Nat.strongRecOn with
 |_ n ih=>
  by_cases hc:∃m,m<n∧p m
  ·obtain⟨m,hm,hp⟩:=hc;exact ih m hm hp
  ·exact⟨n,hn,fun m hm=>Nat.le_of_not_lt fun hlt=>hc ⟨m,hlt,hm⟩⟩
open Classical in
noncomputable def leastOf (p:Nat→Prop):Nat:=if h:∃n,p n then Classical.choose (least h)else 0
omit [Env] in
theorem leastOf_ok {p:Nat→Prop} (h:∃n,p n):p (leastOf p):=by unfold leastOf;rw[dif_pos h];exact(Classical.choose_spec (least h)).1
omit [Env] in
theorem leastOf_le {p:Nat→Prop} {m:Nat} (h:p m):leastOf p≤m:=by unfold leastOf;rw[dif_pos ⟨m,h⟩];exact(Classical.choose_spec (least ⟨m,h⟩)).2 m h
section
variable {C:Cx} {B:Bd} {F0:Nat→Prop} {w0:World} {anns:Nat→Ann}
def XM:X→Exit→Prop
 | .normal,e=>e= .normal
 | .exit i,e=>e= .exit i
 | .ret,e=>e= .ret
def Post (C:Cx) (B:Bd) (F0:Nat→Prop) (w0:World) (mt:List Nat) (Q:X→St→Prop) (st:St) (e:Exit) (a:Act) (w:World):Prop:=
 ∃x s',XM x e∧Q x s'∧Frame mt st s'∧St.has C B F0 w0 s' a w
omit [Env] in
theorem mem_dsts {t:Nat} {o:Oper}:∀{l:List Oper},o∈l→o.dst=some t→t∈dsts l
 |[],h,_=>by simp at h
 |p::r,h,hd=>by
  simp only[dsts];rcases List.mem_cons.1 h with rfl|h
  ·rw[hd];simp
  ·have:=mem_dsts h hd;split
   ·simp[this]
   ·exact this
omit [Env] in
theorem keysUp_ok:∀{us:List (Nat×Obj)} {l:List Nat} {k:Nat},k∈keysUp us l↔k∈l∨∃p∈us,p.1=k
 |[],l,k=>by simp[keysUp]
 |(j,o)::r,l,k=>by
  simp only[keysUp,List.mem_cons];rw[keysUp_ok];constructor
  ·rintro(rfl|h|⟨p,hp,rfl⟩)
   ·exact .inr ⟨(k,o),.inl rfl,rfl⟩
   ·exact .inl h
   ·exact .inr ⟨p,.inr hp,rfl⟩
  ·rintro(h|⟨p,rfl|hp,rfl⟩)
   ·exact .inr (.inl h)
   ·exact .inl rfl
   ·exact .inr (.inr ⟨p,hp,rfl⟩)
omit [Env] in
theorem Frame.put {mt:List Nat} {s:St} {dst:Option Nat} {v:V} {up:List (Nat×Obj)} (h:∀t,dst=some t→t∈mt):Frame mt s (s.put dst v up):=by
 refine⟨?_,length_upds _ _,fun t ht=>?_,fun k hk=>?_,fun k hk=>keysUp_ok.2 (.inl hk)⟩
 ·simp only[St.put];cases dst with
  |none=>rfl
  |some t=>exact length_upd _ _ _
 ·simp only[St.put];cases dst with
  |none=>rfl
  |some d=>exact nth_upd_ne _ _ _ fun e=>ht (by rw[←e];exact h d rfl)
 ·exact nth_upds_out _ _ fun p hp e=>hk (keysUp_ok.2 (.inr ⟨p,hp,e⟩))
omit [Env] in
theorem wpL_frame {Gv:Nat→List A→List A→Prop} {ops:Array Oper}:∀(l:List Oper) (k:Nat) (s:St) (K:St→Prop),(∀j,l[j]? =ops[k+j]?)→wpL C Gv ops l s K→∃rc s',Tr C Gv ops rc (List.range' k l.length) s s'∧K s'∧Frame (dsts ops.toList) s s'
 |[],_,s,_,_,h=>⟨fun _=>([],[]),s,⟨rfl,rfl⟩,h,Frame.refl _ _⟩
 |o::l,k,s,K,hk,h=>by
  have h0:ops[k]? =some o:=by simpa using(hk 0).symm
  obtain⟨v,up,h1,h2⟩:=stepW_out h;obtain⟨rc,s',h3,h4,h5⟩:=wpL_frame l (k+1) _ K (fun j=>by have:=hk (j+1);simpa [Nat.add_assoc,Nat.add_comm 1 j]using this) h2;refine⟨fun i=>if i=k then(opk o (ev s) s.objs,up.map (·.1))else rc i,s',?_,h4,Frame.trans' (Frame.put fun t ht=>mem_dsts (o:=o) ?_ ht) h5⟩
  ·rw[List.length_cons,List.range'_succ];refine⟨o,h0,v,up,h1,?_,h3.recs fun i hi=>?_⟩
   ·simp only[if_pos];exact⟨fun _ _ h=>h,fun p hp=>List.mem_map.2 ⟨p,hp,rfl⟩⟩
   ·have:=(List.mem_range'_1.1 hi).1;rw[if_neg (by omega)]
  ·have:=List.mem_of_getElem? (show ops.toList[k]? =some o by simpa using h0);exact this
omit [Env] in
theorem wpLR_frame {Gv:Nat→List A→List A→Prop} {ops:Array Oper}:∀(l:List Oper) (k:Nat) (s:St) (acc:List Rec) (K:St→List Rec→Prop),(∀j,l[j]? =ops[k+j]?)→acc.length=k→wpLR C Gv ops l s acc K→
 ∃R s',Tr C Gv ops (fun i=>nth ([],[]) (acc++R) i) (List.range' k l.length) s s'∧K s' (acc++R)∧Frame (dsts ops.toList) s s'
 |[],_,s,acc,_,_,_,h=>⟨[],s,⟨rfl,rfl⟩,by rw[List.append_nil];exact h,Frame.refl _ _⟩
 |o::l,k,s,acc,K,hk,hacc,h=>by
  have h0:ops[k]? =some o:=by simpa using(hk 0).symm
  obtain⟨v,up,h1,h2⟩:=stepW_out h;obtain⟨R,s',h3,h4,h5⟩:=wpLR_frame l (k+1) _ _ K (fun j=>by have:=hk (j+1);simpa [Nat.add_assoc,Nat.add_comm 1 j]using this) (by simp[hacc]) h2;refine⟨(opk o (ev s) s.objs,keysUp up [])::R,s',?_,by rw[List.append_assoc]at h4;exact h4,?_⟩
  ·rw[List.length_cons,List.range'_succ];refine⟨o,h0,v,up,h1.same rfl rfl,?_,?_⟩
   ·have e:nth ([],[]) (acc++(opk o (ev s) s.objs,keysUp up [])::R) k=(opk o (ev s) s.objs,keysUp up []):=by have:=nth_app ([],[]) acc ((opk o (ev s) s.objs,keysUp up [])::R) 0;rw[Nat.add_zero,hacc]at this;rw[this];rfl
    simp only;rw[e];exact⟨fun _ _ h=>h,fun p hp=>keysUp_ok.2 (.inr ⟨p,hp,rfl⟩)⟩
   ·simp only[List.append_assoc,List.singleton_append]at h3;exact h3.same rfl rfl
  ·refine Frame.trans' (s':=⟨(s.put o.dst v up).tmps,(s.put o.dst v up).objs,keysUp up []++s.dirty⟩) ?_ h5;have hf:=Frame.put (mt:=dsts ops.toList) (s:=s) (dst:=o.dst) (v:=v) (up:=up) fun t ht=>mem_dsts (o:=o) (List.mem_of_getElem? (show ops.toList[k]? =some o by simpa using h0)) ht
   refine⟨hf.lt,hf.lo,hf.tmps,fun j hj=>hf.objs j fun hj'=>hj ?_,fun j hj=>List.mem_append_right _ hj⟩;rcases keysUp_ok.1 hj' with h|h
   ·exact List.mem_append_right _ h
   ·exact List.mem_append_left _ (keysUp_ok.2 (.inr h))
theorem region_wp [EffOk C] {id:Nat} {ops:Array Oper} {d:Bool} {Q:X→St→Prop} {s:St} {a:Act} {w:World} (hm:C.P.follows .mixedOrders=true) (hd:d=true→regionOk C ops.toList=true) (h:wpL C (Gives C) ops ops.toList s (Q .normal)) (hh:St.has C B F0 w0 s a w):
 (Code.region id ops d).wp C.P (Post C B F0 w0 (dsts ops.toList) Q s) a w:=by
 obtain⟨rc,s',h1,h2,h3⟩:=wpL_frame ops.toList 0 s _ (by simp) h;rw[Array.length_toList,←List.range_eq_range']at h1;exact region_ok hm (fun h=>regionOk_ok rc (hd h)) h1 hh fun a w hw=>⟨.normal,s',rfl,h2,h3,hw⟩
theorem region_wpR [EffOk C] {id:Nat} {ops:Array Oper} {d:Bool} {Q:X→St→Prop} {s:St} {a:Act} {w:World} (hm:C.P.follows .mixedOrders=true) (h:wpLR C (Gives C) ops ops.toList s [] fun s rs=>cnd (regionOkR C ops.toList rs) (Q .normal s)) (hh:St.has C B F0 w0 s a w):
 (Code.region id ops d).wp C.P (Post C B F0 w0 (dsts ops.toList) Q s) a w:=by
 obtain⟨R,s',h1,h2,h3⟩:=wpLR_frame ops.toList 0 s [] _ (by simp) rfl h;rw[Array.length_toList,←List.range_eq_range']at h1;unfold cnd at h2;split at h2
 ·rename_i hr;exact region_ok hm (fun _=>regionOkR_ok hr) h1 hh fun a w hw=>⟨.normal,s',rfl,h2,h3,hw⟩
 ·exact h2.elim
theorem wpC_ok [EffOk C] (hm:C.P.follows .mixedOrders=true):∀(c:Code) (n:Nat) (Q:X→St→Prop) (s:St) (a:Act) (w:World),wpC C (Gives C) anns n c Q s→St.has C B F0 w0 s a w→
 c.wp C.P (Post C B F0 w0 (modsT anns n c) Q s) a w:=by
 intro c
 induction c with
 |skip=>intro n Q s a w h hh;exact wp_skip ⟨.normal,s,rfl,h,Frame.refl _ _,hh⟩
 |region id ops d=>
  intro n Q s a w h hh;simp only[wpC,frcS_eq]at h;cases d with
  |false=>exact region_wp hm (by simp) h hh
  |true=>
   dsimp only at h
   split at h
   ·rename_i hr;exact region_wp hm (fun _=>hr) h hh
   ·exact region_wpR hm h hh
 |seq x y ihx ihy=>
  intro n Q s a w h hh;simp only[wpC,frcS_eq,forgetQ_eq,forgetOQ_eq]at h;split at h
  ·rename_i hj;refine wp_seq (Code.wp_mono (fun e a' w' hp=>?_) (ihx n _ s a w h hh));obtain⟨z,s',hz,hq,hf,hh'⟩:=hp;cases z with
   |normal=>
    have hz:e= .normal:=hz;subst hz;refine Code.wp_mono (fun e a' w' hp=>?_) (ihy _ _ s' a' w' hq hh');obtain⟨z,s'',hz,hq,hf',hh''⟩:=hp;exact⟨z,s'',hz,hq,(hf.trans hf').mono fun t ht=>by
     simp only[modsT,List.mem_append]at ht ⊢;rcases ht with ht|ht
     ·exact .inl ht
     ·exact .inr (.inl ht),hh''⟩
   |exit i=>have hz:e= .exit i:=hz;subst hz;exact⟨.exit i,s',rfl,hq,hf.mono fun t ht=>by simp[modsT,ht],hh'⟩
   |ret=>have hz:e= .ret:=hz;subst hz;exact⟨.ret,s',rfl,hq,hf.mono fun t ht=>by simp[modsT,ht],hh'⟩
  ·rename_i J hj;have hjs:joinSlots anns y=slotsOf J.locs:=by unfold joinSlots;rw[hj]
   obtain⟨h1,hall⟩:=h;generalize hlocs:J.locs=locs at *;generalize hmt:modsT anns n x=mt at *;generalize hms:mods x=ms at *;have hh0:St.has C B F0 w0 ⟨s.tmps,s.objs,[]⟩ a w:=has_same hh rfl rfl;have h2:=ihx n _ _ a w h1 hh0;rw[hmt]at h2;refine wp_seq (Code.wp_mono (fun e a' w' hp=>?_) h2);obtain⟨z,s',hz,hq,hf,hh'⟩:=hp;have hout:Frame (modsT anns n (.seq x y)) s ⟨s'.tmps,s'.objs,s'.dirty++s.dirty⟩:=by
    refine⟨hf.lt,hf.lo,fun t ht=>?_,fun k hk=>?_,fun k hk=>List.mem_append_right _ hk⟩
    ·simp only[modsT,List.mem_append,not_or]at ht;exact hf.tmps t (by rw[←hmt];exact ht.1)
    ·simp only[List.mem_append,not_or]at hk;exact hf.objs k hk.1
   cases z with
   |normal=>
    have hz:e= .normal:=hz;subst hz;simp only at hq;split at hq
    ·exact hq.elim
    rename_i m' hnorm';obtain⟨hM',hhas'⟩:=norm_ok (C:=C) (B:=B) (F0:=F0) (w0:=w0) (a:=a') (w:=w') hnorm';unfold cnd at hq;split at hq
    ·rename_i hwi;generalize hm:(⟨forget s.tmps (mt++slotsOf locs),forgetO s.objs (ms++keysOf locs),ms++(keysOf locs++s.dirty)⟩:St)=m at *;have hmtm:m.tmps=forget s.tmps (mt++slotsOf locs):=by rw[←hm]
     have hmob:m.objs=forgetO s.objs (ms++keysOf locs):=by rw[←hm]
     have hmdi:m.dirty=ms++(keysOf locs++s.dirty):=by rw[←hm]
     have haway:Away locs m m':=by
      refine⟨?_,?_,fun t ht=>?_,fun k hk=>?_⟩
      ·rw[hmtm,forget_len];exact(hM'.lt.trans hf.lt).symm
      ·rw[hmob,forgetO_len];exact(hM'.lo.trans hf.lo).symm
      ·rw[hmtm];by_cases htm:t∈mt
       ·rw[forget_in _ _ (.inl (by simp[htm])),hM'.tin t htm ht]
       ·rw[forget_out _ _ (by simp[htm,ht]),hM'.tout t htm ht,hf.tmps t htm]
      ·rw[hmob];by_cases hkm:k∈ms
       ·rw[forgetO_in _ _ (.inl (by simp[hkm])),hM'.oin k hkm]
       ·have hnd:k∉m'.dirty:=fun h=>by
         rcases List.mem_append.1 (within_ok hwi k h)with h|h
         ·exact hkm h
         ·exact hk h
        rw[forgetO_out _ _ (by simp[hkm,hk]),hM'.oout k hnd,hf.objs k fun h=>hnd (hM'.dirty k (.inl h))]
     have hfe:=fill_eq (pre:=[]) (m:=m) hM'.ok haway;have hb:=allZ_use hall (normOk_typed hM'.ok) hq;have hS:St.has C B F0 w0 (fill locs 0 (readL locs m') m) a' w':=has_same (hhas' hh') hfe.1.symm hfe.2.symm;obtain⟨q1,q2,q3,q4,q5⟩:=fill_out (locs:=locs) (i:=0) (us:=readL locs m') (m:=m);refine Code.wp_mono (fun e a' w' hp=>?_) (ihy _ _ _ a' w' hb hS);obtain⟨z,s'',hz,hq,hf',hh''⟩:=hp;refine⟨z,s'',hz,hq,⟨?_,?_,fun t ht=>?_,fun k hk=>?_,fun k hk=>?_⟩,hh''⟩
     ·rw[hf'.lt,q1,hmtm,forget_len]
     ·rw[hf'.lo,q2,hmob,forgetO_len]
     ·simp only[modsT,List.mem_append,not_or,hjs,hmt]at ht;rw[hf'.tmps t ht.2.1,q4 t ht.2.2,hmtm,forget_out _ _ (by simp[ht.1,ht.2.2])]
     ·have hnd:k∉(fill locs 0 (readL locs m') m).dirty:=fun h=>hk (hf'.dirty k h)
      rw[q3,hmdi]at hnd;simp only[List.mem_append,not_or]at hnd;rw[hf'.objs k (fun h=>hk h),q5 k hnd.2.1,hmob,forgetO_out _ _ (by simp[hnd.1,hnd.2.1])]
     ·refine hf'.dirty k ?_;rw[q3,hmdi];simp[hk]
    ·exact hq.elim
   |exit i=>have hz:e= .exit i:=hz;subst hz;exact⟨.exit i,_,rfl,hq,hout,has_same hh' rfl rfl⟩
   |ret=>have hz:e= .ret:=hz;subst hz;exact⟨.ret,_,rfl,hq,hout,has_same hh' rfl rfl⟩
 |cond cd x y ihx ihy=>
  intro n Q s a w h hh;simp only[wpC]at h;split at h
  ·rename_i d hd;obtain⟨F,loc,hc⟩:=hh;have he:=(ev_ok hc cd).1;rw[hd]at he;cases d with
   |bool b=>
    have hb:a.eval cd= .bool b:=(fun(x:Value) (hx:CD w F (.bool b) x)=>(by cases hx;rfl:x= .bool b)) _ he;refine wp_cond hb ?_;cases b with
    |true=>rw[if_pos rfl];refine Code.wp_mono (fun e a' w' hp=>?_) (ihx n Q s a w h ⟨F,loc,hc⟩);obtain⟨z,s',hz,hq,hf,hh'⟩:=hp;exact⟨z,s',hz,hq,hf.mono fun t ht=>by simp[modsT,ht],hh'⟩
    |false=>rw[if_neg (by simp)];refine Code.wp_mono (fun e a' w' hp=>?_) (ihy _ Q s a w h ⟨F,loc,hc⟩);obtain⟨z,s',hz,hq,hf,hh'⟩:=hp;exact⟨z,s',hz,hq,hf.mono fun t ht=>by simp[modsT,ht],hh'⟩
   |_=>exact h.elim
  ·exact h.elim
 |block id x ih=>
  intro n Q s a w h hh;simp only[wpC]at h;refine wp_block (Code.wp_mono (fun e a' w' hp=>?_) (ih n _ s a w h hh));obtain⟨z,s',hz,hq,hf,hh'⟩:=hp;cases z with
  |normal=>have hz:e= .normal:=hz;subst hz;exact⟨.normal,s',rfl,hq,hf,hh'⟩
  |exit i=>
   have hz:e= .exit i:=hz;subst hz;simp only at hq;unfold Exit.inBlock;split at hq
   ·rename_i hi;have:=Nat.eq_of_beq_eq_true hi;simp only[this,if_true];exact⟨.normal,s',rfl,hq,hf,hh'⟩
   ·rename_i hi;have:i≠id:=fun e=>by subst e;simp at hi
    simp only[this,if_false];exact⟨.exit i,s',rfl,hq,hf,hh'⟩
  |ret=>have hz:e= .ret:=hz;subst hz;exact⟨.ret,s',rfl,hq,hf,hh'⟩
 |exit id=>intro n Q s a w h hh;exact wp_exit ⟨.exit id,s,rfl,h,Frame.refl _ _,hh⟩
 |ret=>intro n Q s a w h hh;exact wp_ret ⟨.ret,s,rfl,h,Frame.refl _ _,hh⟩
 |loop body ih=>
  intro n Q s a w h hh;simp only[wpC,frcS_eq]at h;split at h
  ·exact h.elim
  rename_i m hnorm;generalize hmt:modsT anns (n+1) body=mt at *;generalize hms:mods body=ms at *;generalize hlocs:(anns n).locs=locs at *;obtain⟨hinv,hall⟩:=h;obtain⟨hM,hhas⟩:=norm_ok (C:=C) (B:=B) (F0:=F0) (w0:=w0) (a:=a) (w:=w) hnorm;have hself:(fill locs 0 (readL locs m) ⟨m.tmps,m.objs,[]⟩).tmps=m.tmps∧(fill locs 0 (readL locs m) ⟨m.tmps,m.objs,[]⟩).objs=m.objs:=
   fill_eq (pre:=[]) (m:=⟨m.tmps,m.objs,[]⟩) hM.ok ⟨rfl,rfl,fun _ _=>rfl,fun _ _=>rfl⟩
  let S:List D→St:=fun us=>fill locs 0 us ⟨m.tmps,m.objs,[]⟩
  let p:Act→World→Nat→Prop:=fun a w k=>∃us,TypedL (zsOf locs) us∧(anns n).inv (readL (anns n).gh m) us∧St.has C B F0 w0 (S us) a w∧(anns n).meas us=k
  have h0:∃k,p a w k:=⟨_,readL locs m,normOk_typed hM.ok,hinv,has_same (hhas hh) hself.1.symm hself.2.symm,rfl⟩;refine wp_loop (fun a w=>∃k,p a w k) (fun a w=>leastOf (p a w)) h0 fun a1 w1 h1=>?_
  obtain⟨us,hty,hiv,hs,hme⟩:=leastOf_ok h1;have hb:=allZ_use hall hty hiv;refine Code.wp_mono (fun e a' w' hp=>?_) (ih (n+1) _ (S us) a1 w1 hb hs);rw[hmt]at hp;obtain⟨z,s',hz,hq,hf,hh'⟩:=hp;obtain⟨q1,q2,q3,q4,q5⟩:=fill_out (locs:=locs) (i:=0) (us:=us) (m:=⟨m.tmps,m.objs,[]⟩)
  --the frame from the loop's start to an end that leaves it
  have hout:Frame (slotsOf locs++mt) s ⟨s'.tmps,s'.objs,s'.dirty++m.dirty⟩:=by
   refine⟨hf.lt.trans (q1.trans hM.lt),hf.lo.trans (q2.trans hM.lo),fun t ht=>?_,fun k hk=>?_,fun k hk=>List.mem_append_right _ (hM.dirty k (.inl hk))⟩
   ·simp only[List.mem_append,not_or]at ht;show nth .any s'.tmps t=_;rw[hf.tmps t ht.2,q4 t ht.1];exact hM.tout t ht.2 ht.1
   ·simp only[List.mem_append,not_or]at hk;show nth .none s'.objs k=_;rw[hf.objs k hk.1,q5 k fun h=>hk.2 (hM.dirty k (.inr h))];exact hM.oout k hk.2
  cases z with
  |normal=>
   have hz:e= .normal:=hz;subst hz;simp only at hq;split at hq
   ·exact hq.elim
   rename_i m' hnorm';obtain⟨hM',hhas'⟩:=norm_ok (C:=C) (B:=B) (F0:=F0) (w0:=w0) (a:=a') (w:=w') hnorm';unfold cnd at hq;split at hq
   ·rename_i hwi;obtain⟨hi',hm'⟩:=hq;have haway:Away locs ⟨m.tmps,m.objs,[]⟩ m':=by
     refine⟨(hM'.lt.trans (hf.lt.trans q1)).symm,(hM'.lo.trans (hf.lo.trans q2)).symm,fun t ht=>?_,fun k hk=>?_⟩
     ·show nth .any m.tmps t=_;by_cases htm:t∈mt
      ·rw[hM.tin t htm ht,hM'.tin t htm ht]
      ·rw[hM'.tout t htm ht,hf.tmps t htm,q4 t ht]
     ·show nth .none m.objs k=_;by_cases hkm:k∈ms
      ·rw[hM.oin k hkm,hM'.oin k hkm]
      ·have hnd:k∉m'.dirty:=fun h=>by
        rcases List.mem_append.1 (within_ok hwi k h)with h|h
        ·exact hkm h
        ·exact hk h
       rw[hM'.oout k hnd,hf.objs k fun h=>hnd (hM'.dirty k (.inl h)),q5 k hk]
    have hfe:=fill_eq (pre:=[]) (m:=⟨m.tmps,m.objs,[]⟩) hM'.ok haway;have hnew:p a' w' ((anns n).meas (readL locs m')):=⟨readL locs m',normOk_typed hM'.ok,hi',has_same (hhas' hh') hfe.1.symm hfe.2.symm,rfl⟩;refine⟨⟨_,hnew⟩,?_⟩;have h3:=leastOf_le hnew;show leastOf (p a' w')<leastOf (p a1 w1);omega
   ·exact hq.elim
  |exit i=>have hz:e= .exit i:=hz;subst hz;exact⟨.exit i,_,rfl,hq,by rw[modsT,hlocs,hmt];exact hout,has_same hh' rfl rfl⟩
  |ret=>have hz:e= .ret:=hz;subst hz;exact⟨.ret,_,rfl,hq,by rw[modsT,hlocs,hmt];exact hout,has_same hh' rfl rfl⟩
 |_=>intro n Q s a w h hh;exact h.elim
end
end Eng
end

section
namespace Eng
open Go Go.RowKit
variable [Env]
section
variable {C:Cx}
def After (F0:Nat→Prop) (B:Bd) (w:World):Nat→Prop:=fun b=>F0 b∨(Own B b∧b<w.heap.size)
def getR (tmps:Array Value) (r:ResultVar):Sem Value:=
 match r with
 | .tmp t=>pure (tmps.getD t undef)
 | .cell x t=>do loadVar t (←asAddr (tmps.getD x undef))
theorem cellsR_ok {F0:Nat→Prop} {w0:World} {B:Bd} {F:Nat→Prop} {loc:Where} {st:St} {a:Act} {w:World} (h:Conc C B F0 w0 F loc st a w) {cells:List V} {ds:List D} {xs:List Value} (hc:cellsR st.objs cells=some ds)
 (hv:All2 (fun v x=>CV loc st.objs w F v x∧x.oneCell'=true) cells xs):All2 (CD w (After F0 B w)) ds xs:=by
 unfold cellsR at hc;split at hc
 ·rename_i cs hcs;split at hc
  ·rename_i ds' us hd;simp only[Option.some.injEq]at hc;subst hc;rw[vcOf_ok hcs]at hv;exact(dataC_ok h hd (all2_vc hv)).2 (After F0 B w) (fun b hb=>by
    rcases h.fsub b hb with h'|h'
    ·exact .inl h'
    ·exact .inr ⟨h',h.bound b hb⟩) (fun p _ b c hl=> .inr (h.fresh _ _ _ hl))
  ·simp at hc
 ·simp at hc
theorem toR_ok {F0:Nat→Prop} {w0:World} {B:Bd} {F:Nat→Prop} {loc:Where} {st:St} {a:Act} {w:World} (h:Conc C B F0 w0 F loc st a w) {v:V} {x:Value} {r:A} (hr:toR st.objs v=some r) (hv:CV loc st.objs w F v x):CA w (After F0 B w) r x:=by
 unfold toR at hr;split at hr
 ·rename_i k n;split at hr
  ·rename_i _ cells hk;split at hr
   ·rename_i ds hn hds;simp only[Option.some.injEq]at hr;subst hr;obtain rfl:=Nat.eq_of_beq_eq_true hn;obtain⟨b,c,hl,rfl⟩:=hv _ hk rfl;have hco:=h.objs k;rw[hk]at hco;obtain⟨b',c',cs,t',hl',_,hblk,hsz,hlc,hall,_⟩:=hco;rw[hl]at hl';simp only[Option.some.injEq,Prod.mk.injEq]at hl';obtain⟨rfl,rfl⟩:=hl';have hnx:∀j,j<cells.length→nth undef (cs.toList.take cells.length) j=nth undef cs.toList j:=fun j hj=>by rw[nth_eq,nth_eq,List.getElem?_take,if_pos hj]
    have hl2:(cs.toList.take cells.length).length=cells.length:=by simp;omega
    have h2:All2 (fun v x=>CV loc st.objs w F v x∧x.oneCell'=true) cells (cs.toList.take cells.length):=all2_of_nth .any undef hl2.symm fun j hj=>by
     obtain⟨u,q1,q2,q3⟩:=hall j hj;have e:nth undef cs.toList j=u:=by rw[nth_eq];simp[q1]
     rw[hnx j hj,e];exact⟨q2,q3⟩
    have hcd:=cellsR_ok h hds h2;have hdl:=hcd.length;rw[hl2]at hdl;have hf:∀l:List D,(l.map fun d=>[d]).flatten=l:=fun l=>by induction l with|nil=>rfl|cons _ _ ih=>simp[ih]
    show CD w (After F0 B w) (.sl (ds.map fun d=>[d])) _;have:=CD.sl (w:=w) (F:=After F0 B w) (ds.map fun d=>[d]) b 0 c 1 (fun j=>nth undef (cs.toList.take cells.length) j) (by rw[List.length_map];omega) (fun e he=>by obtain⟨_,_,rfl⟩:=List.mem_map.1 he;rfl) (.inr (h.fresh _ _ _ hl)) (fun j hj=>by
     rw[List.length_map,Nat.mul_one]at hj;rw[Nat.zero_add,cell_blk hblk,hnx j (by omega),nth_eq];simp[show j<cs.size by omega]) (fun j hj=>by
     rw[List.length_map,Nat.mul_one]at hj;rw[hf];exact hcd.nth .undef undef _ _ j hj)
    rw[List.length_map,hdl]at this;exact this
   ·simp at hr
  ·simp at hr
 ·split at hr
  ·rename_i r' us h1;simp only[Option.some.injEq]at hr;subst hr;exact(toA_ok h h1 hv).2 (After F0 B w) (fun b hb=>by
    rcases h.fsub b hb with h'|h'
    ·exact .inl h'
    ·exact .inr ⟨h',h.bound b hb⟩) (fun p _ b c hl=> .inr (h.fresh _ _ _ hl))
  ·simp at hr
theorem resD_ok {F0:Nat→Prop} {w0:World} {B:Bd} {F:Nat→Prop} {loc:Where} {st:St} {a:Act} {w:World} (h:Conc C B F0 w0 F loc st a w):∀{rs:List ResultVar} {as:List A},resD C st rs=some as→
 ∃vs:List Value,(rs.mapM (getR a.tmps)).run C.P w= .ok vs w∧All2 (CA w (After F0 B w)) as vs
 |[],as,hr=>by simp only[resD,Option.some.injEq]at hr;subst hr;exact⟨[],rfl,trivial⟩
 | .tmp t::r,as,hr=>by
  simp only[resD]at hr;split at hr
  ·rename_i d as' h1 h2;simp only[Option.some.injEq]at hr;subst hr;obtain⟨vs,h3,h4⟩:=resD_ok h h2;refine⟨a.tmps.getD t undef::vs,?_,?_,h4⟩
   ·rw[List.mapM_cons];simp[h3,getR]
   ·have hv:=(slot_ok h t).1;exact toR_ok h h1 hv
  ·simp at hr
 | .cell x t::r,as,hr=>by
  simp only[resD]at hr;split at hr
  ·rename_i k hv;split at hr
   ·rename_i cells z hk hz;split at hr
    ·rename_i ds as' hlen hds h2;have hlen:cells.length=z.length:=of_decide_eq_true hlen;obtain⟨vs,h3,h4⟩:=resD_ok h h2;have hx:=(slot_ok h x).1;simp only[Act.eval]at hx;rw[hv]at hx;obtain⟨b,c,hl,hp⟩:=hx _ hk rfl;have hco:=h.objs k;rw[hk]at hco;obtain⟨b',c',cs,t',hl',hnF,hblk,hall,hrefs⟩:=hco;rw[hl]at hl';simp only[Option.some.injEq,Prod.mk.injEq]at hl';obtain⟨rfl,rfl⟩:=hl';have hl2:=hall.length;have hcell:∀j,j<z.length→w.cell? ⟨b,0+j,none⟩=some (nth undef cs.toList (0+j)):=fun j hj=>by rw[Nat.zero_add,cell_blk hblk,nth_of_lt _ (by omega)];simp at hl2;simp[show j<cs.size by omega]
     have hFF:∀b,F b→After F0 B w b:=fun b hb=>by
      rcases h.fsub b hb with h'|h'
      ·exact .inl h'
      ·exact .inr ⟨h',h.bound b hb⟩
     have hcd:All2 (CD w (After F0 B w)) ds cs.toList:=cellsR_ok h hds hall;have hcs:∀n,n=cs.toList.length→segF (fun j=>nth undef cs.toList j) 0 n=cs.toList:=fun n hn=>by
      apply list_ext undef
      ·rw[hn];rw[length_segF]
      ·intro i;by_cases hi:i<n
       ·rw[nth_segF _ _ _ _ _ hi,Nat.zero_add]
       ·rw[nth_big _ (by rw[length_segF];omega),nth_big _ (by omega)]
     have h1:=run_loadAt (P:=C.P) (w:=w) (b:=b) (o:=0) hz (fun j=>nth undef cs.toList j) hcell;obtain⟨_,zv,_,_,hzc,_,_,hzt,_⟩:=zeros_ok hz;have hpos:tAgg C.P t=false→0<z.length:=by intro hf;cases zv<;>simp[hf]at hzt<;>(subst hzc;simp[Value.cells])
     have hrun:∀y,(Instr.loadAt t (.pointer (some ⟨b,0,none⟩))).run C.P w= .ok y w→(do loadVar t (←asAddr (a.tmps.getD x undef)):Sem Value).run C.P w= .ok y w:=fun y hy=>by
      have hp':a.tmps.getD x undef= .pointer (some ⟨b,0,none⟩):=hp;rw[hp']
      simpa [Instr.loadAt,Instr.sureAddr,asAddr]using hy
     have hlc:z.length=cs.toList.length:=by rw[←hlen];exact hl2
     split at hr
     ·rename_i ht;simp only[Option.some.injEq]at hr;subst hr;rcases h1 with h1|⟨h1,_⟩
      ·rw[ht]at h1;refine⟨.agg cs::vs,?_,⟨cs,rfl,hcd⟩,h4⟩;have h5:=hrun _ h1;rw[hcs _ hlc]at h5;rw[List.mapM_cons];simp only[Sem.run_bind,getR,h5,Result.andThen_ok,h3];rfl
      ·rw[ht]at h1;simp at h1
     ·rename_i ht;simp only[Option.some.injEq]at hr;subst hr;rcases h1 with h1|⟨_,h1⟩
      ·rw[ht]at h1;refine⟨nth undef cs.toList 0::vs,?_,?_,h4⟩
       ·have h5:=hrun _ h1;rw[List.mapM_cons];simp only[Sem.run_bind,getR,h5,Result.andThen_ok,h3];rfl
       ·have h6:=hpos ht;exact hcd.nth .undef undef _ _ 0 (by have:=hcd.length;omega)
      ·have:=hpos ht;omega
    ·simp at hr
   ·simp at hr
  ·simp at hr
theorem argV1_ok {w:World} {F:Nat→Prop} {loc:Where} {objs:List Obj} {a:A} {v:Value} (h:CA w F a v):CV loc objs w F (argV a) v:=by
 cases a with
 |ag cs=>exact h
 |c d=>
  cases d with
  |ptr cs=>
   replace h:CD w F (.ptr cs) v:=h;cases h with
   |ptr cs b o vs hF hc hd=>
    refine⟨b,o,cs.length,by simp,by simp,⟨fun e he=>by simp at he;rw[he],hF,fun j hj=>?_⟩⟩;have hj:j<cs.length:=by simpa using hj
    exact⟨vs j,hc j hj,by simpa using hd j hj⟩
  |_=>exact h
omit [Env] in
theorem argV_ref {objs:List Obj} (a:A):Ref objs (argV a):=by
 cases a with
 |c d=>cases d<;>trivial
 |ag cs=>trivial
theorem argV_ok {w:World} {F:Nat→Prop} {loc:Where} {objs:List Obj}:∀{args:List A} {vs:List Value},All2 (CA w F) args vs→All2 (CV loc objs w F) (args.map argV) vs
 |[],[],_=>trivial
 |_::_,_::_,h=>⟨argV1_ok h.1,argV_ok h.2⟩
 |[],_::_,h=>h.elim
 |_::_,[],h=>h.elim
omit [Env] in
theorem all2_app {α β:Type} {R:α→β→Prop}:∀{as as':List α} {bs bs':List β},All2 R as bs→All2 R as' bs'→All2 R (as++as') (bs++bs')
 |[],_,[],_,_,h'=>h'
 |_::_,_,_::_,_,h,h'=>⟨h.1,all2_app h.2 h'⟩
 |[],_,_::_,_,h,_=>h.elim
 |_::_,_,[],_,h,_=>h.elim
omit [Env] in
theorem all2_rep {α β:Type} {R:α→β→Prop} {a:α} {b:β} (h:R a b):∀n,All2 R (List.replicate n a) (List.replicate n b)
 |0=>trivial
 |n+1=>⟨h,all2_rep h n⟩
omit [Env] in
theorem nth_rep {α:Type} (d:α):∀(n i:Nat),nth d (List.replicate n d) i=d
 |0,_=>rfl
 |n+1,0=>rfl
 |n+1,i+1=>by simp only[List.replicate_succ,nth];exact nth_rep d n i
theorem init_has {n:Nat} {args:List A} {vs:List Value} {w:World} {F:Nat→Prop} (hb:∀b,F b→b<w.heap.size) (hinv:Inv C F w) (hargs:All2 (CA w F) args vs):
 St.has C ⟨w.heap.size,fun _=>False⟩ F w (initSt n args) {tmps:=vs.toArray++Array.replicate (n-vs.toArray.size) undef,defers:=[]} w:=by
 have hlen:=hargs.length;refine⟨F,⟨C.P,fun _=>none,fun _=>0⟩,⟨rfl,BelowX.refl _ _,Nat.le_refl _,rfl,?_,fun v hv=>?_,fun k=>?_,fun _ _ _ _ _ h=>by simp at h,fun _ _ _ h=>by simp at h,hb,fun b h=> .inl h,fun _ h=>h,hinv⟩⟩
 ·simp only[initSt,Array.toList_append,Array.toList_replicate,List.size_toArray];rw[hlen];exact all2_app (argV_ok hargs) (all2_rep trivial _)
 ·simp only[initSt,List.mem_append,List.mem_map,List.mem_replicate]at hv;rcases hv with⟨x,_,rfl⟩|⟨_,rfl⟩
  ·exact argV_ref x
  ·trivial
 ·simp only[initSt];rw[nth_rep];rfl
theorem res_fin {fn:Func} {w:World} {F:Nat→Prop} {s':St} {a':Act} {w':World} {res:List A} (hh:St.has C ⟨w.heap.size,fun _=>False⟩ F w s' a' w') (has:resD C s' fn.results.toList=some res):
 a'.defers=[]∧∃v,(results fn a'.tmps).run C.P w'= .ok v w'∧Below w.heap.size w w'∧∃u,Ending.returned v= .returned u∧CRes w' (fun b=>F b∨(w.heap.size≤b∧b<w'.heap.size)) res u:=by
 obtain⟨F',loc',hcc⟩:=hh;obtain⟨us,h1,h2⟩:=resD_ok hcc has;refine⟨hcc.defers,if h:us.toArray.size=1 then us.toArray[0]else .tuple us.toArray,?_,hcc.below.toBelow,_,rfl,?_⟩
 ·unfold results;rw[Array.mapM_eq_mapM_toList];simp only[Sem.run_bind,map_eq_pure_bind];have h5:∀g:ResultVar→Sem Value,g=getR a'.tmps→(fn.results.toList.mapM g).run C.P w'= .ok us w':=fun g hg=>by rw[hg];exact h1
  rw[h5 _ (by funext r;cases r<;>rfl)];rfl
 ·have hl:=h2.length;have h2:All2 (CA w' (fun b=>F b∨(w.heap.size≤b∧b<w'.heap.size))) res us:=h2.mono fun _ _ h=>h.mono (fun b hb=>hb.imp id fun hb=>⟨hb.1.elim id False.elim,hb.2⟩) fun _ _=>rfl
  match res,us,h2 with
  |[a],[u],h2=>exact h2.1
  |[],[],h2=>exact⟨#[],rfl,trivial⟩
  |a::b::r,u::v::s,h2=>exact⟨(u::v::s).toArray,by simp,h2⟩
theorem wpF_ok [EffOk C] {anns:Nat→Ann} {f:Nat} {fn:Func} {args res:List A} (hm:C.P.follows .mixedOrders=true) (hf:C.P.funcs[f]? =some fn) (h:wpF C (Gives C) anns fn args (fun r=>r=res)):Gives C f args res:=by
 intro w F vs hb hinv hargs;unfold wpF at h;split at h
 ·exact h.elim
 rename_i c hc;refine calls_of_wp hf hc ?_;refine Code.wp_mono (fun e a' w' hp=>?_) (wpC_ok hm c 0 _ _ _ _ h (init_has hb hinv hargs));obtain⟨x,s',hx,hq,_,hh⟩:=hp;have fin:∀as,resD C s' fn.results.toList=some as→as=res→_:=fun as has he=>res_fin (fn:=fn) hh (he▸has)
 cases x with
 |normal=>
  have hx:e= .normal:=hx;subst hx;simp only at hq;split at hq
  ·rename_i as has;exact fin as has hq
  ·exact hq.elim
 |ret=>
  have hx:e= .ret:=hx;subst hx;simp only at hq;split at hq
  ·rename_i as has;exact fin as has hq
  ·exact hq.elim
 |exit i=>exact hq.elim
end
end Eng
end

section
namespace Eng
open Go Go.RowKit
variable [Env]
def renK (d m k:Nat):Nat:=match Nat.beq k d with
 |true=>m
 |false=>k
def renV (d m:Nat):V→V
 | .box k off=> .box (renK d m k) off
 | .arr k=> .arr (renK d m k)
 | .elt k i off=> .elt (renK d m k) i off
 | .sub k off len=> .sub (renK d m k) off len
 | .arrAt _ _ _ _=> .any
 | .boxAt k g=> .boxAt (renK d m k) g
 | .tpo k as=> .tpo (renK d m k) as
 | .agv _=> .any
 | .vec k n=> .vec (renK d m k) n
 |v=>v
def renVs (d m:Nat):List V→List V
 |[]=>[]
 |v::r=>renV d m v::renVs d m r
def renO (d m:Nat):Obj→Obj
 | .box cells=> .box (renVs d m cells)
 | .bld T q=> .bld T (renV d m q)
 | .vec cells=> .vec (renVs d m cells)
 |o=>o
def renOs (d m:Nat):List Obj→List Obj
 |[]=>[]
 |v::r=>renO d m v::renOs d m r
def evict1 (d:Nat) (st:St):St:=
 match nth .none st.objs d with
 | .none=>st
 |o=>match Nat.blt d st.objs.length with
  |true=>⟨renVs d st.objs.length st.tmps,renOs d st.objs.length (upd st.objs d .none)++[renO d st.objs.length o],[]⟩
  |false=>st
def evict:List Nat→St→St
 |[],st=>st
 |d::r,st=>evict r (evict1 d st)
omit [Env] in
theorem renK_eq (d m k:Nat):renK d m k=if k=d then m else k:=by
 unfold renK;split
 ·rename_i h;rw[if_pos (Nat.eq_of_beq_eq_true h)]
 ·rename_i h;rw[if_neg fun e=>by subst e;simp at h]
omit [Env] in
theorem renVs_eq (d m:Nat):∀l,renVs d m l=l.map (renV d m)
 |[]=>rfl
 |v::r=>by simp only[renVs,List.map_cons];rw[renVs_eq d m r]
omit [Env] in
theorem renOs_eq (d m:Nat):∀l,renOs d m l=l.map (renO d m)
 |[]=>rfl
 |v::r=>by simp only[renOs,List.map_cons];rw[renOs_eq d m r]
omit [Env] in
theorem nth_map {α β:Type} (f:α→β) (d:α) (l:List α) (i:Nat):nth (f d) (l.map f) i=f (nth d l i):=by
 rw[nth_eq,nth_eq,List.getElem?_map];cases l[i]? <;>rfl
section
variable {C:Cx} {B:Bd} {F0:Nat→Prop} {w0:World} {F:Nat→Prop} {loc:Where} {st:St} {a:Act} {w:World}
omit [Env] in
theorem Ref.lt {objs:List Obj} {v:V} (h:Ref objs v):∀k∈keysV v,k<objs.length:=by
 intro k hk;cases v<;>simp only[keysV,List.mem_singleton,List.not_mem_nil]at hk<;>first|(subst hk;exact lt_of_nth h)|exact lt_of_nth (h k hk)
omit [Env] in
theorem Ref.ren {objs objs':List Obj} {d m:Nat} {v:V} (ho:∀k,k<objs.length→nth .none objs' (renK d m k)=renO d m (nth .none objs k)) (hr:Ref objs v):Ref objs' (renV d m v):=by
 have hn:∀{o:Obj},o≠ .none→renO d m o≠ .none:=fun{o} h=>by cases o<;>simp_all[renO]
 have key:∀k,nth .none objs k≠ .none→nth .none objs' (renK d m k)≠ .none:=fun k h e=>hn h ((ho k (lt_of_nth h)).symm.trans e)
 cases v<;>first|exact key _ hr|trivial
theorem CV.ren {loc':Where} {objs objs':List Obj} {d m:Nat} {v:V} {x:Value} (ho:∀k,k<objs.length→nth .none objs' (renK d m k)=renO d m (nth .none objs k)∧loc' (renK d m k)=loc k) (hr:Ref objs v) (h:CV loc objs w F v x):CV loc' objs' w F (renV d m v) x:=by
 have hl:=hr.lt;cases v with
 |box k off=>
  obtain⟨h1,h2⟩:=ho k (hl k (by simp[keysV]));intro o hc hbx;rw[h1]at hc;rw[h2];have hb:isBox (nth .none objs k)=true:=by rw[←hc]at hbx;revert hbx;cases nth .none objs k<;>simp[renO,isBox]
  exact h _ rfl hb
 |tpo k as=>obtain⟨h1,h2⟩:=ho k (hl k (by simp[keysV]));obtain⟨x,ys,rfl,h3,h4⟩:=h;refine⟨x,ys,rfl,fun s es fz hc=>?_,h4⟩;rw[h1]at hc;rw[h2];cases hk:nth .none objs k<;>rw[hk]at hc<;>simp only[renO,reduceCtorEq]at hc;exact h3 _ _ _ (hk.trans hc)
 |arr k=>obtain⟨h1,h2⟩:=ho k (hl k (by simp[keysV]));intro s es fz hc;rw[h1]at hc;rw[h2];cases hk:nth .none objs k<;>rw[hk]at hc<;>simp only[renO,reduceCtorEq]at hc;exact h _ _ _ (hk.trans hc)
 |elt k i off=>obtain⟨h1,h2⟩:=ho k (hl k (by simp[keysV]));intro s es fz hc;rw[h1]at hc;rw[h2];cases hk:nth .none objs k<;>rw[hk]at hc<;>simp only[renO,reduceCtorEq]at hc;exact h _ _ _ (hk.trans hc)
 |sub k off len=>obtain⟨h1,h2⟩:=ho k (hl k (by simp[keysV]));intro s es fz hc;rw[h1]at hc;rw[h2];cases hk:nth .none objs k<;>rw[hk]at hc<;>simp only[renO,reduceCtorEq]at hc;exact h _ _ _ (hk.trans hc)
 |arrAt k g c t=>trivial
 |agv cs=>trivial
 |boxAt k g=>
  obtain⟨h1,h2⟩:=ho k (hl k (by simp[keysV]));intro o hc hbx;rw[h1]at hc;rw[h2];have hb:isBox (nth .none objs k)=true:=by rw[←hc]at hbx;revert hbx;cases nth .none objs k<;>simp[renO,isBox]
  exact h _ rfl hb
 |vec k n=>
  obtain⟨h1,h2⟩:=ho k (hl k (by simp[keysV]));intro o hc hbx;rw[h1]at hc;rw[h2];have hb:isBox (nth .none objs k)=true:=by rw[←hc]at hbx;revert hbx;cases nth .none objs k<;>simp[renO,isBox]
  exact h _ rfl hb
 |_=>exact h
omit [Env] in
theorem all2_map_l {α β γ:Type} {R:α→β→Prop} {R':γ→β→Prop} {f:α→γ}:∀{as:List α} {bs:List β},(∀a∈as,∀b,R a b→R' (f a) b)→All2 R as bs→All2 R' (as.map f) bs
 |[],[],_,_=>trivial
 |a::as,b::bs,h,h'=>⟨h a (by simp) b h'.1,all2_map_l (fun c hc=>h c (by simp[hc])) h'.2⟩
 |[],_::_,_,h=>h.elim
 |_::_,[],_,h=>h.elim
set_option maxHeartbeats 1000000 in
theorem has_evict1 {d:Nat} (hh:St.has C B F0 w0 st a w):St.has C B F0 w0 (evict1 d st) a w:=by
 unfold evict1;split
 ·exact hh
 ·rename_i hne;split
  ·rename_i hd;rw[Nat.blt_eq]at hd;obtain⟨F,loc,h⟩:=hh;generalize hm:st.objs.length=m at *;generalize hobj:renOs d m (upd st.objs d .none)++[renO d m (nth .none st.objs d)]=objs'
   let loc':Where:=⟨loc.P,fun j=>if j=m then loc d else if j=d then none else loc j,fun j=>if j=m then loc.ty d else loc.ty j⟩
   have hlen:(renOs d m (upd st.objs d .none)).length=m:=by rw[renOs_eq,List.length_map,length_upd,hm]
   have hat:∀j,nth .none objs' j=if j=m then renO d m (nth .none st.objs d)else if j=d then .none else renO d m (nth .none st.objs j):=fun j=>by
    rw[←hobj];by_cases h1:j<m
    ·rw[if_neg (by omega),nth_eq,List.getElem?_append_left (by omega),←nth_eq,renOs_eq];have:=nth_map (renO d m) .none (upd st.objs d .none) j;have e:renO d m .none= .none:=rfl;rw[e]at this;rw[this,nth_upd];by_cases h2:j=d
     ·subst h2;rw[if_pos ⟨rfl,by omega⟩,if_pos rfl];rfl
     ·rw[if_neg fun e=>h2 e.1.symm,if_neg h2]
    ·by_cases h2:j=m
     ·subst h2;rw[if_pos rfl,nth_eq,List.getElem?_append_right (by omega)];simp[hlen]
     ·rw[if_neg h2,if_neg (by omega),nth_big _ (by simp[hlen];omega),nth_big _ (by omega)];rfl
   have ho:∀k,k<st.objs.length→nth .none objs' (renK d m k)=renO d m (nth .none st.objs k)∧loc' (renK d m k)=loc k:=fun k hk=>by
    rw[renK_eq,hat];by_cases hkd:k=d
    ·subst hkd;simp[loc']
    ·have:k≠m:=by omega
     simp[loc',hkd,this]
   have hlm:loc m=none:=by have:=h.objs m;rw[nth_big _ (by omega)]at this;exact this
   have hld:∀{k b c},loc k=some (b,c)→k<m:=fun{k b c} hk=>by
    rcases Nat.lt_or_ge k m with h'|h'
    ·exact h'
    ·have:=h.objs k;rw[nth_big _ (by omega)]at this;rw[this]at hk;simp at hk
   have htyk:∀i,i<m→loc'.ty (renK d m i)=loc.ty i:=fun i hi=>by
    rw[renK_eq];by_cases hid:i=d
    ·simp[hid,loc']
    ·have:i≠m:=by omega
     simp[hid,loc',this]
   have hco:∀(j k:Nat),loc' j=loc k→loc'.ty j=loc.ty k→CO loc st.objs w F k (nth .none st.objs k)→CO loc' objs' w F j (renO d m (nth .none st.objs k)):=by
    intro j k hl hty hc;cases hk:nth .none st.objs k with
    |none=>rw[hk]at hc;exact hl.trans hc
    |dead=>rw[hk]at hc;exact hl.trans hc
    |box cells=>
     rw[hk]at hc;obtain⟨b,c,cs,t,h1,h2,h3,h4,h5⟩:=hc;refine⟨b,c,cs,t,hl.trans h1,h2,h3,?_,?_⟩
     ·rw[renVs_eq];exact all2_map_l (fun v hv x hx=>⟨CV.ren ho (h5 v hv) hx.1,hx.2⟩) h4
     ·intro v hv;rw[renVs_eq]at hv;obtain⟨u,hu,rfl⟩:=List.mem_map.1 hv;exact(h5 u hu).ren fun k hk=>(ho k hk).1
    |vec cells=>
     rw[hk]at hc;obtain⟨b,c,cs,t,h1,h2,h3,h4,h5,h7,h8,h9⟩:=hc;have hcl:(renVs d m cells).length=cells.length:=by rw[renVs_eq,List.length_map]
     refine⟨b,c,cs,t,hl.trans h1,h2,h3,h4,by rw[hcl];exact h5,fun j hj=>?_,fun v hv=>?_,h9.1,by rw[hcl];exact h9.2⟩
     ·rw[hcl]at hj;obtain⟨x,q1,q2,q3⟩:=h7 j hj;refine⟨x,q1,?_,q3⟩;rw[renVs_eq,show(V.any:V)=renV d m .any from rfl,nth_map];exact CV.ren ho (h8 _ (mem_nth hj)) q2
     ·rw[renVs_eq]at hv;obtain⟨u,hu,rfl⟩:=List.mem_map.1 hv;exact(h8 u hu).ren fun k hk=>(ho k hk).1
    |bld T q=>
     rw[hk]at hc;obtain⟨b,c,p,v,h1,h2,h3,h4,h5,h6⟩:=hc;refine⟨b,c,p,v,hl.trans h1,h2,h3,h4,CV.ren ho h6.1 h5,h6.1.ren fun k hk=>(ho k hk).1,fun i hi=>?_⟩;cases q with
     |arr i'=>simp only[renV,V.arr.injEq]at hi;subst hi;have hlt:=Ref.lt h6.1 i' (by simp[keysV]);rw[htyk i' (by omega)];exact h6.2 i' rfl
     |_=>simp[renV]at hi
    |arr s es fz=>rw[hk]at hc;obtain⟨h1,h2,h3,h4⟩:=hc;refine⟨h1,h2,h3,?_⟩;rw[hl,hty];exact h4
   refine⟨F,loc',h.prog,h.below,h.hB,h.defers,?_,?_,fun j=>?_,?_,?_,h.bound,h.fsub,h.fsup,h.inv⟩
   ·show All2 _ (renVs d m st.tmps) _;rw[renVs_eq];exact all2_map_l (fun v hv x hx=>CV.ren ho (h.refs v hv) hx) h.tmps
   ·intro v hv;have hv:v∈renVs d m st.tmps:=hv;rw[renVs_eq]at hv;obtain⟨u,hu,rfl⟩:=List.mem_map.1 hv;exact(h.refs u hu).ren fun k hk=>(ho k hk).1
   ·show CO loc' objs' w F j (nth .none objs' j);rw[hat];split
    ·rename_i e;exact hco j d (by simp[loc',e]) (by simp[loc',e]) (h.objs d)
    ·split
     ·rename_i e1 e2;show loc' j=none;simp[loc',e2];omega
     ·rename_i e1 e2;exact hco j j (by simp[loc',e1,e2]) (by simp[loc',e1]) (h.objs j)
   ·intro j j' b c c' g1 g2;simp only[loc']at g1 g2;split at g1<;>split at g2
    ·rw[‹j=m›,‹j'=m›]
    ·split at g2
     ·simp at g2
     ·exact absurd (h.inj _ _ _ _ _ g1 g2).symm ‹_›
    ·split at g1
     ·simp at g1
     ·exact absurd (h.inj _ _ _ _ _ g1 g2) ‹_›
    ·split at g1
     ·simp at g1
     ·split at g2
      ·simp at g2
      ·exact h.inj _ _ _ _ _ g1 g2
   ·intro j b c g1;simp only[loc']at g1;split at g1
    ·exact h.fresh _ _ _ g1
    ·split at g1
     ·simp at g1
     ·exact h.fresh _ _ _ g1
  ·exact hh
theorem has_evict:∀(l:List Nat) {st:St},St.has C B F0 w0 st a w→St.has C B F0 w0 (evict l st) a w
 |[],_,h=>h
 |_::r,_,h=>has_evict r (has_evict1 h)
end
def frzV (k:Nat) (ds:List D):V→V
 | .box j off=>match Nat.beq j k with
  |true=> .eref [ds] 0 off
  |false=> .box j off
 | .boxAt j g=>match Nat.beq j k with
  |true=> .any
  |false=> .boxAt j g
 | .agv _=> .any
 |v=>v
def frzVs (k:Nat) (ds:List D):List V→List V
 |[]=>[]
 |v::r=>frzV k ds v::frzVs k ds r
def frzO (k:Nat) (ds:List D):Obj→Obj
 | .box cells=> .box (frzVs k ds cells)
 | .bld T q=> .bld T (frzV k ds q)
 | .vec cells=> .vec (frzVs k ds cells)
 |o=>o
def frzOs (k:Nat) (ds:List D):List Obj→List Obj
 |[]=>[]
 |v::r=>frzO k ds v::frzOs k ds r
def frz1 (k:Nat) (st:St):St:=
 match nth .none st.objs k with
 | .box cells=>match dataCells cells with
  |some ds=>⟨frzVs k ds st.tmps,upd (frzOs k ds st.objs) k .dead,[]⟩
  |none=>st
 |_=>st
omit [Env] in
theorem frzVs_eq (k:Nat) (ds:List D):∀l,frzVs k ds l=l.map (frzV k ds)
 |[]=>rfl
 |v::r=>by simp only[frzVs,List.map_cons];rw[frzVs_eq k ds r]
omit [Env] in
theorem frzOs_eq (k:Nat) (ds:List D):∀l,frzOs k ds l=l.map (frzO k ds)
 |[]=>rfl
 |v::r=>by simp only[frzOs,List.map_cons];rw[frzOs_eq k ds r]
section
variable {C:Cx} {B:Bd} {F0:Nat→Prop} {w0:World} {F:Nat→Prop} {loc:Where} {st:St} {a:Act} {w:World}
omit [Env] in
theorem all2_mem_l {α β:Type} {R:α→β→Prop}:∀{as:List α} {bs:List β},All2 R as bs→∀a∈as,∃b,R a b
 |a::as,b::bs,h,x,hx=>by
  rcases List.mem_cons.1 hx with rfl|hx
  ·exact⟨b,h.1⟩
  ·exact all2_mem_l h.2 x hx
theorem CV.frz {loc':Where} {objs objs':List Obj} {F':Nat→Prop} {k:Nat} {ds:List D} {cells:List V} {v:V} {x:Value} (hk:nth .none objs k= .box cells) (hF:∀b,F b→F' b) (hty:loc'.ty=loc.ty)
 (hn:∀j,nth .none objs' j=if j=k then .dead else frzO k ds (nth .none objs j)) (hl:∀j,j≠k→loc' j=loc j)
 (hp:∀b c,loc k=some (b,c)→Row w F' [ds] b 0 ds.length)
 (hr:Ref objs v) (h:CV loc objs w F v x):CV loc' objs' w F' (frzV k ds v) x∧Ref objs' (frzV k ds v):=by
 have hne:∀{o:Obj},o≠ .none→frzO k ds o≠ .none:=fun{o} h=>by cases o<;>simp_all[frzO]
 have hthere:∀j,nth .none objs j≠ .none→nth .none objs' j≠ .none:=fun j hj=>by
  rw[hn];split
  ·simp
  ·exact hne hj
 have hbox:∀o:Obj,isBox (frzO k ds o)=isBox o:=fun o=>by cases o<;>rfl
 have harr:∀j s es fz,nth .none objs' j= .arr s es fz→nth .none objs j= .arr s es fz∧loc' j=loc j:=fun j s es fz hj=>by
  rw[hn]at hj;split at hj
  ·simp at hj
  ·rename_i e;refine⟨?_,hl j e⟩;cases hj2:nth .none objs j<;>rw[hj2]at hj<;>simp only[frzO,reduceCtorEq]at hj;exact hj
 cases v with
 |box j off=>
  simp only[frzV];by_cases hjk:j=k
  ·subst hjk;rw[show Nat.beq j j=true from Nat.beq_refl j]
   dsimp only
   obtain⟨b,c,h1,rfl⟩:=h _ hk rfl;exact⟨⟨b,0,ds.length,by simp,by simp,hp b c h1⟩,trivial⟩
  ·rw[show Nat.beq j k=false from by rw[←Bool.not_eq_true,Nat.beq_eq];exact hjk];refine⟨fun o hc hb=>?_,hthere j hr⟩;rw[hn,if_neg hjk]at hc;have hb2:isBox (nth .none objs j)=true:=by rw[←hbox,hc];exact hb
   obtain⟨b,c,h1,h2⟩:=h _ rfl hb2;exact⟨b,c,by rw[hl j hjk];exact h1,h2⟩
 |boxAt j g=>
  simp only[frzV];by_cases hjk:j=k
  ·subst hjk;rw[show Nat.beq j j=true from Nat.beq_refl j];exact⟨trivial,trivial⟩
  ·rw[show Nat.beq j k=false from by rw[←Bool.not_eq_true,Nat.beq_eq];exact hjk];refine⟨fun o hc hb=>?_,hthere j hr⟩;rw[hn,if_neg hjk]at hc;have hb2:isBox (nth .none objs j)=true:=by rw[←hbox,hc];exact hb
   obtain⟨⟨c,h1⟩,h2⟩:=h _ rfl hb2;exact⟨⟨c,by rw[hl j hjk];exact h1⟩,h2⟩
 |vec j n=>
  refine⟨fun o hc hb=>?_,hthere j hr⟩;rw[hn]at hc;split at hc
  ·subst hc;simp[isBox]at hb
  ·rename_i hjk;obtain⟨b,c,h1,h2⟩:=h _ rfl (by rw[←hbox,hc];exact hb);exact⟨b,c,by rw[hl j hjk];exact h1,h2⟩
 |arr j=>refine⟨fun s es fz hc=>?_,hthere j hr⟩;obtain⟨h1,h2⟩:=harr j s es fz hc;rw[h2];exact h s es fz h1
 |elt j i off=>refine⟨fun s es fz hc=>?_,hthere j hr⟩;obtain⟨h1,h2⟩:=harr j s es fz hc;rw[h2];exact h s es fz h1
 |sub j off len=>refine⟨fun s es fz hc=>?_,hthere j hr⟩;obtain⟨h1,h2⟩:=harr j s es fz hc;rw[h2];exact h s es fz h1
 |arrAt j g c t=>refine⟨fun s es fz hc=>?_,hthere j hr⟩;obtain⟨h1,h2⟩:=harr j s es fz hc;rw[h2,hty];exact h s es fz h1
 |tpo j as=>obtain⟨y,ys,rfl,h3,h4⟩:=h;refine⟨⟨y,ys,rfl,fun s es fz hc=>?_,h4.mono fun _ _ h=>h.mono hF fun _ _=>rfl⟩,hthere j hr⟩;obtain⟨h1,h2⟩:=harr j s es fz hc;rw[h2];exact h3 s es fz h1
 |agv cs=>exact⟨trivial,trivial⟩
 |c d=>exact⟨CD.mono h hF fun _ _=>rfl,trivial⟩
 |ag cs=>obtain⟨vs,rfl,h⟩:=h;exact⟨⟨vs,rfl,h.mono fun _ _ h=>h.mono hF fun _ _=>rfl⟩,trivial⟩
 |tp as=>obtain⟨vs,rfl,h⟩:=h;exact⟨⟨vs,rfl,h.mono fun _ _ h=>h.mono hF fun _ _=>rfl⟩,trivial⟩
 |eref es i off=>obtain⟨b,o,size,h1,h2,h3⟩:=h;exact⟨⟨b,o,size,h1,h2,h3.mono hF fun _ _=>rfl⟩,trivial⟩
 |any=>exact⟨trivial,trivial⟩
 |no=>exact⟨h,trivial⟩
 |nilS=>exact⟨h,trivial⟩
 |gl g off=>exact⟨h,trivial⟩
 |fn f=>exact⟨h,trivial⟩
theorem has_frz1 {k:Nat} (hh:St.has C B F0 w0 st a w):St.has C B F0 w0 (frz1 k st) a w:=by
 unfold frz1;split
 ·rename_i cells hk;split
  ·rename_i ds hds;obtain⟨F,loc,h⟩:=hh;have hco:=h.objs k;rw[hk]at hco;obtain⟨b0,c0,cs,t,hl0,hnF,hblk,hall,hrefs⟩:=hco;have hlt:k<st.objs.length:=lt_of_nth (by rw[hk];simp)
   let F':Nat→Prop:=fun x=>F x∨x=b0
   have hF:∀b,F b→F' b:=fun b hb=> .inl hb
   let loc':Where:=⟨loc.P,fun j=>if j=k then none else loc j,loc.ty⟩
   have hl:∀j,j≠k→loc' j=loc j:=fun j hj=>by simp[loc',hj]
   have hn:∀j,nth .none (upd (frzOs k ds st.objs) k .dead) j=if j=k then .dead else frzO k ds (nth .none st.objs j):=fun j=>by
    rw[frzOs_eq];by_cases hj:k=j
    ·subst hj;rw[nth_upd_same _ _ _ (by rw[List.length_map];exact hlt),if_pos rfl]
    ·rw[nth_upd_ne _ _ _ hj,if_neg (Ne.symm hj)];exact nth_map (frzO k ds) .none st.objs j
   have hcd:All2 (CD w F) ds cs.toList:=dataCells_ok (loc:=loc) (objs:=st.objs) hds (hall.mono fun _ _ h=>h.1);have hlen:=hcd.length;have hp:∀b c,loc k=some (b,c)→Row w F' [ds] b 0 ds.length:=fun b c hb=>by
    rw[hl0]at hb;simp only[Option.some.injEq,Prod.mk.injEq]at hb;obtain⟨rfl,rfl⟩:=hb;refine⟨fun e he=>by simp only[List.mem_singleton]at he;rw[he],.inr rfl,fun j hj=>?_⟩;simp only[List.length_singleton,Nat.one_mul]at hj;refine⟨nth undef cs.toList j,?_,?_⟩
    ·rw[Nat.zero_add,cell_blk hblk,nth_of_lt _ (by omega)];simp at hlen;simp[show j<cs.size by omega]
    ·simp only[List.flatten_cons,List.flatten_nil,List.append_nil];exact(hcd.nth .undef undef _ _ j hj).mono hF fun _ _=>rfl
   have key:∀v x,Ref st.objs v→CV loc st.objs w F v x→CV loc' (upd (frzOs k ds st.objs) k .dead) w F' (frzV k ds v) x∧Ref (upd (frzOs k ds st.objs) k .dead) (frzV k ds v):=fun v x hr hv=>CV.frz (loc:=loc) (objs:=st.objs) hk hF rfl hn hl hp hr hv
   have hinv:∀j b c,j≠k→loc j=some (b,c)→b≠b0:=fun j b c hj hb e=>by subst e;exact hj (h.inj _ _ _ _ _ hb hl0)
   refine⟨F',loc',h.prog,h.below,h.hB,h.defers,?_,fun v hv=>?_,fun j=>?_,fun i j b c c' q1 q2=>?_,fun j b c q=>?_,fun b hb=>?_,fun b hb=>?_,fun b hb=>hF _ (h.fsup b hb),h.inv.mono hF fun _ _=>rfl⟩
   ·show All2 _ (frzVs k ds st.tmps) _;rw[frzVs_eq];exact all2_map_l (fun v hv x hx=>(key v x (h.refs v hv) hx).1) h.tmps
   ·have hv:v∈frzVs k ds st.tmps:=hv;rw[frzVs_eq]at hv;obtain⟨u,hu,rfl⟩:=List.mem_map.1 hv;obtain⟨x,hx⟩:=all2_mem_l h.tmps u hu;exact(key u x (h.refs u hu) hx).2
   ·show CO loc' _ w F' j (nth .none (upd (frzOs k ds st.objs) k .dead) j);rw[hn];split
    ·rename_i e;show loc' j=none;simp[loc',e]
    ·rename_i e;have hc:=h.objs j;cases hj:nth .none st.objs j with
     |none=>rw[hj]at hc;exact(hl j e).trans hc
     |dead=>rw[hj]at hc;exact(hl j e).trans hc
     |box cells2=>
      rw[hj]at hc;obtain⟨b,c,cs2,t2,h1,h2,h3,h4,h5⟩:=hc;refine⟨b,c,cs2,t2,(hl j e).trans h1,fun hb=>?_,h3,?_,fun v hv=>?_⟩
      ·rcases hb with hb|hb
       ·exact h2 hb
       ·exact hinv j b c e h1 hb
      ·show All2 (fun v x=>CV loc' (upd (frzOs k ds st.objs) k .dead) w F' v x∧x.oneCell'=true) (frzVs k ds cells2) cs2.toList;rw[frzVs_eq];exact all2_map_l (fun v hv x hx=>⟨(key v x (h5 v hv) hx.1).1,hx.2⟩) h4
      ·rw[frzVs_eq]at hv;obtain⟨u,hu,rfl⟩:=List.mem_map.1 hv;obtain⟨x,hx⟩:=all2_mem_l h4 u hu;exact(key u x (h5 u hu) hx.1).2
     |vec cells2=>
      rw[hj]at hc;obtain⟨b,c,cs2,t2,h1,h2,h3,h4,h5,h7,h8,h9⟩:=hc;have hcl:(frzVs k ds cells2).length=cells2.length:=by rw[frzVs_eq,List.length_map]
      have hkey:∀j,j<cells2.length→∃x,cs2[j]? =some x∧(CV loc' (upd (frzOs k ds st.objs) k .dead) w F' (frzV k ds (nth .any cells2 j)) x∧Ref (upd (frzOs k ds st.objs) k .dead) (frzV k ds (nth .any cells2 j)))∧x.oneCell'=true:=fun j hj=>by obtain⟨x,q1,q2,q3⟩:=h7 j hj;exact⟨x,q1,key _ x (h8 _ (mem_nth hj)) q2,q3⟩
      refine⟨b,c,cs2,t2,(hl j e).trans h1,fun hb=>?_,h3,h4,by rw[hcl];exact h5,fun i hi=>?_,fun v hv=>?_,h9.1,by rw[hcl];exact h9.2⟩
      ·rcases hb with hb|hb
       ·exact h2 hb
       ·exact hinv j b c e h1 hb
      ·rw[hcl]at hi;obtain⟨x,q1,q2,q3⟩:=hkey i hi;refine⟨x,q1,?_,q3⟩;rw[frzVs_eq k ds cells2,show(V.any:V)=frzV k ds .any from rfl,nth_map];exact q2.1
      ·rw[frzVs_eq]at hv;obtain⟨u,hu,rfl⟩:=List.mem_map.1 hv;obtain⟨i,hi,rfl⟩:=List.getElem_of_mem hu;obtain⟨x,_,q2,_⟩:=hkey i hi;rw[nth_of_lt _ hi]at q2;exact q2.2
     |bld T q=>
      rw[hj]at hc;obtain⟨b,c,p,v,h1,h2,h3,h4,h5,h6,h7⟩:=hc;have h8:=key q v h6 h5;refine⟨b,c,p,v,(hl j e).trans h1,fun hb=>?_,h3,h4,h8.1,h8.2,fun i hi=>?_⟩
      ·rcases hb with hb|hb
       ·exact h2 hb
       ·exact hinv j b c e h1 hb
      ·have:q= .arr i:=by
        cases q with
        |arr m=>exact hi
        |box m off=>simp only[frzV]at hi;split at hi<;>simp at hi
        |boxAt m g=>simp only[frzV]at hi;split at hi<;>simp at hi
        |_=>simp only[frzV,reduceCtorEq]at hi
       exact h7 i this
     |arr s es fz=>
      rw[hj]at hc;obtain⟨h1,h2,h3,h4⟩:=hc;refine⟨h1,h2,h3,?_⟩;rcases h4 with⟨q1,q2⟩|⟨b,c,cs2,t2,q1,q2,q3,q4,q5,q6,q7,q8⟩
      ·exact .inl ⟨(hl j e).trans q1,q2⟩
      ·refine .inr ⟨b,c,cs2,t2,(hl j e).trans q1,?_,q3,q4,q5,fun i hi=>?_,q7,q8⟩
       ·cases fz with
        |true=>exact hF _ q2
        |false=>
         intro hb;rcases hb with hb|hb
         ·exact q2 hb
         ·exact hinv j b c e q1 hb
       ·obtain⟨v,r1,r2⟩:=q6 i hi;exact⟨v,r1,r2.mono hF fun _ _=>rfl⟩
   ·have e1:i≠k:=fun e=>by simp[loc',e]at q1
    have e2:j≠k:=fun e=>by simp[loc',e]at q2
    rw[hl i e1]at q1;rw[hl j e2]at q2;exact h.inj _ _ _ _ _ q1 q2
   ·have e1:j≠k:=fun e=>by simp[loc',e]at q
    rw[hl j e1]at q;exact h.fresh _ _ _ q
   ·rcases hb with hb|hb
    ·exact h.bound b hb
    ·subst hb;exact(h.fresh _ _ _ hl0).2
   ·rcases hb with hb|hb
    ·exact h.fsub b hb
    ·subst hb;exact .inr (h.fresh _ _ _ hl0).1
  ·exact hh
 ·exact hh
end
end Eng
end

section
namespace Eng
open Go Go.RowKit
variable [Env]
def flatAll:List A→Bool
 |[]=>true
 |a::r=>flatA a&&flatAll r
omit [Env] in
theorem flatAll_ok {rs:List A} (h:flatAll rs=true):∀r∈rs,flatA r=true:=by
 induction rs with
 |nil=>intro r hr;simp at hr
 |cons a r ih=>
  simp only[flatAll,Bool.and_eq_true]at h;intro x hx;rcases List.mem_cons.1 hx with rfl|hx
  ·exact h.1
  ·exact ih h.2 x hx
def outB (K:Nat→List A→Option (List A)):R→Option (V×List (Nat×Obj))
 | .fail=>none
 | .ok v up=>some (v,up)
 | .cond (dc:=dc) _ v up=>match dc with
  | .isTrue _=>some (v,up)
  | .isFalse _=>none
 | .look z row off ag=>match Nat.ble (off+z.length) row.length with
  |true=>some (match ag with|true=> .ag (seg row off z.length)|false=> .c (nth .undef (seg row off z.length) 0),[])
  |false=>none
 | .call f as sh up=>match K f as with
  |some rs=>match hasSlice sh||flatAll rs with
   |true=>some (resV rs,up)
   |false=>none
  |none=>none
def stepB (K:Nat→List A→Option (List A)) (C:Cx) (ops:Array Oper) (o:Oper) (st:St):Option (V×List (Nat×Obj)):=
 match o.guard with
 |none=>outB K (opFn C o (ev st) st.objs)
 |some (j,want)=>match guardT ops j with
  |none=>none
  |some t=>match nth .any st.tmps t with
   | .c (.bool c)=>match c,want with
    |true,true=>outB K (opFn C o (ev st) st.objs)
    |false,false=>outB K (opFn C o (ev st) st.objs)
    |true,false=>some (.no,[])
    |false,true=>some (.no,[])
   | .no=>some (.no,[])
   |_=>none
def runL (K:Nat→List A→Option (List A)) (C:Cx) (ops:Array Oper):List Oper→St→Option St
 |[],st=>some st
 |o::r,st=>match stepB K C ops o st with
  |some (v,up)=>runL K C ops r (st.put o.dst v up)
  |none=>none
def runLR (K:Nat→List A→Option (List A)) (C:Cx) (ops:Array Oper):List Oper→St→List Rec→Option (St×List Rec)
 |[],st,rs=>some (st,rs)
 |o::r,st,rs=>match stepB K C ops o st with
  |some (v,up)=>runLR K C ops r (st.put o.dst v up) (rs++[(opk o (ev st) st.objs,keysUp up [])])
  |none=>none
def settle1 (k i:Nat) (st:St):St:=
 match nth .none st.objs k with
 | .box cells=>match nth .any cells i with
  | .arr j=>match nth .none st.objs j with
   | .arr s es _=>⟨st.tmps,upd (upd st.objs j (.arr s es true)) k (.box (upd cells i (.c (.sl es)))),st.dirty⟩
   |_=>st
  |_=>st
 |_=>st
def settleN (k:Nat):Nat→St→St
 |0,st=>st
 |n+1,st=>settleN k n (settle1 k n st)
def isArrV:V→Bool
 | .arr _=>true
 |_=>false
def settle (k:Nat) (st:St):St:=
 match nth .none st.objs k with
 | .box cells=>match cells.any isArrV with
  |true=>settleN k cells.length st
  |false=>st
 |_=>st
def settleM:List Operand→St→St
 |[],st=>st
 |x::r,st=>settleM r (match ev st x with
  | .box k 0=>frz1 k st
  |_=>st)
def settleO (C:Cx):List Oper→St→St
 |[],st=>st
 |o::r,st=>settleO C r (match o.op with
  | .load t x=>match tAgg C.P t&&!C.keep t o.dst with
   |true=>match ev st x with
    | .box k _=>settle k st
    |_=>st
   |false=>st
  | .makeFunc _ _ captured=>settleM captured.toList st
  |_=>st)
def clean (st:St):St:=⟨st.tmps,st.objs,[]⟩
def runR (K:Nat→List A→Option (List A)) (C:Cx) (ops:Array Oper) (draw:Bool) (st:St):Option St:=
 match draw with
 |false=>runL K C ops ops.toList st
 |true=>match regionOk C ops.toList with
  |true=>runL K C ops ops.toList st
  |false=>match runLR K C ops ops.toList st []with
   |some (s,rs)=>match regionOkR C ops.toList rs with
    |true=>some s
    |false=>none
   |none=>none
def dstsW (C:Cx):List Oper→List Nat
 |[]=>[]
 |o::r=>newL C o++dstsW C r
def runC (K:Nat→List A→Option (List A)) (C:Cx):Nat→Code→St→Option (X×St)
 |0,_,_=>none
 |n+1,c,st=>match c with
  | .skip=>some (.normal,st)
  | .region _ ops d=>match runR K C ops d (settleO C ops.toList (evict (dstsW C ops.toList) st))with
   |some s=>some (.normal,clean s)
   |none=>none
  | .seq a b=>match runC K C n a st with
   |some (.normal,s)=>runC K C n b s
   |r=>r
  | .cond c x y=>match ev st c with
   | .c (.bool true)=>runC K C n x st
   | .c (.bool false)=>runC K C n y st
   |_=>none
  | .block id c=>match runC K C n c st with
   |some (.exit i,s)=>match Nat.beq i id with
    |true=>some (.normal,s)
    |false=>some (.exit i,s)
   |r=>r
  | .exit id=>some (.exit id,st)
  | .ret=>some (.ret,st)
  | .loop body=>match runC K C n body st with
   |some (.normal,s)=>runC K C n (.loop body) s
   |r=>r
  |_=>none
def runF (tab:Nat→List A→Option (List A)) (C:Cx) (lim:Nat):Nat→Nat→List A→Option (List A)
 |0,_,_=>none
 |n+1,f,args=>match tab f args with
  |some rs=>some rs
  |none=>match C.P.funcs[f]? with
   |none=>none
   |some fn=>match fn.body with
    |none=>none
    |some c=>match runC (runF tab C lim n) C lim c (initSt fn.ntmps args)with
     |some (.normal,s)=>resD C s fn.results.toList
     |some (.ret,s)=>resD C s fn.results.toList
     |_=>none
section
variable {C:Cx} {B:Bd} {F0:Nat→Prop} {w0:World} {K:Nat→List A→Option (List A)}
theorem outB_ok (hK:∀f as rs,K f as=some rs→Gives C f as rs) {r:R} {v:V} {up:List (Nat×Obj)} (h:outB K r=some (v,up)):Out (Gives C) r v up:=by
 unfold outB at h;split at h
 ·simp at h
 ·simp only[Option.some.injEq,Prod.mk.injEq]at h;exact⟨h.1.symm,h.2.symm⟩
 ·split at h
  ·simp only[Option.some.injEq,Prod.mk.injEq]at h;exact⟨by assumption,h.1.symm,h.2.symm⟩
  ·simp at h
 ·split at h
  ·rename_i hle;simp only[Option.some.injEq,Prod.mk.injEq]at h;exact⟨_,⟨rfl,Nat.le_of_ble_eq_true hle⟩,h.1.symm,h.2.symm⟩
  ·simp at h
 ·split at h
  ·rename_i rs hrs;split at h
   ·rename_i hf;simp only[Option.some.injEq,Prod.mk.injEq]at h;refine⟨rs,hK _ _ _ hrs,fun hs=>flatAll_ok ?_,h.1.symm,h.2.symm⟩
    simpa [hs]using hf
   ·simp at h
  ·simp at h
theorem stepB_ok (hK:∀f as rs,K f as=some rs→Gives C f as rs) {ops:Array Oper} {o:Oper} {st:St} {v:V} {up:List (Nat×Obj)} (h:stepB K C ops o st=some (v,up)):Stp C (Gives C) ops o st v up:=by
 unfold stepB at h;split at h
 ·rename_i hg;exact⟨true,by unfold Wants;rw[hg],by rw[if_pos rfl];exact outB_ok hK h⟩
 ·rename_i j want hg;split at h
  ·simp at h
  ·rename_i t ht;split at h
   ·rename_i c hc;have hw:∀b,b=(c==want)→Wants ops o st.tmps b:=fun b hb=>by unfold Wants;rw[hg];exact⟨t,ht,.inl ⟨c,hc,hb⟩⟩
    split at h
    ·exact⟨true,hw _ rfl,by rw[if_pos rfl];exact outB_ok hK h⟩
    ·exact⟨true,hw _ rfl,by rw[if_pos rfl];exact outB_ok hK h⟩
    ·simp only[Option.some.injEq,Prod.mk.injEq]at h;exact⟨false,hw _ rfl,by rw[if_neg (by simp)];exact⟨h.1.symm,h.2.symm⟩⟩
    ·simp only[Option.some.injEq,Prod.mk.injEq]at h;exact⟨false,hw _ rfl,by rw[if_neg (by simp)];exact⟨h.1.symm,h.2.symm⟩⟩
   ·rename_i hd;simp only[Option.some.injEq,Prod.mk.injEq]at h;exact⟨false,by unfold Wants;rw[hg];exact⟨t,ht,.inr ⟨hd,rfl⟩⟩,by rw[if_neg (by simp)];exact⟨h.1.symm,h.2.symm⟩⟩
   ·simp at h
theorem runL_tr (hK:∀f as rs,K f as=some rs→Gives C f as rs) {ops:Array Oper}:∀(l:List Oper) (k:Nat) (s s':St),(∀j,l[j]? =ops[k+j]?)→runL K C ops l s=some s'→∃rc,Tr C (Gives C) ops rc (List.range' k l.length) s s'
 |[],_,s,s',_,h=>by simp only[runL,Option.some.injEq]at h;subst h;exact⟨fun _=>([],[]),rfl,rfl⟩
 |o::l,k,s,s',hk,h=>by
  have h0:ops[k]? =some o:=by simpa using(hk 0).symm
  simp only[runL]at h;split at h
  ·rename_i v up hs;obtain⟨rc,h3⟩:=runL_tr hK l (k+1) _ _ (fun j=>by have:=hk (j+1);simpa [Nat.add_assoc,Nat.add_comm 1 j]using this) h;refine⟨fun i=>if i=k then(opk o (ev s) s.objs,up.map (·.1))else rc i,?_⟩;rw[List.length_cons,List.range'_succ];refine⟨o,h0,v,up,stepB_ok hK hs,?_,h3.recs fun i hi=>?_⟩
   ·simp only[if_pos];exact⟨fun _ _ h=>h,fun p hp=>List.mem_map.2 ⟨p,hp,rfl⟩⟩
   ·have:=(List.mem_range'_1.1 hi).1;rw[if_neg (by omega)]
  ·simp at h
theorem runLR_tr (hK:∀f as rs,K f as=some rs→Gives C f as rs) {ops:Array Oper}:∀(l:List Oper) (k:Nat) (s s':St) (acc R:List Rec),(∀j,l[j]? =ops[k+j]?)→acc.length=k→runLR K C ops l s acc=some (s',R)→
 Tr C (Gives C) ops (fun i=>nth ([],[]) R i) (List.range' k l.length) s s'∧∃R',R=acc++R'
 |[],_,s,s',acc,R,_,_,h=>by simp only[runLR,Option.some.injEq,Prod.mk.injEq]at h;obtain⟨rfl,rfl⟩:=h;exact⟨⟨rfl,rfl⟩,[],by simp⟩
 |o::l,k,s,s',acc,R,hk,hacc,h=>by
  have h0:ops[k]? =some o:=by simpa using(hk 0).symm
  simp only[runLR]at h;split at h
  ·rename_i v up hs;obtain⟨h3,R',hR⟩:=runLR_tr hK l (k+1) _ _ _ _ (fun j=>by have:=hk (j+1);simpa [Nat.add_assoc,Nat.add_comm 1 j]using this) (by simp[hacc]) h;refine⟨?_,(opk o (ev s) s.objs,keysUp up [])::R',by rw[hR];simp⟩;rw[List.length_cons,List.range'_succ];refine⟨o,h0,v,up,stepB_ok hK hs,?_,h3⟩;have e:nth ([],[]) R k=(opk o (ev s) s.objs,keysUp up []):=by rw[hR,List.append_assoc];have:=nth_app ([],[]) acc ((opk o (ev s) s.objs,keysUp up [])::R') 0;rw[Nat.add_zero,hacc]at this;exact this
   simp only;rw[e];exact⟨fun _ _ h=>h,fun p hp=>keysUp_ok.2 (.inr ⟨p,hp,rfl⟩)⟩
  ·simp at h
theorem has_settle1 {k i:Nat} {st:St} {a:Act} {w:World} (hh:St.has C B F0 w0 st a w):St.has C B F0 w0 (settle1 k i st) a w:=by
 unfold settle1;split
 ·rename_i cells hk;split
  ·rename_i j hi;split
   ·rename_i s es fz hj;obtain⟨F,loc,h⟩:=hh;have hkj:k≠j:=by intro e;subst e;rw[hk]at hj;cases hj
    have h1:=h.freeze1 hj;generalize hF':(fun b=>F b∨∃c,loc j=some (b,c))=F' at h1;have hFF:∀b,F b→F' b:=fun b hb=>by rw[←hF'];exact .inl hb
    have hFj:∀b c,loc j=some (b,c)→F' b:=fun b c hb=>by rw[←hF'];exact .inr ⟨c,hb⟩
    refine⟨F',loc,?_⟩;have hlt:k<st.objs.length:=by
     rcases Nat.lt_or_ge k st.objs.length with h|h
     ·exact h
     ·rw[nth_big _ h]at hk;simp at hk
    have hk1:nth .none (upd st.objs j (.arr s es true)) k= .box cells:=by rw[nth_upd_ne _ _ _ (Ne.symm hkj)];exact hk
    have hlt1:k<(upd st.objs j (.arr s es true)).length:=by rw[length_upd];exact hlt
    have hle:Le (upd st.objs j (.arr s es true)) (upd (upd st.objs j (.arr s es true)) k (.box (upd cells i (.c (.sl es))))) loc loc:=by
     refine⟨rfl,fun _ _=>rfl,fun j hj=>?_,fun j o' hj hc hbx=>?_,fun j s' es' fz' hj hc=>?_⟩
     ·rw[nth_upd];split
      ·simp
      ·exact hj
     ·rw[nth_upd]at hc;split at hc
      ·rename_i e;rw[←e.1];exact⟨by rw[hk1];rfl,rfl⟩
      ·exact⟨by rw[hc];exact hbx,rfl⟩
     ·rw[nth_upd]at hc;split at hc
      ·simp at hc
      ·exact⟨⟨_,_,hc,rfl⟩,rfl⟩
    refine h1.relocate hle (fun m=>?_) h1.inj h1.fresh;by_cases hm:k=m
    ·subst hm;rw[nth_upd_same _ _ _ hlt1];have h0:=h1.objs k;simp only at h0;rw[hk1]at h0;obtain⟨b,c,cs,t,q1,q2,q3,q4,q5⟩:=h0;have hi0:i<cells.length:=by
      rcases Nat.lt_or_ge i cells.length with h|h
      ·exact h
      ·rw[nth_big _ h]at hi;simp at hi
     have hcl:=q4.length;have hx:=All2.nth .any undef cells cs.toList i q4 hi0;rw[hi]at hx;have h0j:=h1.objs j;simp only at h0j;have hjlt:j<st.objs.length:=by
      rcases Nat.lt_or_ge j st.objs.length with h|h
      ·exact h
      ·rw[nth_big _ h]at hj;simp at hj
     have hj1:nth .none (upd st.objs j (.arr s es true)) j= .arr s es true:=nth_upd_same _ _ _ hjlt;rw[hj1]at h0j;have hcd:=arr_CD (F':=F') hj1 h0j hx.1 (fun _ h=>h) hFj;refine⟨b,c,cs,t,q1,q2,q3,?_,fun v hv=>?_⟩
     ·have h6:All2 (fun v x=>CV loc (upd (upd st.objs j (.arr s es true)) k (.box (upd cells i (.c (.sl es))))) w F' v x∧x.oneCell'=true) cells cs.toList:=
       q4.mono_mem fun v hv x hx=>⟨CV.le (fun _ h=>h) (fun _ _=>rfl) hle (q5 v hv) hx.1,hx.2⟩
      have h7:=All2.upd (i:=i) (a:=V.c (.sl es)) (b:=nth undef cs.toList i) ⟨hcd,hx.2⟩ h6;have h8:upd cs.toList i (nth undef cs.toList i)=cs.toList:=by rw[upd_eq,nth_of_lt _ (by omega)];exact List.set_getElem_self _
      rw[h8]at h7;exact h7
     ·rcases mem_upd hv with hv|rfl
      ·exact(q5 v hv).le hle
      ·trivial
    ·rw[nth_upd_ne _ _ _ hm];exact CO.le (fun _ h=>h) (fun _ _=>rfl) hle rfl rfl (fun _ _ _=>⟨rfl,fun h=>h⟩) (h1.objs m)
   ·exact hh
  ·exact hh
 ·exact hh
theorem has_settleN {k:Nat} {a:Act} {w:World}:∀(n:Nat) {st:St},St.has C B F0 w0 st a w→St.has C B F0 w0 (settleN k n st) a w
 |0,_,h=>h
 |n+1,_,h=>has_settleN n (has_settle1 h)
theorem has_settle {k:Nat} {st:St} {a:Act} {w:World} (hh:St.has C B F0 w0 st a w):St.has C B F0 w0 (settle k st) a w:=by
 unfold settle;split
 ·split
  ·exact has_settleN _ hh
  ·exact hh
 ·exact hh
theorem has_settleM {a:Act} {w:World}:∀(l:List Operand) {st:St},St.has C B F0 w0 st a w→St.has C B F0 w0 (settleM l st) a w
 |[],_,h=>h
 |x::l,st,h=>by
  refine has_settleM l ?_;split
  ·exact has_frz1 h
  ·exact h
theorem has_settleO {a:Act} {w:World}:∀(l:List Oper) {st:St},St.has C B F0 w0 st a w→St.has C B F0 w0 (settleO C l st) a w
 |[],_,h=>h
 |o::l,st,h=>by
  refine has_settleO l ?_;split
  ·split
   ·split
    ·exact has_settle h
    ·exact h
   ·exact h
  ·exact has_settleM _ h
  ·exact h
def Ends (C:Cx) (B:Bd) (F0:Nat→Prop) (w0:World) (x:X) (s':St) (e:Exit) (a:Act) (w:World):Prop:=XM x e∧St.has C B F0 w0 s' a w
theorem runR_ok [EffOk C] (hm:C.P.follows .mixedOrders=true) (hK:∀f as rs,K f as=some rs→Gives C f as rs) {id:Nat} {ops:Array Oper} {d:Bool} {s s':St} {a:Act} {w:World} (h:runR K C ops d s=some s') (hh:St.has C B F0 w0 s a w):
 (Code.region id ops d).wp C.P (Ends C B F0 w0 .normal s') a w:=by
 have hq:∀a w,St.has C B F0 w0 s' a w→Ends C B F0 w0 .normal s' .normal a w:=fun a w h=>⟨rfl,h⟩
 have seqr:runL K C ops ops.toList s=some s'→(d=true→regionOk C ops.toList=true)→(Code.region id ops d).wp C.P (Ends C B F0 w0 .normal s') a w:=fun h hr=>by obtain⟨rc,ht⟩:=runL_tr hK ops.toList 0 s s' (by simp) h;rw[Array.length_toList,←List.range_eq_range']at ht;exact region_ok hm (fun hd=>regionOk_ok rc (hr hd)) ht hh hq
 unfold runR at h;split at h
 ·exact seqr h (by simp)
 ·split at h
  ·rename_i hr;exact seqr h fun _=>hr
  ·split at h
   ·rename_i s1 rs hrun;split at h
    ·rename_i hr;simp only[Option.some.injEq]at h;subst h;obtain⟨ht,_⟩:=runLR_tr hK ops.toList 0 s s1 [] rs (by simp) rfl hrun;rw[Array.length_toList,←List.range_eq_range']at ht;exact region_ok hm (fun _=>regionOkR_ok hr) ht hh hq
    ·simp at h
   ·simp at h
theorem runC_ok [EffOk C] (hm:C.P.follows .mixedOrders=true) (hK:∀f as rs,K f as=some rs→Gives C f as rs):∀(n:Nat) (c:Code) (s s':St) (x:X) (a:Act) (w:World),runC K C n c s=some (x,s')→St.has C B F0 w0 s a w→c.wp C.P (Ends C B F0 w0 x s') a w:=by
 intro n
 induction n using Nat.strongRecOn with
 |_ n ih=>
  intro c s s' x a w h hh;cases n with
  |zero=>simp[runC]at h
  |succ n=>
   cases c with
   |skip=>simp only[runC,Option.some.injEq,Prod.mk.injEq]at h;obtain⟨rfl,rfl⟩:=h;exact wp_skip ⟨rfl,hh⟩
   |region id ops d=>
    simp only[runC]at h;split at h
    ·rename_i s1 h1;simp only[Option.some.injEq,Prod.mk.injEq]at h;obtain⟨rfl,rfl⟩:=h;have h3:=runR_ok (id:=id) hm hK h1 (has_settleO _ (has_evict _ hh));refine Code.wp_mono (fun e a w q=>?_) h3;obtain⟨q1,q2⟩:=q;exact⟨q1,has_same q2 rfl rfl⟩
    ·simp at h
   |seq p q=>
    simp only[runC]at h;split at h
    ·rename_i s1 h1;refine wp_seq (Code.wp_mono (fun e a' w' hp=>?_) (ih n (by omega) p s s1 .normal a w h1 hh));obtain⟨he,hh'⟩:=hp;have he:e= .normal:=he;subst he;exact ih n (by omega) q s1 s' x a' w' h hh'
    ·rename_i hne;refine wp_seq (Code.wp_mono (fun e a' w' hp=>?_) (ih n (by omega) p s s' x a w h hh));obtain⟨he,hh'⟩:=hp;cases x with
     |normal=>exact absurd h (hne s')
     |exit i=>have he:e= .exit i:=he;subst he;exact⟨rfl,hh'⟩
     |ret=>have he:e= .ret:=he;subst he;exact⟨rfl,hh'⟩
   |cond cd p q=>
    simp only[runC]at h;have hb:∀b,ev s cd= .c (.bool b)→a.eval cd= .bool b:=fun b hb=>by obtain⟨F,loc,hc⟩:=hh;have he:=(ev_ok hc cd).1;rw[hb]at he;exact(fun(x:Value) (hx:CD w F (.bool b) x)=>(by cases hx;rfl:x= .bool b)) _ he
    split at h
    ·rename_i hc;exact wp_cond (hb _ hc) (by rw[if_pos rfl];exact ih n (by omega) p s s' x a w h hh)
    ·rename_i hc;exact wp_cond (hb _ hc) (by rw[if_neg (by simp)];exact ih n (by omega) q s s' x a w h hh)
    ·simp at h
   |block id p=>
    simp only[runC]at h;split at h
    ·rename_i i s1 h1;refine wp_block (Code.wp_mono (fun e a' w' hp=>?_) (ih n (by omega) p s s1 _ a w h1 hh));obtain⟨he,hh'⟩:=hp;have he:e= .exit i:=he;subst he;unfold Exit.inBlock;split at h
     ·rename_i hi;simp only[Option.some.injEq,Prod.mk.injEq]at h;obtain⟨rfl,rfl⟩:=h;have:=Nat.eq_of_beq_eq_true hi;simp only[this,if_true];exact⟨rfl,hh'⟩
     ·rename_i hi;simp only[Option.some.injEq,Prod.mk.injEq]at h;obtain⟨rfl,rfl⟩:=h;have:i≠id:=fun e=>by subst e;simp at hi
      simp only[this,if_false];exact⟨rfl,hh'⟩
    ·rename_i hne;refine wp_block (Code.wp_mono (fun e a' w' hp=>?_) (ih n (by omega) p s s' x a w h hh));obtain⟨he,hh'⟩:=hp;cases x with
     |normal=>have he:e= .normal:=he;subst he;exact⟨rfl,hh'⟩
     |exit i=>exact absurd h (hne i s')
     |ret=>have he:e= .ret:=he;subst he;exact⟨rfl,hh'⟩
   |exit id=>simp only[runC,Option.some.injEq,Prod.mk.injEq]at h;obtain⟨rfl,rfl⟩:=h;exact wp_exit ⟨rfl,hh⟩
   |ret=>simp only[runC,Option.some.injEq,Prod.mk.injEq]at h;obtain⟨rfl,rfl⟩:=h;exact wp_ret ⟨rfl,hh⟩
   |loop body=>
    let p:Act→World→Nat→Prop:=fun a w k=>k≤n+1∧∃s,runC K C k (.loop body) s=some (x,s')∧St.has C B F0 w0 s a w
    refine wp_loop (fun a w=>∃k,p a w k) (fun a w=>leastOf (p a w)) ⟨n+1,Nat.le_refl _,s,h,hh⟩ fun a1 w1 h1=>?_
    obtain⟨hle,s1,hr,hs⟩:=leastOf_ok h1;generalize hk:leastOf (p a1 w1)=k at *;cases k with
    |zero=>simp[runC]at hr
    |succ k=>
     simp only[runC]at hr;split at hr
     ·rename_i s2 hb;refine Code.wp_mono (fun e a' w' hp=>?_) (ih k (by omega) body s1 s2 .normal a1 w1 hb hs);obtain⟨he,hh'⟩:=hp;have he:e= .normal:=he;subst he;have hnew:p a' w' k:=⟨by omega,s2,hr,hh'⟩;refine⟨⟨_,hnew⟩,?_⟩;have:=leastOf_le hnew;show leastOf (p a' w')<k+1;omega
     ·rename_i hne;refine Code.wp_mono (fun e a' w' hp=>?_) (ih k (by omega) body s1 s' x a1 w1 hr hs);obtain⟨he,hh'⟩:=hp;cases x with
      |normal=>exact absurd hr (hne s')
      |exit i=>have he:e= .exit i:=he;subst he;exact⟨rfl,hh'⟩
      |ret=>have he:e= .ret:=he;subst he;exact⟨rfl,hh'⟩
   |_=>simp[runC]at h
theorem runF_ok [EffOk C] {tab:Nat→List A→Option (List A)} {lim:Nat} (hm:C.P.follows .mixedOrders=true) (htab:∀f as rs,tab f as=some rs→Gives C f as rs):∀(n f:Nat) (args res:List A),runF tab C lim n f args=some res→Gives C f args res:=by
 intro n
 induction n with
 |zero=>intro f args res h;simp[runF]at h
 |succ n ih=>
  intro f args res h;simp only[runF]at h;split at h
  ·rename_i rs hrs;simp only[Option.some.injEq]at h;subst h;exact htab _ _ _ hrs
  ·split at h
   ·simp at h
   rename_i fn hf;split at h
   ·simp at h
   rename_i c hc;have key:∀(x:X) (s:St),(x= .normal∨x= .ret)→runC (runF tab C lim n) C lim c (initSt fn.ntmps args)=some (x,s)→resD C s fn.results.toList=some res→Gives C f args res:=by
    intro x s hx hr hres w F vs hb hinv hargs;refine calls_of_wp hf hc (Code.wp_mono (fun e a' w' hp=>?_) (runC_ok hm (fun f as rs h=>ih f as rs h) lim c _ s x _ w hr (init_has hb hinv hargs)));obtain⟨he,hh⟩:=hp;have fin:=res_fin (fn:=fn) hh hres;rcases hx with rfl|rfl
    ·have he:e= .normal:=he;subst he;exact fin
    ·have he:e= .ret:=he;subst he;exact fin
   split at h
   ·rename_i s hr;exact key _ _ (.inl rfl) hr h
   ·rename_i s hr;exact key _ _ (.inr rfl) hr h
   ·simp at h
end
end Eng
end

section
namespace Eng
open Go Go.RowKit
variable [Env]
def Buf (e:TypeId) (w:World) (b:Nat):Option (Nat×Nat)→Value→List Value→Prop
 |none,v,bs=>v= .slice none 0 0∧bs=[]
 |some (g,c),v,bs=>v= .slice (some ⟨g,0,none⟩) bs.length c∧g≠b∧g<w.heap.size∧(bs.length≤c∧c≤9223372036854775807)∧∃(cs:Array Value) (t:TypeId),w.heap[g]? =some (.cells cs t (0,0))∧cs.size=c∧(∀(j:Nat) (u:Value),bs[j]? =some u→cs[j]? =some u)∧t=e
structure Keeps (w w':World) (out:Nat→Prop):Prop where
 below:Below 0 w w'
 block:∀k,k<w.heap.size→¬out k→w'.heap[k]? =w.heap[k]?
def hasBlk (own:Option (Nat×Nat)) (k:Nat):Prop:=∃c,own=some (k,c)
omit [Env] in
theorem Keeps.refl (w:World) (out:Nat→Prop):Keeps w w out:=⟨Below.refl _ _,fun _ _ _=>rfl⟩
omit [Env] in
theorem append_buf {P:Program} {t tx e ty:TypeId} {inf:TypeInfo} {z:Value} (ht:P.underlying t=some (.slice e)) (hi:P.info? e=some inf) (hz:inf.zero=some z) (h1:inf.size=1) (hzc:z.cells.size=1) (hby:inf.bytes=1)
 {w:World} {b:Nat} {own:Option (Nat×Nat)} {v x:Value} {bs news:List Value} {n:Nat} (hb:Buf e w b own v bs) (hbw:b<w.heap.size) (hs:Src P 1 tx x n news w) (hroom:bs.length+n≤1073741824):
 ∃v' w' own',(Builtin.append_ #[t,tx] ty #[v,x]).run P w= .ok v' w'∧Buf e w' b own' v' (bs++news)∧Keeps w w' (hasBlk own)∧(∀g,hasBlk own' g→hasBlk own g∨w.heap.size≤g):=by
 have hnl:news.length=n:=by rw[hs.newsLen,Nat.mul_one]
 have hgrow:∀(base:Option Addr) (sCap:Nat),sCap<bs.length+n→(Builtin.firstCells inf.size bs.length (.slice base bs.length sCap)).run P w.drew= .ok bs.toArray w.drew→
  ∃v' w' own',(Builtin.append_ #[t,tx] ty #[.slice base bs.length sCap,x]).run P w= .ok v' w'∧Buf e w' b own' v' (bs++news)∧Keeps w w' (hasBlk own)∧(∀g,hasBlk own' g→hasBlk own g∨w.heap.size≤g):=by
  intro base sCap hlt hold;have hnc:Builtin.nextslicecap (bs.length+n) sCap*inf.bytes≤281474976710656:=by have:=nextslicecap_le (need:=bs.length+n) (old:=sCap) hlt;rw[hby];omega
  have hr:=run_append_grow_src (P:=P) w t tx ty e inf z ht hi hz base bs.length sCap bs hold x n news (by rw[h1];exact hs) hlt (by omega) hnc;have hge:=grownCap_ge w (bs.length+n) sCap e;refine⟨_,_,some (w.heap.size,grownCap w (bs.length+n) sCap e),hr,⟨by rw[List.length_append,hnl],by omega,by rw[World.size_alloc];show w.heap.size<w.heap.size+1;omega,by rw[List.length_append,hnl];exact⟨hge,Nat.le_trans (grownCap_le_maxLen w _ sCap e (by simp only[maxLen];omega)) (by simp[maxLen])⟩,_,_,by show(w.heap.push _)[w.heap.size]? =_;exact Array.getElem?_push_size,?_,fun j u hj=>?_,rfl⟩,⟨?_,fun k hk _=>?_⟩,fun g hg=>?_⟩
  ·rw[Array.size_append,size_zeroCells,hzc,List.size_toArray,List.length_append,hnl];omega
  ·have hlt:j<(bs++news).length:=(List.getElem?_eq_some_iff.1 hj).1;rw[Array.getElem?_append_left (by rw[List.size_toArray];exact hlt),List.getElem?_toArray];exact hj
  ·refine⟨rfl,?_,rfl,by rw[World.size_alloc];show w.heap.size≤w.heap.size+1;omega,fun k hk=>by omega⟩;rfl
  ·show(w.heap.push _)[k]? =_;rw[Array.getElem?_push_lt hk,Array.getElem?_eq_getElem hk]
  ·obtain⟨c,hc⟩:=hg;simp only[Option.some.injEq,Prod.mk.injEq]at hc;exact .inr (by omega)
 cases own with
 |none=>
  obtain⟨rfl,rfl⟩:=hb;by_cases hn:n=0
  ·subst hn;have hnews:news=[]:=List.eq_nil_of_length_eq_zero hnl;subst hnews;refine⟨.slice none 0 0,w,none,?_,⟨rfl,rfl⟩,Keeps.refl _ _,fun g hg=>by obtain⟨c,hc⟩:=hg;simp at hc⟩;have hc:=hs.cells;rcases hs.kind with⟨e',hk⟩|hk<;>simp[Builtin.append_,run_underlying ht,run_underlying hk,Go.sizeOf,typeInfo,hi,h1,hs.len,hc]
  ·exact hgrow none 0 (by simp;omega) (by rw[h1];exact run_firstCells_none (P:=P) w.drew 1 0 0 0)
 |some gc=>
  obtain⟨g,c⟩:=gc;obtain⟨rfl,hne,hg,hlc,cs,tt,hblk,hcs,hcells,htt⟩:=hb;by_cases hfit:bs.length+n≤c
  ·have hst:=run_storeCells_blk (P:=P) (o:=bs.length*1) news 0 w cs hblk (by rw[hnl,Nat.mul_one];omega) hs.one;simp only[Nat.add_zero]at hst;have hr:(Builtin.append_ #[t,tx] ty #[.slice (some ⟨g,0,none⟩) bs.length c,x]).run P w= .ok (.slice (some ⟨g,0,none⟩) (bs.length+n) c) (setBlk w g (.cells (updsL cs.toList (bs.length*1) news).toArray tt (0,0))):=by rcases hs.kind with⟨e',hk⟩|hk<;>simp only[Nat.mul_one]at hst<;>simp[Builtin.append_,run_underlying ht,run_underlying hk,Go.sizeOf,typeInfo,hi,h1,hs.len,hs.cells,hfit,addr_add,hst]
   have hlu:(updsL cs.toList (bs.length*1) news).length=cs.size:=by rw[length_updsL];simp
   refine⟨_,_,some (g,c),hr,⟨by rw[List.length_append,hnl],hne,by rw[setBlk_size];exact hg,by rw[List.length_append,hnl];exact⟨hfit,hlc.2⟩,_,tt,setBlk_at hg,by rw[List.size_toArray,hlu,hcs],fun j u hj=>?_,htt⟩,⟨⟨rfl,rfl,rfl,by rw[setBlk_size];omega,fun k hk=>by omega⟩,fun k hk hn=>setBlk_ne fun e=>hn ⟨c,by rw[e]⟩⟩,fun g' hg'=> .inl hg'⟩;have hjl:j<(bs++news).length:=(List.getElem?_eq_some_iff.1 hj).1;rw[List.length_append,hnl]at hjl;have hju:j<(updsL cs.toList (bs.length*1) news).length:=by rw[hlu];omega
   have hv:nth undef (updsL cs.toList (bs.length*1) news) j=u:=by
    by_cases hjb:j<bs.length
    ·rw[nth_updsL_lt undef _ _ _ _ (by omega)];rw[List.getElem?_append_left hjb]at hj;have:=hcells j u hj;rw[nth_eq];simp[this]
    ·have:=nth_updsL_in undef news cs.toList (bs.length*1) (j-bs.length) (by omega) (by simp;omega);rw[show bs.length*1+(j-bs.length)=j by omega]at this;rw[this];rw[List.getElem?_append_right (by omega)]at hj;rw[nth_eq,hj];rfl
   rw[nth_of_lt _ hju]at hv;rw[List.getElem?_toArray,List.getElem?_eq_getElem hju,hv]
  ·refine hgrow (some ⟨g,0,none⟩) c (by omega) ?_;have:=run_firstCells_some (P:=P) w.drew 1 bs.length ⟨g,0,none⟩ bs.length c bs (by simp) (fun j u hj=>by
    have h2:=hcells j u hj;rw[addr_add];show w.cell? ⟨g,0+j,none⟩=_;rw[Nat.zero_add,cell_blk hblk];exact h2)
   rw[h1];exact this
end Eng
end

section
namespace Eng
open Go Go.RowKit
variable [Env]
def byteOk:List D→Bool
 |[.int .u8 n]=>match n with
  | .ofNat m=>Nat.blt m 256
  |_=>false
 |_=>false
def bytesOk:List (List D)→Bool
 |[]=>true
 |e::r=>byteOk e&&bytesOk r
def toByte:List D→UInt8
 |[.int .u8 n]=>UInt8.ofNat n.toNat
 |_=>0
def toBytes:List (List D)→List UInt8
 |[]=>[]
 |e::r=>toByte e::toBytes r
omit [Env] in
theorem rowsOf_toBytes:∀{es:List (List D)},bytesOk es=true→rowsOf (toBytes es)=es
 |[],_=>rfl
 |e::r,h=>by
  simp only[bytesOk,Bool.and_eq_true]at h;have ih:=rowsOf_toBytes h.2;simp only[toBytes,rowsOf,List.map_cons];have hh:byteOk e=true:=h.1;unfold byteOk at hh;split at hh
  ·split at hh
   ·rename_i m;rw[Nat.blt_eq]at hh;congr 1;simp only[toByte];have:(UInt8.ofNat (Int.ofNat m).toNat).toNat=m:=by simp[UInt8.toNat_ofNat'];omega
    rw[this];rfl
   ·simp at hh
  ·simp at hh
def bldW (dst:Option Nat) (v:V) (rows:List (List D)) (res:V) (ob:List Obj):R:=
 match v with
 | .box d 0=>match nth .none ob d with
  | .bld T q=>match q with
   | .nilS=>match dst with
    |some t=>match freeKey ob t with
     |true=> .cond (room rows.length) res [(t,.arr 1 rows false),(d,.bld T (.arr t))]
     |false=> .fail
    |none=> .fail
   | .arr k=>match nth .none ob k with
    | .arr sz es false=>match dst with
     |some t=>match Nat.beq sz 1&&freeKey ob t with
      |true=> .cond (room (es.length+rows.length)) res [(k,.dead),(t,.arr 1 (es++rows) false),(d,.bld T (.arr t))]
      |false=> .fail
     |none=> .fail
    |_=> .fail
   |_=> .fail
  |_=> .fail
 |_=> .fail
def effW (dst:Option Nat) (vs:List V) (ob:List Obj):R:=
 match vs with
 |[v,.c (.str s)]=>bldW dst v (rowsOf s) (.tp [.c (.int .i64 s.length),.c .nilI]) ob
 |_=> .fail
def effB (dst:Option Nat) (vs:List V) (ob:List Obj):R:=
 match vs with
 |[v,.c (.int .u8 n)]=>bldW dst v [[.int .u8 n]] (.c .nilI) ob
 |_=> .fail
def effS (_:Option Nat) (vs:List V) (ob:List Obj):R:=
 match vs with
 |[.box d 0]=>match nth .none ob d with
  | .bld _ q=>match q with
   | .nilS=> .ok (.c (.str [])) []
   | .arr k=>match nth .none ob k with
    | .arr sz es false=>match Nat.beq sz 1 with
     |true=> .cond (es≠[]∧bytesOk es=true) (.c (.str (toBytes es))) [(k,.dead)]
     |false=> .fail
    |_=> .fail
   |_=> .fail
  |_=> .fail
 |_=> .fail
omit [Env] in
theorem bldW_ag {dst:Option Nat} {v:V} {rows:List (List D)} {res:V} {ob ob':List Obj} (h:∀k∈deepB ob (keysV v),nth .none ob k=nth .none ob' k) {wd:Bool} (hd:∀d,newK wd dst d→freeKey ob d=freeKey ob' d):bldW dst v rows res ob=bldW dst v rows res ob':=by
 cases v with
 |box d off=>
  cases off with
  |succ n=>rfl
  |zero=>
   have h1:=h d (by simp[keysV,mem_deepB]);cases hb:nth .none ob d with
   |bld T q=>
    have hb':=h1.symm.trans hb;cases q with
    |nilS=>
     cases dst with
     |none=>simp only[bldW,hb,hb']
     |some t=>simp only[bldW,hb,hb'];rw[hd t (.inl rfl)]
    |arr k=>
     have h2:=h k (by rw[mem_deepB];exact⟨d,by simp[keysV],.inr ⟨.arr k,by simp[hb,objVs],by simp[keysV]⟩⟩);cases dst with
     |none=>simp only[bldW,hb,hb',h2]
     |some t=>simp only[bldW,hb,hb',h2];rw[hd t (.inl rfl)]
    |_=>simp only[bldW,hb,hb']
   |_=>have hb':=h1.symm.trans hb;simp only[bldW,hb,hb']
 |_=>rfl
omit [Env] in
theorem effS_ag {dst:Option Nat} {vs:List V} {ob ob':List Obj} (h:∀k∈deepB ob (vs.flatMap keysV),nth .none ob k=nth .none ob' k):effS dst vs ob=effS dst vs ob':=by
 match vs,h with
 |[.box d 0],h=>
  have h1:=h d (by simp[keysV,mem_deepB]);cases hb:nth .none ob d with
  |bld T q=>
   have hb':=h1.symm.trans hb;cases q with
   |arr k=>have h2:=h k (by rw[mem_deepB];exact⟨d,by simp[keysV],.inr ⟨.arr k,by simp[hb,objVs],by simp[keysV]⟩⟩);simp only[effS,hb,hb',h2]
   |_=>simp only[effS,hb,hb']
  |_=>have hb':=h1.symm.trans hb;simp only[effS,hb,hb']
 |[],_=>rfl
 |[.box d (n+1)],_=>rfl
 |[.any],_=>rfl
 |[.no],_=>rfl
 |[.c _],_=>rfl
 |[.ag _],_=>rfl
 |[.tp _],_=>rfl
 |[.nilS],_=>rfl
 |[.arr _],_=>rfl
 |[.elt _ _ _],_=>rfl
 |[.sub _ _ _],_=>rfl
 |[.eref _ _ _],_=>rfl
 |[.gl _ _],_=>rfl
 |[.fn _],_=>rfl
 |[.arrAt _ _ _ _],_=>rfl
 |[.boxAt _ _],_=>rfl
 |[.vec _ _],_=>rfl
 |[.tpo _ _],_=>rfl
 |[.agv _],_=>rfl
 |x::_::_,_=>
  cases x<;>first
   |rfl
   |(rename_i d off _;cases off<;>rfl)
omit [Env] in
theorem bldW_good {wd:Bool} {dst:Option Nat} {v:V} {rows:List (List D)} {res:V} {ob:List Obj} (hres:keysV res=[]) (hv:∀k∈keysV v,nth .none ob k≠ .none) (_hb:∀k,∀u∈objVs (nth .none ob k),∀j∈keysV u,nth .none ob j≠ .none):
 EffR wd dst (deepB ob (keysV v)) ob (bldW dst v rows res ob):=by
 unfold bldW;split
 ·rename_i d;split
  ·rename_i T q hq;have hdin:d∈deepB ob (keysV (.box d 0)):=by simp[keysV,mem_deepB]
   have hdn:nth .none ob d≠ .none:=hv d (by simp[keysV]);split
   ·split
    ·rename_i t;split
     ·rename_i hf;refine⟨fun p hp=>?_,fun k hk=>by rw[hres]at hk;simp at hk⟩;simp only[List.mem_cons,List.not_mem_nil,or_false]at hp;rcases hp with rfl|rfl
      ·exact⟨.inl ⟨.inl rfl,hf⟩,by simp,fun u hu=>by simp[objVs]at hu⟩
      ·refine⟨.inr ⟨hdin,hdn⟩,by simp,fun u hu k hk=>?_⟩;simp[objVs]at hu;subst hu;simp[keysV]at hk;subst hk;exact .inr ⟨hf,_,List.mem_cons_self ..⟩
     ·trivial
    ·trivial
   ·rename_i k;split
    ·rename_i sz es hk;split
     ·rename_i t;split
      ·rename_i hf;simp only[Bool.and_eq_true]at hf;refine⟨fun p hp=>?_,fun k hk=>by rw[hres]at hk;simp at hk⟩;simp only[List.mem_cons,List.not_mem_nil,or_false]at hp;rcases hp with rfl|rfl|rfl
       ·exact⟨.inr ⟨by rw[mem_deepB];exact⟨d,by simp[keysV],.inr ⟨.arr k,by simp[hq,objVs],by simp[keysV]⟩⟩,by rw[hk];simp⟩,by simp,fun u hu=>by simp[objVs]at hu⟩
       ·exact⟨.inl ⟨.inl rfl,hf.2⟩,by simp,fun u hu=>by simp[objVs]at hu⟩
       ·refine⟨.inr ⟨hdin,hdn⟩,by simp,fun u hu k hk=>?_⟩;simp[objVs]at hu;subst hu;simp[keysV]at hk;subst hk;exact .inr ⟨hf.2,_,List.mem_cons_of_mem _ (List.mem_cons_self ..)⟩
      ·trivial
     ·trivial
    ·trivial
   ·trivial
  ·trivial
 ·trivial
omit [Env] in
theorem effS_good {wd:Bool} {dst:Option Nat} {vs:List V} {ob:List Obj}:EffR wd dst (deepB ob (vs.flatMap keysV)) ob (effS dst vs ob):=by
 unfold effS;split
 ·rename_i d;split
  ·rename_i T q hq;split
   ·exact⟨fun p hp=>by simp at hp,fun k hk=>by simp[keysV]at hk⟩
   ·rename_i k;split
    ·rename_i sz es hk;split
     ·refine⟨fun p hp=>?_,fun k hk=>by simp[keysV]at hk⟩;simp only[List.mem_singleton]at hp;subst hp;exact⟨.inr ⟨by rw[mem_deepB];exact⟨d,by simp[keysV],.inr ⟨.arr k,by simp[hq,objVs],by simp[keysV]⟩⟩,by rw[hk];simp⟩,by simp,fun u hu=>by simp[objVs]at hu⟩
     ·trivial
    ·trivial
   ·trivial
  ·trivial
 ·trivial
end Eng
end

section
namespace Eng
open Go Go.RowKit
variable [Env]
def Wrote (T E:Nat) (w:World) (b:Nat) (own:Option (Nat×Nat)) (bs:List Value) (w':World):Prop:=
 ∃v' own',w'.heap[b]? =some (.cells #[.pointer (some ⟨b,0,none⟩),v'] T (0,0))∧Buf E w' b own' v' bs∧Keeps w w' (fun k=>k=b∨hasBlk own k)∧(∀g,hasBlk own' g→hasBlk own g∨w.heap.size≤g)
structure BldK (P:Program) (T E fW fB fS:Nat):Prop where
 elem:bufElem P T=E
 one:P.cellsOf E=1
 there:∀f,f=fW∨f=fB∨f=fS→∃fn,P.funcs[f]? =some fn∧fn.body≠none∧fn.name≠ "runtime.NumGoroutine"
 ws:∀{w:World} {b:Nat} {p v:Value} {own:Option (Nat×Nat)} {bs:List Value} (s:ByteArray),w.heap[b]? =some (.cells #[p,v] T (0,0))→(p= .pointer none∨p= .pointer (some ⟨b,0,none⟩))→Buf E w b own v bs→bs.length+s.size≤1073741824→
  Calls P fW #[.pointer (some ⟨b,0,none⟩),.string s] w fun e w'=>e= .returned (.tuple #[.int .i64 s.size,.nilIface])∧Wrote T E w b own (bs++byteCells s) w'
 wb:∀{w:World} {b:Nat} {p v:Value} {own:Option (Nat×Nat)} {bs:List Value} (c:Int),w.heap[b]? =some (.cells #[p,v] T (0,0))→(p= .pointer none∨p= .pointer (some ⟨b,0,none⟩))→Buf E w b own v bs→bs.length+1≤1073741824→
  Calls P fB #[.pointer (some ⟨b,0,none⟩),.int .u8 c] w fun e w'=>e= .returned .nilIface∧Wrote T E w b own (bs++[.int .u8 c]) w'
 st:∀{w:World} {b g c:Nat} {p v:Value} (l:List UInt8),l≠[]→w.heap[b]? =some (.cells #[p,v] T (0,0))→Buf E w b (some (g,c)) v (l.map fun x=> .int .u8 x.toNat)→l.length≤1073741824→
  Calls P fS #[.pointer (some ⟨b,0,none⟩)] w fun e w'=>e= .returned (.string ⟨l.toArray⟩)∧Keeps w w' (fun k=>k=g)
 sn:∀{w:World} {b:Nat} {p:Value},w.heap[b]? =some (.cells #[p,.slice none 0 0] T (0,0))→
  Calls P fS #[.pointer (some ⟨b,0,none⟩)] w fun e w'=>e= .returned (.string ⟨#[]⟩)∧Keeps w w' (fun _=>False)
section
variable {C:Cx} {B:Bd} {F0:Nat→Prop} {w0:World} {F:Nat→Prop} {loc:Where} {st:St} {a:Act} {w:World}
def oldKey:V→Nat→Bool
 | .arr k,j=>Nat.beq j k
 |_,_=>false
theorem conc_wrote {T E t d b c0:Nat} {q v:V} {x:Value} {own:Option (Nat×Nat)} {bs':List Value} {rows':List (List D)} {up:List (Nat×Obj)} {w':World} {dst:Option Nat} (h:Conc C B F0 w0 F loc st a w)
 (hd:nth .none st.objs d= .bld T q) (hq:(q= .nilS∧own=none)∨∃k es,q= .arr k∧nth .none st.objs k= .arr 1 es false∧own=loc k)
 (hf:freeKey st.objs t=true) (hl:loc d=some (b,c0)) (hw:Wrote T E w b own bs' w') (helem:bufElem C.P T=E) (hone:C.P.cellsOf E=1)
 (hrows:∀e∈rows',e.length=1) (hall:All2 (CD w F) rows'.flatten bs') (hroom:room rows'.length)
 (hn:∀j,nth .none (upds st.objs up) j=if j=d then .bld T (.arr t)else if j=t then .arr 1 rows' false else if oldKey q j=true then .dead else nth .none st.objs j)
 (hv:∀(loc:Where) (objs:List Obj) (w:World) (F:Nat→Prop),CV loc objs w F v x∧Ref objs v):
 St.has C B F0 w0 (st.put dst v up) (a.put dst x) w':=by
 obtain⟨v',own',hb',hbuf',hk,hsub⟩:=hw;obtain⟨htn,htlt⟩:=freeKey_ok hf;have hdt:d≠t:=fun e=>by subst e;rw[hd]at htn;simp at htn
 have hco:=h.objs d;rw[hd]at hco;obtain⟨b1,c1,p,v1,hl1,hnF,hblk,hp,hqv,hqr,hqt⟩:=hco;rw[hl]at hl1;simp only[Option.some.injEq,Prod.mk.injEq]at hl1;obtain⟨rfl,rfl⟩:=hl1;have hbf:=h.fresh _ _ _ hl
 --the buffer's block is the call's own
 have hown:∀g,hasBlk own g→Own B g∧g<w.heap.size∧¬F g∧g≠b∧∀j c,loc j=some (g,c)→oldKey q j=true:=by
  intro g hg;obtain⟨c,hg⟩:=hg;rcases hq with⟨rfl,rfl⟩|⟨k,es,rfl,hke,hok⟩
  ·simp at hg
  ·rw[hg]at hok;have hfk:=h.fresh _ _ _ hok.symm;have hck:=h.objs k;rw[hke]at hck;obtain⟨_,_,_,hck⟩:=hck;rcases hck with⟨hck,_⟩|⟨b2,c2,cs,tt,h4,h5,_⟩
   ·rw[hck]at hok;simp at hok
   ·rw[h4]at hok;simp only[Option.some.injEq,Prod.mk.injEq]at hok;obtain⟨rfl,rfl⟩:=hok;refine⟨hfk.1,hfk.2,h5,fun e=>?_,fun j c hj=>?_⟩
    ·subst e;have:=h.inj _ _ _ _ _ h4 hl;subst this;rw[hke]at hd;simp at hd
    ·have:=h.inj _ _ _ _ _ hj h4;subst this;simp[oldKey]
 have hqold:∀j,oldKey q j=true→∃es,nth .none st.objs j= .arr 1 es false:=by
  intro j hj;rcases hq with⟨rfl,_⟩|⟨k,es,rfl,hke,_⟩
  ·simp[oldKey]at hj
  ·have:=Nat.eq_of_beq_eq_true hj;subst this;exact⟨es,hke⟩
 have hsame:∀β,β<w.heap.size→β≠b→¬hasBlk own β→w'.heap[β]? =w.heap[β]? :=fun β h1 h2 h3=>hk.block β h1 fun h=>by rcases h with h|h;exact h2 h;exact h3 h
 have hwF:∀β,F β→w'.heap[β]? =w.heap[β]? :=fun β hβ=>hsame β (h.bound β hβ) (fun e=>hnF (e▸hβ)) fun hg=>(hown β hg).2.2.1 hβ
 have hall':All2 (CD w' F) rows'.flatten bs':=hall.mono fun _ _ h=>h.mono (fun _ h=>h) hwF
 let loc':Where:=⟨loc.P,fun j=>if j=t then own' else if oldKey q j=true then none else loc j,fun j=>if j=t then E else loc.ty j⟩
 have hnt:∀{j:Nat},nth .none st.objs j≠ .none→j≠t:=fun{j} hj e=>by subst e;exact hj htn
 have hle:Le st.objs (upds st.objs up) loc loc':=by
  refine⟨rfl,fun j hj=>by simp[loc',hnt hj],fun j hj=>?_,fun j o' hj hc hbx=>?_,fun j s' es' fz' hj hc=>?_⟩
  ·rw[hn];split
   ·simp
   ·split
    ·simp
    ·split
     ·simp
     ·exact hj
  ·rw[hn]at hc;split at hc
   ·rename_i e;subst e;have:oldKey q j≠true:=fun ho=>by obtain⟨es,he⟩:=hqold j ho;rw[hd]at he;simp at he
    exact⟨by rw[hd];rfl,by simp[loc',hdt,this]⟩
   ·split at hc
    ·rw[←hc]at hbx;simp[isBox]at hbx
    ·split at hc
     ·rw[←hc]at hbx;simp[isBox]at hbx
     ·rename_i e1 e2 e3;exact⟨by rw[hc];exact hbx,by simp[loc',e2,e3]⟩
  ·rw[hn]at hc;split at hc
   ·simp at hc
   ·split at hc
    ·rename_i e;exact absurd e (hnt hj)
    ·split at hc
     ·simp at hc
     ·rename_i e1 e2 e3;exact⟨⟨_,_,hc,rfl⟩,by simp[loc',e2,e3]⟩
 have hlen:bs'.length=rows'.length:=by have:=hall'.length;rw[length_flatten hrows]at this;omega
 have hndt:nth .none (upds st.objs up) t= .arr 1 rows' false:=by rw[hn,if_neg (Ne.symm hdt),if_pos rfl]
 have hto:oldKey q t≠true:=fun ho=>by obtain⟨es,he⟩:=hqold t ho;rw[htn]at he;simp at he
 have hdo:oldKey q d≠true:=fun ho=>by obtain⟨es,he⟩:=hqold d ho;rw[hd]at he;simp at he
 have hown':∀g,hasBlk own' g→Own B g∧g<w'.heap.size∧¬F g∧g≠b∧∀j c,loc j=some (g,c)→oldKey q j=true:=by
  intro g hg;have hlt:g<w'.heap.size:=by obtain⟨c,rfl⟩:=hg;exact hbuf'.2.2.1
  have hgb:g≠b:=by obtain⟨c,rfl⟩:=hg;exact hbuf'.2.1
  rcases hsub g hg with h1|h1
  ·have:=hown g h1;exact⟨this.1,hlt,this.2.2.1,hgb,this.2.2.2.2⟩
  ·have hB:=h.hB;exact⟨.inl (by omega),hlt,fun hF=>by have:=h.bound g hF;omega,hgb,fun j c hj=>by have:=h.fresh _ _ _ hj;omega⟩
 have hbw:BelowX B w w':=⟨hk.below.os,hk.below.tape,hk.below.output,hk.below.size,fun k hkB hkX=>hsame k (by have:=h.hB;omega) (fun e=>by
  rcases hbf.1 with h1|h1
  ·omega
  ·exact hkX (e▸h1)) fun hg=>by
  rcases(hown k hg).1 with h1|h1
  ·omega
  ·exact hkX h1⟩
 have hsz:=hk.below.size;refine⟨F,loc',h.step (fun _ h=>h) hwF hle (h.below.trans hbw) (by have:=h.hB;omega) (fun j=>?_) ?_ ?_ (fun β hβ=>by have:=h.bound β hβ;omega) h.fsub (hv _ _ _ _).1 (hv loc' _ w' F).2⟩
 ·rw[hn];by_cases h1:j=d
  ·subst h1;rw[if_pos rfl];refine⟨b,c0,_,v',by simp[loc',hdt,hdo,hl],hnF,hb',.inr rfl,?_,?_,fun i hi=>?_⟩
   ·intro s' es' fz' hc;rw[hndt]at hc;simp only[Obj.arr.injEq]at hc;obtain⟨rfl,rfl,rfl⟩:=hc;cases own' with
    |none=>obtain⟨q1,q2⟩:=hbuf';subst q2;exact .inr ⟨by simp[loc'],by apply List.eq_nil_of_length_eq_zero;rw[←hlen];rfl,q1⟩
    |some gc=>obtain⟨g,c⟩:=gc;exact .inl ⟨g,c,by simp[loc'],by rw[←hlen];exact hbuf'.1⟩
   ·show nth .none (upds st.objs up) t≠ .none;rw[hndt];simp
   ·simp only[V.arr.injEq]at hi;subst hi;show(if t=t then E else loc.ty t)=bufElem loc.P T;rw[if_pos rfl,h.prog,helem]
  ·rw[if_neg h1];by_cases h2:j=t
   ·subst h2;rw[if_pos rfl];refine⟨.inl hroom,by omega,hrows,?_⟩;cases own' with
    |none=>obtain⟨q1,q2⟩:=hbuf';subst q2;exact .inl ⟨by simp[loc'],by apply List.eq_nil_of_length_eq_zero;rw[←hlen];rfl⟩
    |some gc=>
     obtain⟨g,c⟩:=gc;obtain⟨q1,q2,q3,q4,cs,tt,q5,q6,q7,rfl⟩:=hbuf';refine .inr ⟨g,c,cs,tt,by simp[loc'],(hown' g ⟨c,rfl⟩).2.2.1,q5,by omega,by omega,fun i hi=>?_,by show loc.P.cellsOf tt=1;rw[h.prog];exact hone,by simp[loc']⟩;have hi':i<bs'.length:=by omega
     have hcd:=hall'.nth .undef undef _ _ i (by rw[length_flatten hrows];omega);refine⟨bs'[i],q7 i _ (List.getElem?_eq_getElem hi'),?_⟩;rw[nth_of_lt undef hi']at hcd;exact hcd
   ·rw[if_neg h2];by_cases h3:oldKey q j=true
    ·rw[if_pos h3];show loc' j=none;simp[loc',h2,h3]
    ·rw[if_neg h3];refine CO.le (fun _ h=>h) hwF hle (by simp[loc',h2,h3]) (by simp[loc',h2]) (fun β c hβ=>⟨?_,fun h=>h⟩) (h.objs j);refine hsame β (h.fresh _ _ _ hβ).2 (fun e=>?_) fun hg=>h3 ((hown β hg).2.2.2.2 j c hβ)
     subst e;exact h1 (h.inj _ _ _ _ _ hβ hl)
 ·intro j j' β c c' g1 g2;simp only[loc']at g1 g2;split at g1<;>split at g2
  ·rw[‹j=t›,‹j'=t›]
  ·split at g2
   ·simp at g2
   ·exact absurd ((hown' β ⟨c,g1⟩).2.2.2.2 _ _ g2) ‹_›
  ·split at g1
   ·simp at g1
   ·exact absurd ((hown' β ⟨c',g2⟩).2.2.2.2 _ _ g1) ‹_›
  ·split at g1
   ·simp at g1
   ·split at g2
    ·simp at g2
    ·exact h.inj _ _ _ _ _ g1 g2
 ·intro j β c g1;simp only[loc']at g1;split at g1
  ·have:=hown' β ⟨c,g1⟩;exact⟨this.1,this.2.1⟩
  ·split at g1
   ·simp at g1
   ·have:=h.fresh _ _ _ g1;exact⟨this.1,by omega⟩
end
end Eng
end

section
namespace Eng
open Go Go.RowKit
variable [Env]
def isBT (T:Nat) (v:V) (ob:List Obj):Bool:=
 match v with
 | .box d 0=>match nth .none ob d with
  | .bld T' _=>Nat.beq T' T
  |_=>false
 |_=>false
def onB (T:Nat) (e:Option Nat→List V→List Obj→R) (dst:Option Nat) (vs:List V) (ob:List Obj):R:=
 match vs with
 |v::_=>match isBT T v ob with
  |true=>e dst vs ob
  |false=> .fail
 |[]=> .fail
def bldEff (T fW fB fS:Nat) (f:Nat):Option (Option Nat→List V→List Obj→R):=
 match Nat.beq f fW with
 |true=>some (onB T effW)
 |false=>match Nat.beq f fB with
  |true=>some (onB T effB)
  |false=>match Nat.beq f fS with
   |true=>some (onB T effS)
   |false=>none
omit [Env] in
theorem bldEff_cases {T fW fB fS f:Nat} {e:Option Nat→List V→List Obj→R} (h:bldEff T fW fB fS f=some e):(f=fW∧e=onB T effW)∨(f=fB∧e=onB T effB)∨(f=fS∧e=onB T effS):=by
 unfold bldEff at h;split at h
 ·rename_i hb;exact .inl ⟨Nat.eq_of_beq_eq_true hb,by simpa using h.symm⟩
 ·split at h
  ·rename_i hb;exact .inr (.inl ⟨Nat.eq_of_beq_eq_true hb,by simpa using h.symm⟩)
  ·split at h
   ·rename_i hb;exact .inr (.inr ⟨Nat.eq_of_beq_eq_true hb,by simpa using h.symm⟩)
   ·simp at h
omit [Env] in
theorem isBT_ag {T:Nat} {v:V} {ob ob':List Obj} (h:∀k∈deepB ob (keysV v),nth .none ob k=nth .none ob' k):isBT T v ob=isBT T v ob':=by
 unfold isBT;split
 ·rename_i d;rw[h d (by simp[keysV,mem_deepB])]
 ·rfl
section
variable {C:Cx} {B:Bd} {F0:Nat→Prop} {w0:World} {F:Nat→Prop} {loc:Where} {st:St} {a:Act} {w:World}
variable {dst:Option Nat} {ty:TypeId} {pos:String} {after:Array Edge} {g:Option (Nat×Bool)}
omit [Env] in
theorem wp_entered {f:Nat} {fn:Func} {args:Array Operand} {ts:Array TypeId} (hf:C.P.funcs[f]? =some fn) (hb:fn.body≠none) (hn:fn.name≠ "runtime.NumGoroutine")
 {R:Ending→World→Prop} (hc:Calls C.P f (args.map a.eval) w R) {next:Act→World→Prop} {Q:Exit→Act→World→Prop} (h:∀e w',R e w'→∃v,e= .returned v∧next (a.put dst v) w'):
 Oper.wp C.P ⟨dst,.call ⟨.value (.func f),args,ts⟩,ty,pos,after,g⟩ a w next Q:=by
 have hrun:(execOp a.eval ⟨dst,.call ⟨.value (.func f),args,ts⟩,ty,pos,after,g⟩).run C.P w= .ok (.enter f (args.map a.eval)) w:=by simp[execOp,resolve,Act.eval,Deferred.ofValue,invoke,callFunc,hf,hn,hb]
 unfold Oper.wp;rw[hrun,Oper.upon_enter];refine hc.mono fun e w' he=>?_
 obtain⟨v,rfl,hx⟩:=h e w' he;exact hx
theorem conc_buf {T d:Nat} {q:V} (h:Conc C B F0 w0 F loc st a w) (hd:nth .none st.objs d= .bld T q)
 (hq:q= .nilS∨∃k es,q= .arr k∧nth .none st.objs k= .arr 1 es false):
 ∃b c0 p v own bs rows,loc d=some (b,c0)∧w.heap[b]? =some (.cells #[p,v] T (0,0))∧(p= .pointer none∨p= .pointer (some ⟨b,0,none⟩))∧Buf (bufElem C.P T) w b own v bs∧
  All2 (CD w F) rows.flatten bs∧(∀e∈rows,e.length=1)∧((q= .nilS∧own=none∧rows=[]∧v= .slice none 0 0)∨∃k,q= .arr k∧nth .none st.objs k= .arr 1 rows false∧own=loc k):=by
 have hco:=h.objs d;rw[hd]at hco;obtain⟨b,c0,p,v,hl,hnF,hblk,hp,hqv,hqr,hqt⟩:=hco;rcases hq with rfl|⟨k,es,rfl,hk⟩
 ·have:v= .slice none 0 0:=hqv;subst this;exact⟨b,c0,p,_,none,[],[],hl,hblk,hp,⟨rfl,rfl⟩,trivial,by simp,.inl ⟨rfl,rfl,rfl,rfl⟩⟩
 ·have hck:=h.objs k;rw[hk]at hck;obtain⟨hroom,_,hlen,hck⟩:=hck;have hv:=hqv 1 es false hk;rcases hv with⟨b2,c2,h1,h2⟩|⟨h1,h2,h3⟩
  ·rcases hck with⟨h4,_⟩|⟨b3,c3,cs,t,h4,h5,h6,h7,h8,h9,h10,h11⟩
   ·rw[h4]at h1;simp at h1
   ·rw[h4]at h1;simp only[Option.some.injEq,Prod.mk.injEq]at h1;obtain⟨rfl,rfl⟩:=h1;have hf2:=h.fresh _ _ _ h4;have hbb:b3≠b:=fun e=>by subst e;have:=h.inj _ _ _ _ _ h4 hl;subst this;rw[hk]at hd;simp at hd
    have hfl:es.flatten.length=es.length:=by rw[length_flatten hlen];omega
    have hcl:(cs.toList.take es.length).length=es.length:=by simp;omega
    have hall:All2 (CD w F) es.flatten (cs.toList.take es.length):=by
     refine all2_of_nth .undef undef (by omega) fun i hi=>?_
     obtain⟨x,hx,hcd⟩:=h9 i (by omega);have:nth undef (cs.toList.take es.length) i=x:=by rw[nth_eq,List.getElem?_take_of_lt (by omega)];simp[hx]
     rw[this];exact hcd
    refine⟨b,c0,p,v,some (b3,c3),cs.toList.take es.length,es,hl,hblk,hp,⟨by rw[hcl];exact h2,hbb,hf2.2,by omega,cs,t,h6,by omega,fun j u hj=>?_,?_⟩,hall,hlen,.inr ⟨k,rfl,hk,h4.symm⟩⟩
    ·have hjl:j<es.length:=by have:=(List.getElem?_eq_some_iff.1 hj).1;omega
     rw[List.getElem?_take_of_lt hjl]at hj
     simpa using hj
    ·rw[←h11,hqt k rfl,h.prog]
  ·subst h2;exact⟨b,c0,p,v,none,[],[],hl,hblk,hp,⟨h3,rfl⟩,trivial,by simp,.inr ⟨k,rfl,hk,h1.symm⟩⟩
theorem all2_rows {w:World} {F:Nat→Prop} (s:List UInt8):All2 (CD w F) (rowsOf s).flatten (byteCells ⟨⟨s⟩⟩):=by
 induction s with
 |nil=>trivial
 |cons c s ih=>exact⟨.int _ _,ih⟩
omit [Env] in
theorem rowsOf_len (s:List UInt8):∀e∈rowsOf s,e.length=1:=by
 intro e he;simp only[rowsOf,List.mem_map]at he;obtain⟨c,_,rfl⟩:=he;rfl
theorem bldW_ok {T E f:Nat} {fn:Func} {x:Operand} {ys:List Operand} {rows:List (List D)} {news:List Value} {res:V} {rv:Value} {args:Array Operand} {ts:Array TypeId}
 (h:Conc C B F0 w0 F loc st a w) (hf:C.P.funcs[f]? =some fn) (hb:fn.body≠none) (hn:fn.name≠ "runtime.NumGoroutine") (hargs:args.toList=x::ys) (hone:C.P.cellsOf E=1)
 (helem:∀d T' q,ev st x= .box d 0→nth .none st.objs d= .bld T' q→T'=T∧bufElem C.P T'=E)
 (hrows:∀e∈rows,e.length=1) (hnews:∀(F:Nat→Prop) (w:World),All2 (CD w F) rows.flatten news)
 (hres:∀(loc:Where) (objs:List Obj) (w:World) (F:Nat→Prop),CV loc objs w F res rv∧Ref objs res)
 (hc:∀{w:World} {b:Nat} {p v:Value} {own:Option (Nat×Nat)} {bs:List Value},w.heap[b]? =some (.cells #[p,v] T (0,0))→(p= .pointer none∨p= .pointer (some ⟨b,0,none⟩))→Buf E w b own v bs→bs.length+rows.length≤1073741824→
  Calls C.P f (.pointer (some ⟨b,0,none⟩)::ys.map a.eval).toArray w fun e w'=>e= .returned rv∧Wrote T E w b own (bs++news) w'):
 RSW C B F0 w0 st a w ⟨dst,.call ⟨.value (.func f),args,ts⟩,ty,pos,after,g⟩ (bldW dst (ev st x) rows res st.objs):=by
 have hx:=(ev_ok h x).1;unfold bldW;split
 ·rename_i d hxd;rw[hxd]at hx;split
  ·rename_i T' q hd;obtain⟨rfl,helem'⟩:=helem _ _ _ hxd hd;obtain⟨b,c0,hl,hxv⟩:=hx _ rfl (by rw[hd];rfl);have key:∀(t:Nat) (up:List (Nat×Obj)) (rows':List (List D)),dst=some t→freeKey st.objs t=true→room (rows'.length)→(q= .nilS∨∃k es,q= .arr k∧nth .none st.objs k= .arr 1 es false)→
    (∀es,((q= .nilS∧es=[])∨∃k,q= .arr k∧nth .none st.objs k= .arr 1 es false)→rows'=es++rows)→
    (∀j,nth .none (upds st.objs up) j=if j=d then .bld T' (.arr t)else if j=t then .arr 1 rows' false else if oldKey q j=true then .dead else nth .none st.objs j)→
    ∀(next:Act→World→Prop) (Q:Exit→Act→World→Prop),(∀a' w',St.has C B F0 w0 (st.put dst res up) a' w'→next a' w')→Oper.wp C.P ⟨dst,.call ⟨.value (.func f),args,ts⟩,ty,pos,after,g⟩ a w next Q:=by
    intro t up rows' hdst hfree hroom hq hes hup next Q hnx
    obtain⟨b1,c1,p,v,own,bs,es,hl1,hblk,hp,hbuf,hall,hlen,hown⟩:=conc_buf h hd hq;rw[hl]at hl1;simp only[Option.some.injEq,Prod.mk.injEq]at hl1;obtain⟨rfl,rfl⟩:=hl1;rw[helem']at hbuf;have hrw:rows'=es++rows:=hes es (by
     rcases hown with⟨h1,_,h3,_⟩|⟨k,h1,h2,_⟩
     ·exact .inl ⟨h1,h3⟩
     ·exact .inr ⟨k,h1,h2⟩)
    have hbl:bs.length=es.length:=by have:=hall.length;rw[length_flatten hlen]at this;omega
    have hcall:=hc hblk hp hbuf (by
     have:rows'.length≤1073741824:=hroom;rw[hrw,List.length_append]at this;omega)
    have hae:(.pointer (some ⟨b,0,none⟩)::ys.map a.eval).toArray=args.map a.eval:=by apply Array.ext';rw[Array.toList_map,hargs,List.map_cons,hxv]
    rw[hae]at hcall;refine wp_entered hf hb hn hcall fun e w' he=>?_
    obtain⟨rfl,hw⟩:=he;refine⟨_,rfl,hnx _ _ ?_⟩;have hrl:∀e∈rows',e.length=1:=by
     rw[hrw];intro e he;rcases List.mem_append.1 he with he|he
     ·exact hlen e he
     ·exact hrows e he
    refine conc_wrote (t:=t) (d:=d) (q:=q) (own:=own) (rows':=rows') (bs':=bs++news) h hd ?_ hfree hl hw helem' hone hrl ?_ hroom hup hres
    ·rcases hown with⟨h1,h2,_,_⟩|⟨k,h1,h2,h3⟩
     ·exact .inl ⟨h1,h2⟩
     ·exact .inr ⟨k,es,h1,h2,h3⟩
    ·rw[hrw,List.flatten_append];exact All2.append hall (hnews _ _)
   split
   ·split
    ·rename_i t;split
     ·rename_i hfree;intro hroom next Q hnx
      obtain⟨htn,htlt⟩:=freeKey_ok hfree;have hdt:d≠t:=fun e=>by subst e;rw[hd]at htn;simp at htn
      refine key t _ rows rfl hfree hroom (.inl rfl) (fun es hes=>?_) (fun j=>?_) next Q hnx
      ·rcases hes with⟨_,rfl⟩|⟨k,hk,_⟩
       ·rfl
       ·simp at hk
      ·have hdl:d<st.objs.length:=lt_of_nth (by rw[hd];simp);simp only[upds,oldKey];by_cases h1:j=d
       ·subst h1;rw[nth_upd_same _ _ _ (by rw[length_upd];exact hdl),if_pos rfl]
       ·rw[nth_upd_ne _ _ _ (Ne.symm h1),if_neg h1];by_cases h2:j=t
        ·subst h2;rw[nth_upd_same _ _ _ htlt,if_pos rfl]
        ·rw[nth_upd_ne _ _ _ (Ne.symm h2),if_neg h2];simp
     ·trivial
    ·trivial
   ·rename_i k;split
    ·rename_i sz es hk;split
     ·rename_i t;split
      ·rename_i hf2;simp only[Bool.and_eq_true]at hf2;obtain⟨hsz,hfree⟩:=hf2;have hsz:sz=1:=Nat.eq_of_beq_eq_true hsz;subst hsz;intro hroom next Q hnx
       obtain⟨htn,htlt⟩:=freeKey_ok hfree;have hdt:d≠t:=fun e=>by subst e;rw[hd]at htn;simp at htn
       have hkt:k≠t:=fun e=>by subst e;rw[hk]at htn;simp at htn
       have hkd:k≠d:=fun e=>by subst e;rw[hk]at hd;simp at hd
       have hdl:d<st.objs.length:=lt_of_nth (by rw[hd];simp);have hkl:k<st.objs.length:=lt_of_nth (by rw[hk];simp);refine key t _ (es++rows) rfl hfree (by rw[List.length_append];exact hroom) (.inr ⟨k,es,rfl,hk⟩) (fun es' hes=>?_) (fun j=>?_) next Q hnx
       ·rcases hes with⟨he,_⟩|⟨k',he,hk'⟩
        ·simp at he
        ·simp only[V.arr.injEq]at he;subst he;rw[hk]at hk';simp only[Obj.arr.injEq]at hk';rw[hk'.2.1]
       ·simp only[upds,oldKey];by_cases h1:j=d
        ·subst h1;rw[nth_upd_same _ _ _ (by rw[length_upd,length_upd];exact hdl),if_pos rfl]
        ·rw[nth_upd_ne _ _ _ (Ne.symm h1),if_neg h1];by_cases h2:j=t
         ·subst h2;rw[nth_upd_same _ _ _ (by rw[length_upd];exact htlt),if_pos rfl]
         ·rw[nth_upd_ne _ _ _ (Ne.symm h2),if_neg h2];by_cases h3:j=k
          ·subst h3;rw[nth_upd_same _ _ _ hkl];simp
          ·rw[nth_upd_ne _ _ _ (Ne.symm h3)];simp[h3]
      ·trivial
     ·trivial
    ·trivial
   ·trivial
  ·trivial
 ·trivial
theorem conc_kill {k b c:Nat} {es:List (List D)} {v:V} {x:Value} {w':World} (h:Conc C B F0 w0 F loc st a w) (hk:nth .none st.objs k= .arr 1 es false) (hl:loc k=some (b,c)) (hkeep:Keeps w w' (fun j=>j=b))
 (hv:∀(loc:Where) (objs:List Obj) (w:World) (F:Nat→Prop),CV loc objs w F v x∧Ref objs v):St.has C B F0 w0 (st.put dst v [(k,.dead)]) (a.put dst x) w':=by
 have hck:=h.objs k;rw[hk]at hck;obtain⟨hroom,_,hlen,hck⟩:=hck;have hnF:¬F b:=by
  rcases hck with⟨h4,_⟩|⟨b3,c3,cs,t,h4,h5,_⟩
  ·rw[h4]at hl;simp at hl
  ·rw[h4]at hl;simp only[Option.some.injEq,Prod.mk.injEq]at hl;obtain⟨rfl,rfl⟩:=hl;exact h5
 have hkl:k<st.objs.length:=lt_of_nth (by rw[hk];simp);have hfk:=h.fresh _ _ _ hl;have hsz:=hkeep.below.size;have hsame:∀β,β<w.heap.size→β≠b→w'.heap[β]? =w.heap[β]? :=fun β h1 h2=>hkeep.block β h1 h2
 have hwF:∀β,F β→w'.heap[β]? =w.heap[β]? :=fun β hβ=>hsame β (h.bound β hβ) fun e=>hnF (e▸hβ)
 let loc':Where:=⟨loc.P,fun j=>if j=k then none else loc j,loc.ty⟩
 have hn:∀j,nth .none (upds st.objs [(k,.dead)]) j=if j=k then .dead else nth .none st.objs j:=by
  intro j;show nth .none (upd st.objs k .dead) j=_;by_cases h1:j=k
  ·subst h1;rw[nth_upd_same _ _ _ hkl,if_pos rfl]
  ·rw[nth_upd_ne _ _ _ (Ne.symm h1),if_neg h1]
 have hle:Le st.objs (upds st.objs [(k,.dead)]) loc loc':=by
  refine⟨rfl,fun j hj=>rfl,fun j hj=>?_,fun j o' hj hc hbx=>?_,fun j s' es' fz' hj hc=>?_⟩
  ·rw[hn];split
   ·simp
   ·exact hj
  ·rw[hn]at hc;split at hc
   ·rw[←hc]at hbx;simp[isBox]at hbx
   ·rename_i e;exact⟨by rw[hc];exact hbx,by simp[loc',e]⟩
  ·rw[hn]at hc;split at hc
   ·simp at hc
   ·rename_i e;exact⟨⟨_,_,hc,rfl⟩,by simp[loc',e]⟩
 have hbw:BelowX B w w':=⟨hkeep.below.os,hkeep.below.tape,hkeep.below.output,hkeep.below.size,fun j hj hjX=>hsame j (by have:=h.hB;omega) (fun e=>by
  rcases hfk.1 with h1|h1
  ·omega
  ·exact hjX (e▸h1))⟩
 refine⟨F,loc',h.step (fun _ h=>h) hwF hle (h.below.trans hbw) (by have:=h.hB;omega) (fun j=>?_) ?_ ?_ (fun β hβ=>by have:=h.bound β hβ;omega) h.fsub (hv _ _ _ _).1 (hv loc' _ w' F).2⟩
 ·rw[hn];by_cases h1:j=k
  ·rw[if_pos h1];show loc' j=none;simp[loc',h1]
  ·rw[if_neg h1];refine CO.le (fun _ h=>h) hwF hle (by simp[loc',h1]) rfl (fun β c hβ=>⟨?_,fun h=>h⟩) (h.objs j);refine hsame β (h.fresh _ _ _ hβ).2 fun e=>?_
   subst e;exact h1 (h.inj _ _ _ _ _ hβ hl)
 ·intro j j' β c c' g1 g2;simp only[loc']at g1 g2;split at g1
  ·simp at g1
  ·split at g2
   ·simp at g2
   ·exact h.inj _ _ _ _ _ g1 g2
 ·intro j β c g1;simp only[loc']at g1;split at g1
  ·simp at g1
  ·have:=h.fresh _ _ _ g1;exact⟨this.1,by omega⟩
theorem bytes_of {w:World} {F:Nat→Prop}:∀{es:List (List D)} {bs:List Value},bytesOk es=true→All2 (CD w F) es.flatten bs→bs=(toBytes es).map fun x=> .int .u8 x.toNat
 |[],bs,_,h=>by
  cases bs with
  |nil=>rfl
  |cons b bs=>exact h.elim
 |e::r,bs,hb,h=>by
  have hr:=rowsOf_toBytes hb;simp only[toBytes,rowsOf,List.map_cons,List.cons.injEq]at hr;have hb2:=hb;simp only[bytesOk,Bool.and_eq_true]at hb2;rw[←hr.1]at h;cases bs with
  |nil=>exact h.elim
  |cons b bs=>
   obtain⟨h1,h2⟩:=h;have hb':b= .int .u8 (toByte e).toNat:=by cases h1;rfl
   rw[hb',bytes_of hb2.2 h2];rfl
omit [Env] in
theorem toBytes_len:∀(es:List (List D)),(toBytes es).length=es.length
 |[]=>rfl
 |e::r=>by simp only[toBytes,List.length_cons];rw[toBytes_len r]
theorem effS_ok {T E fW fB fS:Nat} {args:Array Operand} {ts:Array TypeId} (hk:BldK C.P T E fW fB fS) (h:Conc C B F0 w0 F loc st a w):
 RSW C B F0 w0 st a w ⟨dst,.call ⟨.value (.func fS),args,ts⟩,ty,pos,after,g⟩ (onB T effS dst (args.toList.map (ev st)) st.objs):=by
 unfold onB;split
 ·rename_i v0 vs hargs;split
  ·rename_i hbt;unfold effS;split
   ·rename_i d hvs;obtain⟨fn,hf,hb,hn⟩:=hk.there fS (.inr (.inr rfl));obtain⟨x,hax,hx⟩:∃x,args.toList=[x]∧ev st x= .box d 0:=by
     match hl:args.toList with
     |[]=>rw[hl]at hvs;simp at hvs
     |[x]=>rw[hl]at hvs;simp only[List.map_cons,List.map_nil,List.cons.injEq]at hvs;exact⟨x,rfl,hvs.1⟩
     |_::_::_=>rw[hl]at hvs;simp at hvs
    have hxv:=(ev_ok h x).1;rw[hx]at hxv;rw[hvs]at hargs;simp only[List.cons.injEq]at hargs;obtain⟨rfl,rfl⟩:=hargs;split
    ·rename_i T' q hd;have hT:T'=T:=by simpa [isBT,hd]using hbt
     subst hT;obtain⟨b,c0,hl,hxv⟩:=hxv _ rfl (by rw[hd];rfl);have hae: #[.pointer (some ⟨b,0,none⟩)]=args.map a.eval:=by apply Array.ext';rw[Array.toList_map,hax,List.map_cons,hxv];rfl
     split
     ·obtain⟨b1,c1,p,v,own,bs,es,hl1,hblk,hp,hbuf,hall,hlen,hown⟩:=conc_buf h hd (.inl rfl);rw[hl]at hl1;simp only[Option.some.injEq,Prod.mk.injEq]at hl1;obtain⟨rfl,rfl⟩:=hl1;have hv:v= .slice none 0 0:=by
       rcases hown with⟨_,_,_,hv⟩|⟨k,hk,_⟩
       ·exact hv
       ·simp at hk
      subst hv;intro next Q hnx
      have hc:=hk.sn hblk;rw[hae]at hc;refine wp_entered hf hb hn hc fun e w' he=>?_
      obtain⟨rfl,hkeep⟩:=he;refine⟨_,rfl,hnx _ _ ⟨_,loc,h.behind ⟨hkeep.below.os,hkeep.below.tape,hkeep.below.output,hkeep.below.size,fun j hj=>hkeep.block j hj (fun h=>h)⟩ (CD.str []) trivial⟩⟩
     ·rename_i k;split
      ·rename_i sz es hke;split
       ·rename_i hsz;have hsz:sz=1:=Nat.eq_of_beq_eq_true hsz;subst hsz;intro hcnd next Q hnx
        obtain⟨b1,c1,p,v,own,bs,es',hl1,hblk,hp,hbuf,hall,hlen,hown⟩:=conc_buf h hd (.inr ⟨k,es,rfl,hke⟩);rw[hl]at hl1;simp only[Option.some.injEq,Prod.mk.injEq]at hl1;obtain⟨rfl,rfl⟩:=hl1;rcases hown with⟨h1,_⟩|⟨k',h1,h2,h3⟩
        ·simp at h1
        simp only[V.arr.injEq]at h1;subst h1;rw[hke]at h2;simp only[Obj.arr.injEq]at h2;obtain⟨_,rfl,_⟩:=h2;have hbs:=bytes_of hcnd.2 hall;cases own with
        |none=>obtain⟨_,h5⟩:=hbuf;have h6:=hall.length;rw[length_flatten hlen,h5]at h6;exact absurd (List.eq_nil_of_length_eq_zero (by simpa using h6)) hcnd.1
        |some gc=>
         obtain⟨g0,c⟩:=gc;rw[hk.elem,hbs]at hbuf;have hck:=h.objs k;rw[hke]at hck;have hroom:es.length≤1073741824:=hck.1.one;have hc:=hk.st (toBytes es) (fun e=>hcnd.1 (List.eq_nil_of_length_eq_zero (by rw[←toBytes_len,e];rfl))) hblk hbuf (by rw[toBytes_len];exact hroom);rw[hae]at hc;refine wp_entered hf hb hn hc fun e w' he=>?_
         obtain⟨rfl,hkeep⟩:=he;exact⟨_,rfl,hnx _ _ (conc_kill h hke h3.symm hkeep fun _ _ _ _=>⟨CD.str _,trivial⟩)⟩
       ·trivial
      ·trivial
     ·trivial
    ·trivial
   ·trivial
  ·trivial
 ·trivial
theorem effW_ok {T E fW fB fS:Nat} {args:Array Operand} {ts:Array TypeId} (hk:BldK C.P T E fW fB fS) (h:Conc C B F0 w0 F loc st a w):
 RSW C B F0 w0 st a w ⟨dst,.call ⟨.value (.func fW),args,ts⟩,ty,pos,after,g⟩ (onB T effW dst (args.toList.map (ev st)) st.objs):=by
 unfold onB;split
 ·rename_i v0 vs hargs;split
  ·rename_i hbt;unfold effW;split
   ·rename_i v s hvs;obtain⟨fn,hf,hb,hn⟩:=hk.there fW (.inl rfl);obtain⟨x,y,hax,hx,hy⟩:∃x y,args.toList=[x,y]∧ev st x=v∧ev st y= .c (.str s):=by
     match hl:args.toList with
     |[]=>rw[hl]at hvs;simp at hvs
     |[x]=>rw[hl]at hvs;simp at hvs
     |[x,y]=>rw[hl]at hvs;simp only[List.map_cons,List.map_nil,List.cons.injEq]at hvs;exact⟨x,y,rfl,hvs.1,hvs.2.1⟩
     |_::_::_::_=>rw[hl]at hvs;simp at hvs
    rw[hvs]at hargs;simp only[List.cons.injEq]at hargs;obtain⟨rfl,rfl⟩:=hargs;have hyv:=(ev_ok h y).1;rw[hy]at hyv;have hyv:a.eval y= .string ⟨⟨s⟩⟩:=(fun(u:Value) (hu:CD w F (.str s) u)=>(by cases hu;rfl:u= .string ⟨⟨s⟩⟩)) _ hyv;rw[←hx];rw[←hx]at hbt;have hsz:(⟨⟨s⟩⟩:ByteArray).size=s.length:=rfl;have hrl:(rowsOf s).length=s.length:=by simp[rowsOf]
    refine bldW_ok (T:=T) (ys:=[y]) h hf hb hn hax hk.one (fun d T' q h1 h2=>?_) (rowsOf_len s) (fun _ _=>all2_rows s) (rv:= .tuple #[.int .i64 s.length,.nilIface]) (fun loc objs w F=>⟨⟨_,rfl,.int _ _,.nilI,trivial⟩,trivial⟩) ?_
    ·have:T'=T:=by simpa [h1,isBT,h2]using hbt
     subst this;exact⟨rfl,hk.elem⟩
    ·intro w b p v own bs h1 h2 h3 h4;have hc:=hk.ws ⟨⟨s⟩⟩ h1 h2 h3 (by rw[hsz];omega);rw[hsz]at hc;have:(.pointer (some ⟨b,0,none⟩)::[y].map a.eval).toArray= #[.pointer (some ⟨b,0,none⟩),.string ⟨⟨s⟩⟩]:=by rw[List.map_cons,hyv];rfl
     rw[this];exact hc
   ·trivial
  ·trivial
 ·trivial
theorem effB_ok {T E fW fB fS:Nat} {args:Array Operand} {ts:Array TypeId} (hk:BldK C.P T E fW fB fS) (h:Conc C B F0 w0 F loc st a w):
 RSW C B F0 w0 st a w ⟨dst,.call ⟨.value (.func fB),args,ts⟩,ty,pos,after,g⟩ (onB T effB dst (args.toList.map (ev st)) st.objs):=by
 unfold onB;split
 ·rename_i v0 vs hargs;split
  ·rename_i hbt;unfold effB;split
   ·rename_i v n hvs;obtain⟨fn,hf,hb,hn⟩:=hk.there fB (.inr (.inl rfl));obtain⟨x,y,hax,hx,hy⟩:∃x y,args.toList=[x,y]∧ev st x=v∧ev st y= .c (.int .u8 n):=by
     match hl:args.toList with
     |[]=>rw[hl]at hvs;simp at hvs
     |[x]=>rw[hl]at hvs;simp at hvs
     |[x,y]=>rw[hl]at hvs;simp only[List.map_cons,List.map_nil,List.cons.injEq]at hvs;exact⟨x,y,rfl,hvs.1,hvs.2.1⟩
     |_::_::_::_=>rw[hl]at hvs;simp at hvs
    rw[hvs]at hargs;simp only[List.cons.injEq]at hargs;obtain⟨rfl,rfl⟩:=hargs;have hyv:=(ev_ok h y).1;rw[hy]at hyv;have hyv:a.eval y= .int .u8 n:=(fun(u:Value) (hu:CD w F (.int .u8 n) u)=>(by cases hu;rfl:u= .int .u8 n)) _ hyv;rw[←hx];rw[←hx]at hbt;refine bldW_ok (T:=T) (ys:=[y]) (news:=[.int .u8 n]) h hf hb hn hax hk.one (fun d T' q h1 h2=>?_) (fun e he=>by simp at he;subst he;rfl) (fun _ _=>⟨.int _ _,trivial⟩) (rv:= .nilIface) (fun loc objs w F=>⟨CD.nilI,trivial⟩) ?_
    ·have:T'=T:=by simpa [h1,isBT,h2]using hbt
     subst this;exact⟨rfl,hk.elem⟩
    ·intro w b p v own bs h1 h2 h3 h4;have hc:=hk.wb n h1 h2 h3 h4;have:(.pointer (some ⟨b,0,none⟩)::[y].map a.eval).toArray= #[.pointer (some ⟨b,0,none⟩),.int .u8 n]:=by rw[List.map_cons,hyv];rfl
     rw[this];exact hc
   ·trivial
  ·trivial
 ·trivial
theorem effOk_of {T E fW fB fS:Nat} (hk:BldK C.P T E fW fB fS) (he:C.eff=bldEff T fW fB fS):EffOk C where
 rs:=by
  intro f e hf B F0 w0 F loc st a w dst args ts ty pos after g h;rw[he]at hf;rcases bldEff_cases hf with⟨rfl,rfl⟩|⟨rfl,rfl⟩|⟨rfl,rfl⟩
  ·exact effW_ok hk h
  ·exact effB_ok hk h
  ·exact effS_ok hk h
 ag:=by
  intro f e hf dst vs ob ob' h hd;rw[he]at hf;have hW:∀(e:Option Nat→List V→List Obj→R),(e dst vs ob=e dst vs ob')→onB T e dst vs ob=onB T e dst vs ob':=by
   intro e hee;unfold onB;split
   ·rename_i v r;rw[isBT_ag (ob:=ob) (ob':=ob') fun k hk=>h k (by
     rw[mem_deepB]at hk ⊢;obtain⟨j,hj,h2⟩:=hk;exact⟨j,by simp only[List.flatMap_cons,List.mem_append];exact .inl hj,h2⟩),hee]
   ·rfl
  rcases bldEff_cases hf with⟨rfl,rfl⟩|⟨rfl,rfl⟩|⟨rfl,rfl⟩
  ·apply hW;unfold effW;split
   ·exact bldW_ag (fun k hk=>h k (by simpa [keysV]using hk)) hd
   ·rfl
  ·apply hW;unfold effB;split
   ·exact bldW_ag (fun k hk=>h k (by simpa [keysV]using hk)) hd
   ·rfl
  ·exact hW _ (effS_ag h)
 good:=by
  intro f e hf dst vs ob hv hb;rw[he]at hf;have hW:∀(e:Option Nat→List V→List Obj→R),EffR (C.wd f) dst (deepB ob (vs.flatMap keysV)) ob (e dst vs ob)→EffR (C.wd f) dst (deepB ob (vs.flatMap keysV)) ob (onB T e dst vs ob):=by
   intro e hee;unfold onB;split
   ·split
    ·exact hee
    ·trivial
   ·trivial
  rcases bldEff_cases hf with⟨rfl,rfl⟩|⟨rfl,rfl⟩|⟨rfl,rfl⟩
  ·apply hW;unfold effW;split
   ·rename_i v s;have:=fun wd=>bldW_good (wd:=wd) (dst:=dst) (v:=v) (rows:=rowsOf s) (res:= .tp [.c (.int .i64 s.length),.c .nilI]) (ob:=ob) rfl (hv v (by simp)) hb
    simpa [keysV]using this _
   ·trivial
  ·apply hW;unfold effB;split
   ·rename_i v n;have:=fun wd=>bldW_good (wd:=wd) (dst:=dst) (v:=v) (rows:=[[.int .u8 n]]) (res:= .c .nilI) (ob:=ob) rfl (hv v (by simp)) hb
    simpa [keysV]using this _
   ·trivial
  ·exact hW _ effS_good
end
end Eng
end

section
namespace Eng
open Go Go.RowKit
variable [Env]
structure EffAt (C:Cx) (f:Nat) (e:Option Nat→List V→List Obj→R):Prop where
 rs:∀{B:Bd} {F0:Nat→Prop} {w0:World} {F:Nat→Prop} {loc:Where} {st:St} {a:Act} {w:World} {dst:Option Nat} {args:Array Operand} {ts:Array TypeId} {ty:TypeId} {pos:String} {after:Array Edge} {g:Option (Nat×Bool)},
  Conc C B F0 w0 F loc st a w→RSW C B F0 w0 st a w ⟨dst,.call ⟨.value (.func f),args,ts⟩,ty,pos,after,g⟩ (e dst (args.toList.map (ev st)) st.objs)
 ag:∀(dst:Option Nat) (vs:List V) (ob ob':List Obj),(∀k∈deepB ob (vs.flatMap keysV),nth .none ob k=nth .none ob' k)→(∀d,newK (C.wd f) dst d→freeKey ob d=freeKey ob' d)→e dst vs ob=e dst vs ob'
 good:∀(dst:Option Nat) (vs:List V) (ob:List Obj),(∀v∈vs,∀k∈keysV v,nth .none ob k≠ .none)→(∀k,∀u∈objVs (nth .none ob k),∀j∈keysV u,nth .none ob j≠ .none)→EffR (C.wd f) dst (deepB ob (vs.flatMap keysV)) ob (e dst vs ob)
theorem effOk_all {C:Cx} (h:∀f e,C.eff f=some e→EffAt C f e):EffOk C where
 rs hf _ _ _ _ _ _ _ _ _ _ _ _ _ _ _ hc:=(h _ _ hf).rs hc
 ag hf:=(h _ _ hf).ag
 good hf:=(h _ _ hf).good
theorem effAt_bld {C:Cx} {T E fW fB fS:Nat} (hk:BldK C.P T E fW fB fS) {f:Nat} {e:Option Nat→List V→List Obj→R} (hf:bldEff T fW fB fS f=some e):EffAt C f e:=by
 have h:EffOk ⟨C.P,C.G,C.bt,bldEff T fW fB fS,C.keep,C.wd⟩:=effOk_of hk rfl;have hc:∀{B:Bd} {F0:Nat→Prop} {w0:World} {F:Nat→Prop} {loc:Where} {st:St} {a:Act} {w:World},Conc C B F0 w0 F loc st a w→Conc ⟨C.P,C.G,C.bt,bldEff T fW fB fS,C.keep,C.wd⟩ B F0 w0 F loc st a w:=
  fun h=>⟨h.prog,h.below,h.hB,h.defers,h.tmps,h.refs,h.objs,h.inj,h.fresh,h.bound,h.fsub,h.fsup,h.inv⟩
 have hb:∀{B:Bd} {F0:Nat→Prop} {w0:World} {st:St} {a:Act} {w:World},St.has ⟨C.P,C.G,C.bt,bldEff T fW fB fS,C.keep,C.wd⟩ B F0 w0 st a w→St.has C B F0 w0 st a w:=
  fun⟨F,loc,h⟩=>⟨F,loc,h.prog,h.below,h.hB,h.defers,h.tmps,h.refs,h.objs,h.inj,h.fresh,h.bound,h.fsub,h.fsup,h.inv⟩
 refine⟨fun{B F0 w0 F loc st a w dst args ts ty pos after g} hconc=>?_,h.ag hf,h.good hf⟩;have h1:=h.rs hf (dst:=dst) (args:=args) (ts:=ts) (ty:=ty) (pos:=pos) (after:=after) (g:=g) (hc hconc);have h2:=h.good hf dst (args.toList.map (ev st)) st.objs (fun v hv k hk=>by
  obtain⟨x,hx,rfl⟩:=List.mem_map.1 hv;have:=(ev_ok hconc x).2;cases hxv:ev st x<;>rw[hxv]at hk this<;>simp only[keysV,List.mem_singleton,List.not_mem_nil]at hk<;>first|(subst hk;exact this)|exact this k hk) (fun k u hu j hj=>by
  have hwf:=has_WF ⟨F,loc,hconc⟩;exact hwf.2 k u hu j hj)
 generalize e dst (args.toList.map (ev st)) st.objs=r at *;cases r with
 |fail=>trivial
 |ok v up=>exact fun next Q hn=>h1 next Q fun a' w' hh=>hn a' w' (hb hh)
 |cond c v up=>exact fun hcc next Q hn=>h1 hcc next Q fun a' w' hh=>hn a' w' (hb hh)
 |look z row off ag=>exact h2.elim
 |call f as sh up=>exact h2.elim
structure ExtK (P:Program) (f:Nat) (run:Array Value→Sem Value):Prop where
 run:∀(args:Array Value) (w:World),(callFunc f args).run P w=((run args).run P w).andThen fun v w'=> .ok (.value v) w'
def effIdx (_:Option Nat) (vs:List V) (_:List Obj):R:=
 match vs with
 |[.c (.str s),.c (.int .u8 n)]=> .ok (.c (.int .i64 (Lib.indexByte s n.toNat.toUInt8))) []
 |_=> .fail
def effCnt (_:Option Nat) (vs:List V) (_:List Obj):R:=
 match vs with
 |[.c (.str s),.c (.int .u8 n)]=> .ok (.c (.int .i64 (Lib.countByte s n.toNat.toUInt8))) []
 |_=> .fail
omit [Env] in
theorem goodE {wd:Bool} {dst:Option Nat} {ks:List Nat} {ob:List Obj} {r:R} (h:∃d:D,r= .fail∨r= .ok (.c d) []):EffR wd dst ks ob r:=by
 obtain⟨d,rfl|rfl⟩:=h
 ·trivial
 ·exact⟨fun p hp=>by simp at hp,fun k hk=>by simp[keysV]at hk⟩
theorem effAt_ext {C:Cx} {f:Nat} {run:Array Value→Sem Value} (hk:ExtK C.P f run) {e:Option Nat→List V→List Obj→R} {d:List UInt8→Int→D}
 (he:e=fun _ vs _=>match vs with|[.c (.str s),.c (.int .u8 n)]=> .ok (.c (d s n)) []|_=> .fail)
 (hd:∀s n (w:World) (F:Nat→Prop),∃v,(run #[.string ⟨⟨s⟩⟩,.int .u8 n]).run C.P w= .ok v w∧CD w F (d s n) v):EffAt C f e:=by
 subst he;refine⟨fun{B F0 w0 F loc st a w dst args ts ty pos after g} h=>?_,fun _ _ _ _ _ _=>rfl,fun dst vs ob _ _=>?_⟩
 ·show RSW C B F0 w0 st a w _ (match args.toList.map (ev st)with|[.c (.str s),.c (.int .u8 n)]=> .ok (.c (d s n)) []|_=> .fail);split
  ·rename_i s n hvs;obtain⟨x,y,hax,hx,hy⟩:∃x y,args.toList=[x,y]∧ev st x= .c (.str s)∧ev st y= .c (.int .u8 n):=by
    match hl:args.toList with
    |[]=>rw[hl]at hvs;simp at hvs
    |[x]=>rw[hl]at hvs;simp at hvs
    |[x,y]=>rw[hl]at hvs;simp only[List.map_cons,List.map_nil,List.cons.injEq]at hvs;exact⟨x,y,rfl,hvs.1,hvs.2.1⟩
    |_::_::_::_=>rw[hl]at hvs;simp at hvs
   have hxv:=(ev_ok h x).1;have hyv:=(ev_ok h y).1;rw[hx]at hxv;rw[hy]at hyv;have hxv:=str_inv hxv;have hyv:=int_inv hyv;obtain⟨v,hv,hcd⟩:=hd s n w F;have hargs:args.map a.eval= #[.string ⟨⟨s⟩⟩,.int .u8 n]:=by apply Array.ext';rw[Array.toList_map,hax,List.map_cons,List.map_cons,hxv,hyv];rfl
   refine rsw (r:= .ok (.c (d s n)) []) (rs_value h (x:=v) hcd trivial ?_);have:=hk.run #[.string ⟨⟨s⟩⟩,.int .u8 n] w;rw[hv]at this;simp only[execOp,resolve,Act.eval,Deferred.ofValue,invoke,hargs]
   simpa using this
  ·trivial
 ·refine goodE ?_;split
  ·exact⟨_,.inr rfl⟩
  ·exact⟨.undef,.inl rfl⟩
theorem effAt_idx {C:Cx} {f:Nat} (hk:ExtK C.P f Extern.BytealgIndexByte.indexByte):EffAt C f effIdx:=
 effAt_ext hk (d:=fun s n=> .int .i64 (Lib.indexByte s n.toNat.toUInt8)) rfl fun s n w _=>⟨_,Lib.run_indexByteString ⟨⟨s⟩⟩ n w,.int _ _⟩
theorem effAt_cnt {C:Cx} {f:Nat} (hk:ExtK C.P f Extern.BytealgCount.count):EffAt C f effCnt:=
 effAt_ext hk (d:=fun s n=> .int .i64 (Lib.countByte s n.toNat.toUInt8)) rfl fun s n w _=>⟨_,Lib.run_countString ⟨⟨s⟩⟩ n w,.int _ _⟩
end Eng
end

section
namespace Eng
open Go Go.RowKit Go.Sort
variable [Env]
def subT (by_ c:Int):List Int→Int
 |[]=>c
 |y::_=>IntKind.u64.wrap (c+IntKind.u64.wrap (IntKind.u64.wrap y*by_))
def resT (x c:Int):List Int→Int
 |[]=>IntKind.u32.wrap (x+c)
 |y::_=>IntKind.u32.wrap (IntKind.u32.wrap (x+c)+y)
def subF (by_:Int):List Int→List Int→Int→Int→List Int×Int×Int
 |[],_,c,b=>([],c,b)
 |x::us,vs,c,b=>
  let t:=subT by_ c vs
  let y:=IntKind.u64.wrap (t.tmod 1000000000+b)
  match decide (IntKind.u64.wrap x<y)with
  |true=>
   let r:=subF by_ us vs.tail (IntKind.u64.wrap (t.tdiv 1000000000)) 1
   (IntKind.u32.wrap (IntKind.u64.wrap (IntKind.u64.wrap (IntKind.u64.wrap x+1000000000)-y))::r.1,r.2)
  |false=>
   let r:=subF by_ us vs.tail (IntKind.u64.wrap (t.tdiv 1000000000)) 0
   (IntKind.u32.wrap (IntKind.u64.wrap (IntKind.u64.wrap x-y))::r.1,r.2)
def resF:List Int→List Int→Int→List Int
 |[],_,_=>[]
 |x::us,vs,c=>
  let t:=resT x c vs
  match decide (1000000000≤t)with
  |true=>IntKind.u32.wrap (t-1000000000)::resF us vs.tail 1
  |false=>t::resF us vs.tail 0
omit [Env] in
theorem subF_length (by_:Int):∀(us vs:List Int) (c b:Int),(subF by_ us vs c b).1.length=us.length
 |[],_,_,_=>rfl
 |x::us,vs,c,b=>by simp only[subF];split<;>simp[subF_length by_ us]
omit [Env] in
theorem resF_length:∀(us vs:List Int) (c:Int),(resF us vs c).length=us.length
 |[],_,_=>rfl
 |x::us,vs,c=>by simp only[resF];split<;>simp[resF_length us]
structure SubK (P:Program) (fS fR:Nat):Prop where
 there:∀f,f=fS∨f=fR→∃fn,P.funcs[f]? =some fn∧fn.body≠none∧fn.name≠ "runtime.NumGoroutine"
 sub:∀{w:World} {g off cap bv ov cv:Nat} (us vs:List Int) (by_:Int),Holds (Value.int .u32) w g off us.toArray→bv≠g→us.length≤1073741824→vs.length≤1073741824→
  (∀j (h:j<vs.length),w.cell? ⟨bv,ov+j,none⟩=some (.int .u32 vs[j]))→
  Calls P fS #[.slice (some ⟨g,off,none⟩) us.length cap,.slice (some ⟨bv,ov,none⟩) vs.length cv,.int .u64 by_] w fun e w'=>
   e= .returned (.bool (decide (0<(subF by_ us vs 0 0).2.2)||decide (0<(subF by_ us vs 0 0).2.1)))∧w'=putRow (Value.int .u32) w g off (subF by_ us vs 0 0).1.toArray
 res:∀{w:World} {g off cap bv ov cv:Nat} (us vs:List Int),Holds (Value.int .u32) w g off us.toArray→bv≠g→us.length≤1073741824→vs.length≤1073741824→
  (∀j (h:j<vs.length),w.cell? ⟨bv,ov+j,none⟩=some (.int .u32 vs[j]))→
  Calls P fR #[.slice (some ⟨g,off,none⟩) us.length cap,.slice (some ⟨bv,ov,none⟩) vs.length cv] w fun e w'=>
   e= .returned (.tuple #[])∧w'=putRow (Value.int .u32) w g off (resF us vs 0).toArray
def intB:List D→Bool
 |[.int .u32 _]=>true
 |_=>false
def intsB:List (List D)→Bool
 |[]=>true
 |e::r=>intB e&&intsB r
def intD:List D→Int
 |[.int _ n]=>n
 |_=>0
def intsD (es:List (List D)):List Int:=es.map intD
def ofInts (l:List Int):List (List D):=l.map fun n=>[.int .u32 n]
omit [Env] in
theorem intsB_ok:∀{es:List (List D)},intsB es=true→es=ofInts (intsD es)
 |[],_=>rfl
 |e::r,h=>by
  simp only[intsB,Bool.and_eq_true]at h;have ih:=intsB_ok h.2;have he:=h.1;unfold intB at he;split at he
  ·simp only[ofInts,intsD,List.map_cons,intD]at ih ⊢;rw[←ih]
  ·simp at he
omit [Env] in
theorem ofInts_flatten (l:List Int):(ofInts l).flatten=l.map (D.int .u32):=by
 induction l with
 |nil=>rfl
 |cons c l ih=>simp only[ofInts,List.map_cons,List.flatten_cons]at ih ⊢;rw[ih];rfl
omit [Env] in
theorem ofInts_length (l:List Int):(ofInts l).length=l.length:=by simp[ofInts]
omit [Env] in
theorem ofInts_one (l:List Int):∀e∈ofInts l,e.length=1:=by
 intro e he;simp only[ofInts,List.mem_map]at he;obtain⟨c,_,rfl⟩:=he;rfl
def effPart (c:Prop) [Decidable c] (res:List Int→V) (new:List Int→List Int) (x:V) (ob:List Obj):R:=
 match x with
 | .sub k off len=>match nth .none ob k with
  | .arr s es false=>match Nat.beq s 1 with
   |true=> .cond (c∧0<len∧off+len≤es.length∧intsB ((es.drop off).take len)=true) (res (intsD ((es.drop off).take len))) [(k,.arr 1 (es.take off++ofInts (new (intsD ((es.drop off).take len)))++es.drop (off+len)) false)]
   |false=> .fail
  |_=> .fail
 |_=> .fail
def effSub (_:Option Nat) (vs:List V) (ob:List Obj):R:=
 match vs with
 |[x,.c (.sl ys),.c (.int .u64 n)]=>effPart (ys≠[]∧intsB ys=true∧ys.length≤1073741824)
  (fun us=> .c (.bool (decide (0<(subF n us (intsD ys) 0 0).2.2)||decide (0<(subF n us (intsD ys) 0 0).2.1)))) (fun us=>(subF n us (intsD ys) 0 0).1) x ob
 |_=> .fail
def effRes (_:Option Nat) (vs:List V) (ob:List Obj):R:=
 match vs with
 |[x,.c (.sl ys)]=>effPart (ys≠[]∧intsB ys=true∧ys.length≤1073741824) (fun _=> .tp []) (fun us=>resF us (intsD ys) 0) x ob
 |_=> .fail
omit [Env] in
theorem effPart_ag {c:Prop} [Decidable c] {res:List Int→V} {new:List Int→List Int} {x:V} {ob ob':List Obj} (h:∀k∈deepB ob (keysV x),nth .none ob k=nth .none ob' k):effPart c res new x ob=effPart c res new x ob':=by
 cases x with
 |sub k off len=>simp only[effPart];rw[h k (by simp[keysV,mem_deepB])]
 |_=>rfl
omit [Env] in
theorem effPart_good {wd:Bool} {dst:Option Nat} {c:Prop} [Decidable c] {res:List Int→V} {new:List Int→List Int} (hres:∀us,keysV (res us)=[]) {x:V} {ob:List Obj}:EffR wd dst (deepB ob (keysV x)) ob (effPart c res new x ob):=by
 unfold effPart;split
 ·rename_i k off len;split
  ·rename_i s es hk;split
   ·refine⟨fun p hp=>?_,fun j hj=>by rw[hres]at hj;simp at hj⟩;simp only[List.mem_singleton]at hp;subst hp;exact⟨.inr ⟨by simp[keysV,mem_deepB],by rw[hk];simp⟩,by simp,fun u hu=>by simp[objVs]at hu⟩
   ·trivial
  ·trivial
 ·trivial
section
variable {C:Cx} {B:Bd} {F0:Nat→Prop} {w0:World} {F:Nat→Prop} {loc:Where} {st:St} {a:Act} {w:World}
variable {dst:Option Nat} {ty:TypeId} {pos:String} {after:Array Edge} {g:Option (Nat×Bool)}
theorem conc_part {k off len b c:Nat} {es:List (List D)} {us us':List Int} {v:V} {x:Value} (h:Conc C B F0 w0 F loc st a w) (hk:nth .none st.objs k= .arr 1 es false) (hl:loc k=some (b,c))
 (hle:off+len≤es.length) (hus:(es.drop off).take len=ofInts us) (hlen:us'.length=us.length)
 (hv:∀(loc:Where) (objs:List Obj) (w:World) (F:Nat→Prop),CV loc objs w F v x∧Ref objs v):
 St.has C B F0 w0 (st.put dst v [(k,.arr 1 (es.take off++ofInts us'++es.drop (off+len)) false)]) (a.put dst x) (putRow (Value.int .u32) w b off us'.toArray):=by
 have hul:us.length=len:=by have:=congrArg List.length hus;rw[ofInts_length,List.length_take,List.length_drop]at this;omega
 have hck:=h.objs k;rw[hk]at hck;obtain⟨hroom,_,hone,hck⟩:=hck;rcases hck with⟨h4,_⟩|⟨b',c',cs,t,h4,h5,h6,h7,h8,h9,h10,h11⟩
 ·rw[h4]at hl;simp at hl
 rw[h4]at hl;simp only[Option.some.injEq,Prod.mk.injEq]at hl;obtain⟨rfl,rfl⟩:=hl;have hfk:=h.fresh _ _ _ h4;have hkl:k<st.objs.length:=lt_of_nth (by rw[hk];simp);generalize hes':es.take off++ofInts us'++es.drop (off+len)=es' at *;have hel:es'.length=es.length:=by rw[←hes'];simp only[List.length_append,List.length_take,List.length_drop,ofInts_length];omega
 have hes1:∀e∈es',e.length=1:=by
  rw[←hes'];intro e he;simp only[List.mem_append]at he;rcases he with(he|he)|he
  ·exact hone e (List.mem_of_mem_take he)
  ·exact ofInts_one us' e he
  ·exact hone e (List.mem_of_mem_drop he)
 have hn:∀j,nth .none (upd st.objs k (.arr 1 es' false)) j=if j=k then .arr 1 es' false else nth .none st.objs j:=by
  intro j;by_cases h1:j=k
  ·subst h1;rw[nth_upd_same _ _ _ hkl,if_pos rfl]
  ·rw[nth_upd_ne _ _ _ (Ne.symm h1),if_neg h1]
 have hheap:∀β,β≠b'→(putRow (Value.int .u32) w b' off us'.toArray).heap[β]? =w.heap[β]? :=by intro β hβ;show(w.heap.modify b' _)[β]? =_;rw[Array.getElem?_modify,if_neg (Ne.symm hβ)]
 have hblk:(putRow (Value.int .u32) w b' off us'.toArray).heap[b']? =some (.cells (Go.Sort.putCells (Value.int .u32) off us'.toArray cs) t (0,0)):=by show(w.heap.modify b' _)[b']? =_;rw[Array.getElem?_modify,if_pos rfl,h6];rfl
 have hwF:∀β,F β→(putRow (Value.int .u32) w b' off us'.toArray).heap[β]? =w.heap[β]? :=fun β hβ=>hheap β fun e=>h5 (e▸hβ)
 have hle':Le st.objs (upd st.objs k (.arr 1 es' false)) loc loc:=by
  refine⟨rfl,fun _ _=>rfl,fun j hj=>?_,fun j o' hj hc hbx=>?_,fun j s' es2 fz' hj hc=>?_⟩
  ·rw[hn];split
   ·simp
   ·exact hj
  ·rw[hn]at hc;split at hc
   ·rw[←hc]at hbx;simp[isBox]at hbx
   ·exact⟨by rw[hc];exact hbx,rfl⟩
  ·rw[hn]at hc;split at hc
   ·rename_i e;subst e;simp only[Obj.arr.injEq]at hc;obtain⟨rfl,rfl,rfl⟩:=hc;exact⟨⟨es,false,hk,hel⟩,rfl⟩
   ·exact⟨⟨_,_,hc,rfl⟩,rfl⟩
 refine⟨F,loc,h.step (up:=[(k,.arr 1 es' false)]) (fun _ h=>h) hwF hle' (h.below.trans ⟨rfl,rfl,rfl,by rw[size_putRow];exact Nat.le_refl _,fun j hj hjX=>hheap j (fun e=>by
  rcases hfk.1 with h1|h1
  ·omega
  ·exact hjX (e▸h1))⟩) (by rw[size_putRow];exact h.hB) (fun j=>?_) h.inj (fun j β c hβ=>by rw[size_putRow];exact h.fresh j β c hβ) (fun β hβ=>by rw[size_putRow];exact h.bound β hβ) h.fsub (hv _ _ _ _).1 (hv loc _ w F).2⟩
 show CO loc (upd st.objs k (.arr 1 es' false)) _ F j (nth .none (upd st.objs k (.arr 1 es' false)) j);rw[hn];by_cases h1:j=k
 ·subst h1;rw[if_pos rfl];refine⟨by rw[hel];exact hroom,by omega,hes1,.inr ⟨b',c',_,t,h4,h5,hblk,?_,by omega,fun i hi=>?_,h10,h11⟩⟩
  ·simp only[Go.Sort.putCells,Array.size_mapIdx];exact h7
  ·rw[Nat.mul_one]at hi;obtain⟨u,hu,hcd⟩:=h9 i (by omega);have hcd':=hcd.mono (F':=F) (fun _ h=>h) hwF;have hget:(Go.Sort.putCells (Value.int .u32) off us'.toArray cs)[i]? =some (if off≤i∧i<off+us'.length then Value.int .u32 (us'.toArray[i-off]!)else u):=by simp only[Go.Sort.putCells,Array.getElem?_mapIdx,hu,Option.map_some,List.size_toArray]
   refine⟨_,hget,?_⟩;have hnf:∀(l:List (List D)),(∀e∈l,e.length=1)→∀i,i<l.length→nth .undef l.flatten i=nth .undef (nth [] l i) 0:=fun l hl i hi=>by
    have:=nth_flatten hl i 0 hi (by omega)
    simpa using this
   rw[hnf es' hes1 i hi];rw[hnf es hone i (by omega)]at hcd';by_cases hr:off≤i∧i<off+us'.length
   ·rw[if_pos hr];have hiu:i-off<us'.length:=by omega
    have:nth [] es' i=[D.int .u32 (us'[i-off])]:=by
     rw[←hes',nth_eq,List.append_assoc,List.getElem?_append_right (by simp;omega),List.getElem?_append_left (by simp[ofInts_length];omega)];have e1:i-(es.take off).length=i-off:=by simp;omega
     rw[e1];simp[ofInts,hiu]
    rw[this];have:us'.toArray[i-off]! =us'[i-off]:=by simp[hiu]
    rw[this];exact .int _ _
   ·rw[if_neg hr];have:nth [] es' i=nth [] es i:=by
     rw[←hes'];simp only[nth_eq];by_cases h2:i<off
     ·rw[List.append_assoc,List.getElem?_append_left (by simp;omega),List.getElem?_take_of_lt h2]
     ·rw[List.getElem?_append_right (by simp[ofInts_length];omega),List.getElem?_drop];congr 2;simp[ofInts_length];omega
    rw[this];exact hcd'
 ·rw[if_neg h1];refine CO.le (fun _ h=>h) hwF hle' rfl rfl (fun β c hβ=>⟨?_,fun h=>h⟩) (h.objs j);refine hheap β fun e=>?_
  subst e;exact h1 (h.inj _ _ _ _ _ hβ h4)
theorem effPart_ok {f:Nat} {fn:Func} {x:Operand} {zs:List Operand} {c:Prop} [Decidable c] {res:List Int→V} {new:List Int→List Int} {args:Array Operand} {ts:Array TypeId}
 (h:Conc C B F0 w0 F loc st a w) (hf:C.P.funcs[f]? =some fn) (hb:fn.body≠none) (hn:fn.name≠ "runtime.NumGoroutine") (hargs:args.toList=x::zs)
 (hc:c→∀{g off cap:Nat} (us:List Int),Holds (Value.int .u32) w g off us.toArray→¬F g→us.length≤1073741824→(new us).length=us.length∧∃rv,(∀(loc:Where) (objs:List Obj) (w:World) (F:Nat→Prop),CV loc objs w F (res us) rv∧Ref objs (res us))∧
  Calls C.P f (.slice (some ⟨g,off,none⟩) us.length cap::zs.map a.eval).toArray w fun e w'=>e= .returned rv∧w'=putRow (Value.int .u32) w g off (new us).toArray):
 RSW C B F0 w0 st a w ⟨dst,.call ⟨.value (.func f),args,ts⟩,ty,pos,after,g⟩ (effPart c res new (ev st x) st.objs):=by
 have hx:=(ev_ok h x).1;unfold effPart;split
 ·rename_i k off len hxv;rw[hxv]at hx;split
  ·rename_i s es hk;split
   ·rename_i hs;have hs:s=1:=Nat.eq_of_beq_eq_true hs;subst hs;rintro⟨hcc,hl0,hle,hus⟩;have hus:=intsB_ok hus;generalize hue:intsD ((es.drop off).take len)=us at *;obtain⟨b,cp,hl,hle2,hxe⟩:=(hx 1 es false hk).resolve_right (by rintro(⟨_,_,_,_,h4,_⟩|⟨_,_,_,h4,_⟩)<;>omega);have hul:us.length=len:=by have:=congrArg List.length hus;rw[ofInts_length,List.length_take,List.length_drop]at this;omega
    have hck:=h.objs k;rw[hk]at hck;obtain⟨hroom,_,hone,hck⟩:=hck;rcases hck with⟨h4,_⟩|⟨b',c',cs,t,h4,h5,h6,h7,h8,h9,h10,h11⟩
    ·rw[h4]at hl;simp at hl
    rw[h4]at hl;simp only[Option.some.injEq,Prod.mk.injEq]at hl;obtain⟨rfl,rfl⟩:=hl;have hholds:Holds (Value.int .u32) w b' off us.toArray:=by
     intro j hj;have hj:j<us.length:=by simpa using hj
     obtain⟨u,hu,hcd⟩:=h9 (off+j) (by omega);have hel:nth [] es (off+j)=[D.int .u32 us[j]]:=by
      have:nth [] ((es.drop off).take len) j=nth [] es (off+j):=by simp only[nth_eq];rw[List.getElem?_take_of_lt (by omega),List.getElem?_drop]
      rw[←this,hus,nth_eq];simp[ofInts,hj]
     have hnf:=nth_flatten hone (off+j) 0 (by omega) (by omega);rw[Nat.mul_one,Nat.add_zero,hel]at hnf;rw[hnf]at hcd;have hu':u= .int .u32 us[j]:=by cases(hcd:CD _ _ (.int .u32 us[j]) _);rfl
     subst hu';refine⟨?_,?_⟩
     ·rw[Lib.cell_of_heap h6,hu];simp[hj]
     ·exact Lib.frozen_of_heap h6 _
    have hr:us.length≤1073741824:=by have:es.length≤1073741824:=hroom.one;omega
    obtain⟨hlen,rv,hrv,hcall⟩:=hc hcc (cap:=c'-off) us hholds h5 hr;intro next Q hnx
    have hae:(.slice (some ⟨b',off,none⟩) us.length (c'-off)::zs.map a.eval).toArray=args.map a.eval:=by apply Array.ext';rw[Array.toList_map,hargs,List.map_cons,hxe,hul,Nat.mul_one]
    rw[hae]at hcall;refine wp_entered hf hb hn hcall fun e w' he=>?_
    obtain⟨rfl,rfl⟩:=he;exact⟨_,rfl,hnx _ _ (conc_part h hk h4 hle hus hlen hrv)⟩
   ·trivial
  ·trivial
 ·trivial
theorem ints_row {ys:List (List D)} {x:Value} (hx:CD w F (.sl ys) x) (hne:ys≠[]) (hl:intsB ys=true):∃b o c,x= .slice (some ⟨b,o,none⟩) (intsD ys).length c∧F b∧∀j (hj:j<(intsD ys).length),w.cell? ⟨b,o+j,none⟩=some (.int .u32 (intsD ys)[j]):=by
 have hys:=intsB_ok hl;generalize intsD ys=l at *;obtain⟨ad,c,hxe,hlc,hrow⟩:=hx.slice_inv;rcases hrow with h0|⟨b,o,size,rfl,hrow⟩
 ·exact absurd h0 hne
 ·subst hys;have hs1:size=1:=by obtain⟨e,r,he⟩:=List.exists_cons_of_ne_nil hne;have h1:=hrow.hs e (by rw[he];simp);have h2:=ofInts_one l e (by rw[he];simp);omega
  subst hs1;rw[ofInts_length]at hxe;refine⟨b,o,c,hxe,hrow.hF,fun j hj=>?_⟩;obtain⟨v,h1,h2⟩:=hrow.hc j (by rw[ofInts_length];omega);rw[ofInts_flatten,nth_of_lt _ (by simpa using hj),List.getElem_map]at h2;have:v= .int .u32 l[j]:=by cases(h2:CD _ _ (.int .u32 l[j]) _);rfl
  rw[h1,this]
omit [Env] in
theorem intsD_length (ys:List (List D)):(intsD ys).length=ys.length:=by simp[intsD]
theorem effAt_sub {fS fR:Nat} (hk:SubK C.P fS fR):EffAt C fS effSub:=by
 refine⟨fun{B F0 w0 F loc st a w dst args ts ty pos after g} h=>?_,fun dst vs ob ob' h hd=>?_,fun dst vs ob hv hb=>?_⟩
 ·unfold effSub;split
  ·rename_i v ys n hvs;obtain⟨x,y2,z,hax,hx,hy,hz⟩:∃x y2 z,args.toList=[x,y2,z]∧ev st x=v∧ev st y2= .c (.sl ys)∧ev st z= .c (.int .u64 n):=by
    match hl:args.toList with
    |[]=>rw[hl]at hvs;simp at hvs
    |[x]=>rw[hl]at hvs;simp at hvs
    |[x,y]=>rw[hl]at hvs;simp at hvs
    |[x,y,z]=>rw[hl]at hvs;simp only[List.map_cons,List.map_nil,List.cons.injEq]at hvs;exact⟨x,y,z,rfl,hvs.1,hvs.2.1,hvs.2.2.1⟩
    |_::_::_::_::_=>rw[hl]at hvs;simp at hvs
   obtain⟨fn,hf,hb,hn⟩:=hk.there fS (.inl rfl);have hyv:=(ev_ok h y2).1;rw[hy]at hyv;have hzv:=(ev_ok h z).1;rw[hz]at hzv;have hzv:=int_inv hzv;rw[←hx];refine effPart_ok (zs:=[y2,z]) h hf hb hn hax ?_;rintro⟨hne,hints,hlen2⟩ g off cap us hH hnF hlen;obtain⟨b,o,c,hye,hF,hcells⟩:=ints_row hyv hne hints;refine⟨subF_length _ _ _ _ _,_,fun loc objs w F=>⟨CD.bool _,trivial⟩,?_⟩;have:=hk.sub (cap:=cap) (cv:=c) us (intsD ys) n hH (fun e=>hnF (e▸hF)) hlen (by rw[intsD_length];exact hlen2) hcells;rw[List.map_cons,List.map_cons,List.map_nil,hye,hzv];exact this
  ·trivial
 ·unfold effSub;split
  ·exact effPart_ag fun k hk=>h k (by simpa [keysV]using hk)
  ·rfl
 ·unfold effSub;split
  ·rename_i x ys n;have:=fun wd=>effPart_good (wd:=wd) (dst:=dst) (ob:=ob) (x:=x) (c:=ys≠[]∧intsB ys=true∧ys.length≤1073741824) (res:=fun us=> .c (.bool (decide (0<(subF n us (intsD ys) 0 0).2.2)||decide (0<(subF n us (intsD ys) 0 0).2.1)))) (new:=fun us=>(subF n us (intsD ys) 0 0).1) (fun _=>rfl)
   simpa [keysV]using this _
  ·trivial
theorem effAt_res {fS fR:Nat} (hk:SubK C.P fS fR):EffAt C fR effRes:=by
 refine⟨fun{B F0 w0 F loc st a w dst args ts ty pos after g} h=>?_,fun dst vs ob ob' h hd=>?_,fun dst vs ob hv hb=>?_⟩
 ·unfold effRes;split
  ·rename_i v ys hvs;obtain⟨x,y2,hax,hx,hy⟩:∃x y2,args.toList=[x,y2]∧ev st x=v∧ev st y2= .c (.sl ys):=by
    match hl:args.toList with
    |[]=>rw[hl]at hvs;simp at hvs
    |[x]=>rw[hl]at hvs;simp at hvs
    |[x,y]=>rw[hl]at hvs;simp only[List.map_cons,List.map_nil,List.cons.injEq]at hvs;exact⟨x,y,rfl,hvs.1,hvs.2.1⟩
    |_::_::_::_=>rw[hl]at hvs;simp at hvs
   obtain⟨fn,hf,hb,hn⟩:=hk.there fR (.inr rfl);have hyv:=(ev_ok h y2).1;rw[hy]at hyv;rw[←hx];refine effPart_ok (zs:=[y2]) h hf hb hn hax ?_;rintro⟨hne,hints,hlen2⟩ g off cap us hH hnF hlen;obtain⟨b,o,c,hye,hF,hcells⟩:=ints_row hyv hne hints;refine⟨resF_length _ _ _,_,fun loc objs w F=>⟨⟨#[],rfl,trivial⟩,trivial⟩,?_⟩;have:=hk.res (cap:=cap) (cv:=c) us (intsD ys) hH (fun e=>hnF (e▸hF)) hlen (by rw[intsD_length];exact hlen2) hcells;rw[List.map_cons,List.map_nil,hye];exact this
  ·trivial
 ·unfold effRes;split
  ·exact effPart_ag fun k hk=>h k (by simpa [keysV]using hk)
  ·rfl
 ·unfold effRes;split
  ·rename_i x ys;have:=fun wd=>effPart_good (wd:=wd) (dst:=dst) (ob:=ob) (x:=x) (c:=ys≠[]∧intsB ys=true∧ys.length≤1073741824) (res:=fun _=> .tp []) (new:=fun us=>resF us (intsD ys) 0) (fun _=>rfl)
   simpa [keysV]using this _
  ·trivial
end
end Eng
end
