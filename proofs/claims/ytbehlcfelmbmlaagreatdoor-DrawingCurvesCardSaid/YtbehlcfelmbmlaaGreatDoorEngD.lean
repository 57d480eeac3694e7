/- The engine, part 21: code, loops, functions. -/
import Derived.Test.YtbehlcfelmbmlaaGreatDoorEngC
import Derived.Deep.AppendSrc
open Array renaming length_toList→Aa
open Bool renaming and_eq_true→Ab, false_eq_true→Ac, not_eq_true→Ad
open Eng.D renaming undef→Ae, sl→Af
open Eng.Frame renaming refl→Ah, trans'→Ai
open Eng.St renaming has→Aj
open Go.Builtin renaming append_→Ak
open Go.Code renaming wp_mono→Al, region→Am
open List renaming mem_cons→An, length_append→Ao, append_assoc→Ap, mem_append→Aq, singleton_append→Ar, length_singleton→As, mem_map→At, mem_append_right→Au, cons_append→Av, map_cons→Aw, range_eq_range'→Ax, eq_nil_of_length_eq_zero→Ay, getElem?_append_right→Az, size_toArray→A0, range'_succ→A1, length_cons→A2, mem_singleton→A3, not_mem_nil→A4, range'→A5, length_map→A6, replicate→A7, mapM_cons→A8, getElem?_eq_some_iff→A9, getElem?_append_left→AA, getElem?_eq_getElem→AB, getElem?_toArray→AC, mem_of_getElem?→AD, mem_cons_self→AE, mem_range'_1→AF, append_nil→AG
open Nat renaming eq_of_beq_eq_true→AH, add_zero→AI, beq→AJ, lt_or_ge→AK, add_assoc→AL, zero_add→AM, add_comm→AN, mul_one→AO, strongRecOn→AP, beq_refl→AQ, le_refl→AR, blt_eq→AS, beq_eq→AT
open Ne renaming symm→AU
open Option.some renaming injEq→AV
open Prod.mk renaming injEq→AW
section
namespace Eng
open Go Go.RowKit
theorem XY {α:Type} (d:α) {l l':List α} (hl:l.length=l'.length) (h:∀i,nth d l i=nth d l' i):l=l':=by
 apply List.ext_getElem hl;intro i h1 h2;have:=h i
 rwa [qn _ h1,qn _ h2]at this
structure Away (locs:List Loc) (m s1:St):Prop where
 lt:m.tmps.length=s1.tmps.length
 lo:m.objs.length=s1.objs.length
 tmps:∀t,t∉qJ locs→nth .any m.tmps t=nth .any s1.tmps t
 objs:∀k,k∉qV locs→nth .none m.objs k=nth .none s1.objs k
theorem qQ {α:Type} {d:α} {l:List α} {i:Nat} (h:nth d l i≠d):i<l.length:=by
 rcases AK i l.length with h'|h'
 ·exact h'
 ·exact absurd (qB _ h') h
theorem kt {α:Type} (d:α) (pre r:List α) (i:Nat):nth d (pre++r) (pre.length+i)=nth d r i:=by
 rw[qI,qI,Az (by omega),Nat.add_sub_cancel_left]
theorem ku:∀{zs:List Value} {cells:List V} {pre r:List D},qX zs cells=true→putCells zs pre.length (pre++(cells.map toC++r))=cells
 |[],[],_,_,_=>rfl
 |z::zs,v::vs,pre,r,h=>by
  simp only[qX,Ab]at h;have hv:V.c (toC v)=v:=by cases v<;>simp_all[isC,toC]
  simp only[putCells,Aw,Av];have h1:=kt Ae pre (toC v::(vs.map toC++r)) 0;rw[AI]at h1;rw[h1];have h2:=ku (pre:=pre++[toC v]) (r:=r) h.2;simp only[Ao,As,Ap,Ar]at h2;rw[h2];simp only[nth,hv]
 |[],_::_,_,_,h=>by simp[qX]at h
 |_::_,[],_,_,h=>by simp[qX]at h
theorem kU:∀{zs:List Value} {cells:List V},qX zs cells=true→cells.length=zs.length
 |[],[],_=>rfl
 |z::zs,v::vs,h=>by simp only[qX,Ab]at h;simp[kU h.2]
 |[],_::_,h=>by simp[qX]at h
 |_::_,[],h=>by simp[qX]at h
theorem XZ {ob:List Obj}:∀{ms:List MC} {cells:List V},js ms cells ob=true→(ZF ms cells ob).length=ms.length
 |[],[],_=>rfl
 | .dat z::ms,v::vs,h=>by simp only[js,Ab]at h;simp[ZF,XZ h.2]
 | .own key size::ms,v::vs,h=>by simp only[js,Ab]at h;simp[ZF,XZ h.2]
 |[],_::_,h=>by simp[js]at h
 | .dat _::_,[],h=>by simp[js]at h
 | .own .. ::_,[],h=>by simp[js]at h
theorem H9 {ob1:List Obj} {R:List D}:∀{ms:List MC} {cells:List V} {pre:List D},js ms cells ob1=true→Of ms pre.length (pre++(ZF ms cells ob1++R))=cells∧
 ∀ob:List Obj,ob.length=ob1.length→(WQ ms pre.length (pre++(ZF ms cells ob1++R)) ob).length=ob1.length∧∀j,nth .none (WQ ms pre.length (pre++(ZF ms cells ob1++R)) ob) j=if j∈xH ms then nth .none ob1 j else nth .none ob j
 |[],[],pre,_=>⟨rfl,fun ob ho=>⟨ho,fun j=>by simp[xH,WQ]⟩⟩
 | .dat z::ms,v::vs,pre,h=>by
  simp only[js,Ab]at h;have hv:V.c (toC v)=v:=by cases v<;>simp_all[isC,toC]
  have h1:=kt Ae pre (toC v::(ZF ms vs ob1++R)) 0;rw[AI]at h1;obtain⟨h2,h3⟩:=H9 (R:=R) (pre:=pre++[toC v]) h.2;simp only[Ao,As,Ap,Ar]at h2 h3;refine⟨?_,?_⟩
  ·simp only[Of,ZF,Av];rw[h1,h2];simp only[nth,hv]
  ·simp only[WQ,ZF,Av,xH];exact h3
 | .own key size::ms,v::vs,pre,h=>by
  simp only[js,Ab]at h;obtain⟨ho,h⟩:=h;unfold Oe at ho;split at ho
  ·rename_i a0;split at ho
   ·rename_i sz es hk;simp only[Ab]at ho;obtain rfl:=AH ho.1;obtain rfl:=AH ho.2;have hr:TR a0 ob1= .sl es:=by simp only[TR,hk]
    have h1:=kt Ae pre (Af es::(ZF ms vs ob1++R)) 0;rw[AI]at h1;obtain⟨h2,h3⟩:=H9 (R:=R) (pre:=pre++[Af es]) h;simp only[Ao,As,Ap,Ar]at h2 h3;have a1:a0<ob1.length:=qQ (by rw[hk];simp);refine⟨?_,?_⟩
    ·simp only[Of,ZF,Av,hr];rw[h2]
    ·intro ob a2;simp only[WQ,ZF,Av,hr,h1,nth,toL];obtain⟨h4,h5⟩:=h3 (upd ob a0 (.arr sz es false)) (by rw[qi];exact a2);refine⟨h4,fun j=>?_⟩;rw[h5 j];simp only[xH,An];by_cases hj:j∈xH ms
     ·simp[hj]
     ·simp only[hj,if_false,or_false];by_cases hjk:j=a0
      ·subst hjk;rw[if_pos rfl,qb _ _ _ (by rw[a2];exact a1),hk]
      ·rw[if_neg hjk,qa _ _ _ (AU hjk)]
   ·simp at ho
  ·simp at ho
 |[],_::_,_,h=>by simp[js]at h
 | .dat _::_,[],_,h=>by simp[js]at h
 | .own .. ::_,[],_,h=>by simp[js]at h
theorem kv:∀{locs:List Loc} {pre:List D} {m s1:St},x3 locs s1=true→Away locs m s1→(fill locs pre.length (pre++xz locs s1) m).tmps=s1.tmps∧(fill locs pre.length (pre++xz locs s1) m).objs=s1.objs
 |[],pre,m,s1,_,h=>⟨XY .any h.lt fun i=>h.tmps i (by simp[qJ]),XY .none h.lo fun i=>h.objs i (by simp[qV])⟩
 | .slot s z::r,pre,m,s1,hn,h=>by
  simp only[x3,Ab]at hn;have hv:V.c (toC (nth .any s1.tmps s))=nth .any s1.tmps s:=by revert hn;cases nth .any s1.tmps s<;>simp[isC,toC]
  have a3:s<s1.tmps.length:=qQ (by intro e;rw[e]at hn;simp[isC]at hn);simp only[fill,xz];have h1:=kt Ae pre (toC (nth .any s1.tmps s)::xz r s1) 0;rw[AI]at h1;rw[h1];have h2:=kv (locs:=r) (pre:=pre++[toC (nth .any s1.tmps s)]) (m:=⟨upd m.tmps s (nth .any s1.tmps s),m.objs,m.dirty⟩) (s1:=s1) hn.2 ⟨by simp only[qi];exact h.lt,h.lo,fun t ht=>by
   by_cases hst:s=t
   ·subst hst;rw[qb _ _ _ (by rw[h.lt];exact a3)]
   ·show nth .any (upd m.tmps s _) t=_;rw[qa _ _ _ hst];exact h.tmps t (by simp only[qJ,An,not_or];exact⟨AU hst,ht⟩),fun k hk=>h.objs k hk⟩
  simp only[Ao,As,Ap,Ar]at h2;simp only[nth,hv];exact h2
 | .box k zs::r,pre,m,s1,hn,h=>by
  simp only[x3]at hn;split at hn
  ·rename_i a0 hk;simp only[Ab]at hn;have a1:k<s1.objs.length:=qQ (by rw[hk];simp);simp only[fill,xz,hk];rw[ku hn.1];have h2:=kv (locs:=r) (pre:=pre++a0.map toC) (m:=⟨m.tmps,upd m.objs k (.box a0),m.dirty⟩) (s1:=s1) hn.2 ⟨h.lt,by simp only[qi];exact h.lo,fun t ht=>h.tmps t ht,fun j hj=>by
    by_cases hkj:k=j
    ·subst hkj;rw[qb _ _ _ (by rw[h.lo];exact a1),hk]
    ·show nth .none (upd m.objs k _) j=_;rw[qa _ _ _ hkj];exact h.objs j (by simp only[qV,An,not_or];exact⟨AU hkj,hj⟩)⟩
   simp only[Ao,A6,Ap,kU hn.1]at h2;exact h2
  ·simp at hn
 | .own s key size::r,pre,m,s1,hn,h=>by
  simp only[x3]at hn;split at hn
  ·rename_i k hv;split at hn
   ·rename_i sz es hk;simp only[Ab]at hn;obtain rfl:=AH hn.1.1;obtain rfl:=AH hn.1.2;have a1:k<s1.objs.length:=qQ (by rw[hk];simp);have a3:s<s1.tmps.length:=qQ (by rw[hv];simp);simp only[fill,xz,hk];have h1:=kt Ae pre (Af es::xz r s1) 0;rw[AI]at h1;rw[h1];have h2:=kv (locs:=r) (pre:=pre++[Af es]) (m:=⟨upd m.tmps s (.arr k),upd m.objs k (.arr sz es false),m.dirty⟩) (s1:=s1) hn.2 ⟨by simp only[qi];exact h.lt,by simp only[qi];exact h.lo,fun t ht=>by
     by_cases hst:s=t
     ·subst hst;rw[qb _ _ _ (by rw[h.lt];exact a3),hv]
     ·show nth .any (upd m.tmps s _) t=_;rw[qa _ _ _ hst];exact h.tmps t (by simp only[qJ,An,not_or];exact⟨AU hst,ht⟩),fun j hj=>by
     by_cases hkj:k=j
     ·subst hkj;rw[qb _ _ _ (by rw[h.lo];exact a1),hk]
     ·show nth .none (upd m.objs k _) j=_;rw[qa _ _ _ hkj];exact h.objs j (by simp only[qV,An,not_or];exact⟨AU hkj,hj⟩)⟩
    simp only[Ao,As,Ap,Ar]at h2;simp only[nth,toL];exact h2
   ·simp at hn
  ·simp at hn
 | .bld k T key::r,pre,m,s1,hn,h=>by
  simp only[x3]at hn;split at hn
  ·rename_i T' a2 hk;split at hn
   ·rename_i sz es hj;simp only[Ab]at hn;obtain rfl:=AH hn.1.1.1;obtain rfl:=AH hn.1.1.2;obtain rfl:=AH hn.1.2;have a1:k<s1.objs.length:=qQ (by rw[hk];simp);have a4:a2<s1.objs.length:=qQ (by rw[hj];simp);simp only[fill,xz,hj];have h1:=kt Ae pre (Af es::xz r s1) 0;rw[AI]at h1;rw[h1];have h2:=kv (locs:=r) (pre:=pre++[Af es]) (m:=⟨m.tmps,upd (upd m.objs a2 (.arr 1 es false)) k (.bld T' (.arr a2)),m.dirty⟩) (s1:=s1) hn.2 ⟨h.lt,by simp only[qi];exact h.lo,fun t ht=>h.tmps t ht,fun i hi=>by
     by_cases hki:k=i
     ·subst hki;rw[qb _ _ _ (by rw[qi,h.lo];exact a1),hk]
     ·show nth .none (upd (upd m.objs a2 _) k _) i=_;rw[qa _ _ _ hki];by_cases hji:a2=i
      ·subst hji;rw[qb _ _ _ (by rw[h.lo];exact a4),hj]
      ·rw[qa _ _ _ hji];exact h.objs i (by simp only[qV,An,not_or];exact⟨AU hki,AU hji,hi⟩)⟩
    simp only[Ao,As,Ap,Ar]at h2;simp only[nth,toL];exact h2
   ·simp at hn
  ·simp at hn
 | .mix k ms::r,pre,m,s1,hn,h=>by
  simp only[x3]at hn;split at hn
  ·rename_i a0 hk;simp only[Ab]at hn;have a1:k<s1.objs.length:=qQ (by rw[hk];simp);obtain⟨g1,g2⟩:=H9 (R:=xz r s1) (pre:=pre) hn.1;obtain⟨g3,g4⟩:=g2 m.objs h.lo;simp only[fill,xz,hk];rw[g1];have h2:=kv (locs:=r) (pre:=pre++ZF ms a0 s1.objs) (m:=⟨m.tmps,upd (WQ ms pre.length (pre++(ZF ms a0 s1.objs++xz r s1)) m.objs) k (.box a0),m.dirty⟩) (s1:=s1) hn.2 ⟨h.lt,by simp only[qi];exact g3,fun t ht=>h.tmps t ht,fun i hi=>by
    by_cases hki:k=i
    ·subst hki;rw[qb _ _ _ (by rw[g3];exact a1),hk]
    ·show nth Obj.none (upd _ k _) i=_;rw[qa _ _ _ hki,g4 i];by_cases hm:i∈xH ms
     ·rw[if_pos hm]
     ·rw[if_neg hm];exact h.objs i (by simp only[qV,An,Aq,not_or];exact⟨AU hki,hm,hi⟩)⟩
   simp only[Ao,XZ hn.1,Ap]at h2;exact h2
  ·simp at hn
def TypedL:List Value→List D→Prop
 |[],us=>us=[]
 |z::zs,us=>∃d r,us=d::r∧kl z d=true∧TypedL zs r
theorem jO:∀{zs:List Value} {us:List D} {K:List D→Prop},Nw zs K→TypedL zs us→K us
 |[],us,K,h,ht=>by have ht:us=[]:=ht;subst ht;exact h
 |z::zs,us,K,h,ht=>by
  obtain⟨d,r,rfl,h1,h2⟩:=ht;cases z with
  |int k n=>
   cases d<;>simp only[kl,isI,Ac]at h1;have h1:=of_decide_eq_true h1;subst h1;exact jO (K:=fun us=>K (_::us)) (h _) h2
  |bool b=>
   cases d<;>simp only[kl,isB,Ac]at h1;exact jO (K:=fun us=>K (_::us)) (h _) h2
  |string b=>
   cases d<;>simp only[kl,isS,Ac]at h1;exact jO (K:=fun us=>K (_::us)) (h _) h2
  |slice b l c=>
   cases d<;>simp only[kl,isL,Ac]at h1;exact jO (K:=fun us=>K (_::us)) (h _) h2
  |_=>exact jO (K:=fun us=>K (d::us)) (h d) h2
theorem TypedL.append:∀{zs zs':List Value} {us us':List D},TypedL zs us→TypedL zs' us'→TypedL (zs++zs') (us++us')
 |[],zs',us,us',h,h'=>by have h:us=[]:=h;subst h;exact h'
 |z::zs,zs',us,us',h,h'=>by obtain⟨d,r,rfl,h1,h2⟩:=h;exact⟨d,r++us',rfl,h1,h2.append h'⟩
theorem ke:∀{zs:List Value} {cells:List V},qX zs cells=true→TypedL zs (cells.map toC)
 |[],[],_=>rfl
 |z::zs,v::vs,h=>by simp only[qX,Ab]at h;exact⟨_,_,rfl,h.1.2,ke h.2⟩
 |[],_::_,h=>by simp[qX]at h
 |_::_,[],h=>by simp[qX]at h
theorem Qn {ob:List Obj}:∀{ms:List MC} {cells:List V},js ms cells ob=true→TypedL (zsM ms) (ZF ms cells ob)
 |[],[],_=>rfl
 | .dat z::ms,v::vs,h=>by simp only[js,Ab]at h;exact⟨_,_,rfl,h.1.2,Qn h.2⟩
 | .own key size::ms,v::vs,h=>by
  simp only[js,Ab]at h;obtain⟨ho,h⟩:=h;unfold Oe at ho;split at ho
  ·split at ho
   ·rename_i hk;refine⟨_,_,rfl,?_,Qn h⟩;simp only[TR,hk];rfl
   ·simp at ho
  ·simp at ho
 |[],_::_,h=>by simp[js]at h
 | .dat _::_,[],h=>by simp[js]at h
 | .own .. ::_,[],h=>by simp[js]at h
theorem x5:∀{locs:List Loc} {m:St},x3 locs m=true→TypedL (Yx locs) (xz locs m)
 |[],_,_=>rfl
 | .slot s z::r,m,h=>by simp only[x3,Ab]at h;exact⟨_,_,rfl,h.1.2,x5 h.2⟩
 | .box k zs::r,m,h=>by
  simp only[x3]at h;split at h
  ·rename_i cells hk;simp only[Ab]at h;simp only[Yx,xz,hk];exact(ke h.1).append (x5 h.2)
  ·simp at h
 | .own s key size::r,m,h=>by
  simp only[x3]at h;split at h
  ·split at h
   ·rename_i hk;simp only[Ab]at h;simp only[Yx,xz,hk];exact⟨_,_,rfl,rfl,x5 h.2⟩
   ·simp at h
  ·simp at h
 | .bld k T key::r,m,h=>by
  simp only[x3]at h;split at h
  ·split at h
   ·rename_i hj;simp only[Ab]at h;simp only[Yx,xz,hj];exact⟨_,_,rfl,rfl,x5 h.2⟩
   ·simp at h
  ·simp at h
 | .mix k ms::r,m,h=>by
  simp only[x3]at h;split at h
  ·rename_i cells hk;simp only[Ab]at h;simp only[Yx,xz,hk];exact(Qn h.1).append (x5 h.2)
  ·simp at h
theorem Za {us:List D}:∀{ms:List MC} {i:Nat} {ob:List Obj},(WQ ms i us ob).length=ob.length∧∀j,j∉xH ms→nth .none (WQ ms i us ob) j=nth .none ob j
 |[],_,_=>⟨rfl,fun _ _=>rfl⟩
 | .dat z::ms,i,ob=>by simp only[WQ,xH];exact Za
 | .own key size::ms,i,ob=>by simp only[WQ,xH,An,not_or];obtain⟨h1,h2⟩:=Za (us:=us) (ms:=ms) (i:=i+1) (ob:=upd ob key (.arr size (toL (nth .undef us i)) false));exact⟨h1.trans (qi _ _ _),fun j hj=>(h2 j hj.2).trans (qa _ _ _ (AU hj.1))⟩
theorem jP:∀{locs:List Loc} {i:Nat} {us:List D} {m:St},(fill locs i us m).tmps.length=m.tmps.length∧(fill locs i us m).objs.length=m.objs.length∧(fill locs i us m).dirty=m.dirty∧
 (∀t,t∉qJ locs→nth .any (fill locs i us m).tmps t=nth .any m.tmps t)∧(∀k,k∉qV locs→nth .none (fill locs i us m).objs k=nth .none m.objs k)
 |[],_,_,_=>⟨rfl,rfl,rfl,fun _ _=>rfl,fun _ _=>rfl⟩
 | .slot s z::r,i,us,m=>by obtain⟨h1,h2,h3,h4,h5⟩:=jP (locs:=r) (i:=i+1) (us:=us) (m:=⟨upd m.tmps s (.c (nth .undef us i)),m.objs,m.dirty⟩);refine⟨by simp only[fill];rw[h1];exact qi _ _ _,h2,h3,fun t ht=>?_,h5⟩;simp only[qJ,An,not_or]at ht;simp only[fill];rw[h4 t ht.2];exact qa _ _ _ (AU ht.1)
 | .box k zs::r,i,us,m=>by obtain⟨h1,h2,h3,h4,h5⟩:=jP (locs:=r) (i:=i+zs.length) (us:=us) (m:=⟨m.tmps,upd m.objs k (.box (putCells zs i us)),m.dirty⟩);refine⟨h1,by simp only[fill];rw[h2];exact qi _ _ _,h3,h4,fun t ht=>?_⟩;simp only[qV,An,not_or]at ht;simp only[fill];rw[h5 t ht.2];exact qa _ _ _ (AU ht.1)
 | .own s key size::r,i,us,m=>by
  obtain⟨h1,h2,h3,h4,h5⟩:=jP (locs:=r) (i:=i+1) (us:=us) (m:=⟨upd m.tmps s (.arr key),upd m.objs key (.arr size (toL (nth .undef us i)) false),m.dirty⟩);refine⟨by simp only[fill];rw[h1];exact qi _ _ _,by simp only[fill];rw[h2];exact qi _ _ _,h3,fun t ht=>?_,fun t ht=>?_⟩
  ·simp only[qJ,An,not_or]at ht;simp only[fill];rw[h4 t ht.2];exact qa _ _ _ (AU ht.1)
  ·simp only[qV,An,not_or]at ht;simp only[fill];rw[h5 t ht.2];exact qa _ _ _ (AU ht.1)
 | .bld k T key::r,i,us,m=>by obtain⟨h1,h2,h3,h4,h5⟩:=jP (locs:=r) (i:=i+1) (us:=us) (m:=⟨m.tmps,upd (upd m.objs key (.arr 1 (toL (nth .undef us i)) false)) k (.bld T (.arr key)),m.dirty⟩);refine⟨h1,by simp only[fill];rw[h2];simp only[qi],h3,h4,fun t ht=>?_⟩;simp only[qV,An,not_or]at ht;simp only[fill];rw[h5 t ht.2.2];show nth .none (upd (upd m.objs key _) k _) t=_;rw[qa _ _ _ (AU ht.1),qa _ _ _ (AU ht.2.1)]
 | .mix k ms::r,i,us,m=>by obtain⟨g1,g2⟩:=Za (us:=us) (ms:=ms) (i:=i) (ob:=m.objs);obtain⟨h1,h2,h3,h4,h5⟩:=jP (locs:=r) (i:=i+ms.length) (us:=us) (m:=⟨m.tmps,upd (WQ ms i us m.objs) k (.box (Of ms i us)),m.dirty⟩);refine⟨h1,by simp only[fill];rw[h2];simp only[qi];exact g1,h3,h4,fun t ht=>?_⟩;simp only[qV,An,Aq,not_or]at ht;simp only[fill];rw[h5 t ht.2.2];show nth Obj.none (upd _ k _) t=_;rw[qa _ _ _ (AU ht.1),g2 t ht.2.1]
theorem Jr {a l:List Nat} (h:ZZ a l=true):∀k∈a,k∈l:=by
 induction a with
 |nil=>intro k hk;simp at hk
 |cons x r ih=>
  simp only[ZZ,Ab]at h;intro k hk;rcases An.1 hk with rfl|hk
  ·exact zg.1 h.1
  ·exact ih h.2 k hk
theorem O0 {p:Nat→Prop} (h:∃n,p n):∃n,p n∧∀m,p m→n≤m:=by
 obtain⟨n,hn⟩:=h
 induction n using AP with
 |_ n ih=>
  by_cases hc:∃m,m<n∧p m
  ·obtain⟨m,hm,hp⟩:=hc;exact ih m hm hp
  ·exact⟨n,hn,fun m hm=>Nat.le_of_not_lt fun hlt=>hc ⟨m,hlt,hm⟩⟩
open Classical in
noncomputable def jt (p:Nat→Prop):Nat:=if h:∃n,p n then Classical.choose (O0 h)else 0
theorem Xl {p:Nat→Prop} (h:∃n,p n):p (jt p):=by unfold jt;rw[dif_pos h];exact(Classical.choose_spec (O0 h)).1
theorem Xm {p:Nat→Prop} {m:Nat} (h:p m):jt p≤m:=by unfold jt;rw[dif_pos ⟨m,h⟩];exact(Classical.choose_spec (O0 ⟨m,h⟩)).2 m h
section
variable {C:Cx} {B:Bd} {F0:Nat→Prop} {w0:World} {anns:Nat→Ann}
def XM:X→Exit→Prop
 | .normal,e=>e= .normal
 | .exit i,e=>e= .exit i
 | .ret,e=>e= .ret
def Bt (C:Cx) (B:Bd) (F0:Nat→Prop) (w0:World) (mt:List Nat) (Q:X→St→Prop) (st:St) (e:Exit) (a:Act) (w:World):Prop:=
 ∃x s',XM x e∧Q x s'∧Frame mt st s'∧Aj C B F0 w0 s' a w
theorem Zb {t:Nat} {o:Oper}:∀{l:List Oper},o∈l→o.dst=some t→t∈Hj l
 |[],h,_=>by simp at h
 |p::r,h,hd=>by
  simp only[Hj];rcases An.1 h with rfl|h
  ·rw[hd];simp
  ·have:=Zb h hd;split
   ·simp[this]
   ·exact this
theorem jd:∀{us:List (Nat×Obj)} {l:List Nat} {k:Nat},k∈jm us l↔k∈l∨∃p∈us,p.1=k
 |[],l,k=>by simp[jm]
 |(j,o)::r,l,k=>by
  simp only[jm,An];rw[jd];constructor
  ·rintro(rfl|h|⟨p,hp,rfl⟩)
   ·exact .inr ⟨(k,o),.inl rfl,rfl⟩
   ·exact .inl h
   ·exact .inr ⟨p,.inr hp,rfl⟩
  ·rintro(h|⟨p,rfl|hp,rfl⟩)
   ·exact .inr (.inl h)
   ·exact .inl rfl
   ·exact .inr (.inr ⟨p,hp,rfl⟩)
theorem Frame.put {mt:List Nat} {s:St} {dst:Option Nat} {v:V} {up:List (Nat×Obj)} (h:∀t,dst=some t→t∈mt):Frame mt s (s.put dst v up):=by
 refine⟨?_,jb _ _,fun t ht=>?_,fun k hk=>?_,fun k hk=>jd.2 (.inl hk)⟩
 ·simp only[St.put];cases dst with
  |none=>rfl
  |some t=>exact qi _ _ _
 ·simp only[St.put];cases dst with
  |none=>rfl
  |some d=>exact qa _ _ _ fun e=>ht (by rw[←e];exact h d rfl)
 ·exact kr _ _ fun p hp e=>hk (jd.2 (.inr ⟨p,hp,e⟩))
theorem Js {Gv:Nat→List A→List A→Prop} {ops:Array Oper}:∀(l:List Oper) (k:Nat) (s:St) (K:St→Prop),(∀j,l[j]? =ops[k+j]?)→wpL C Gv ops l s K→∃rc s',Tr C Gv ops rc (A5 k l.length) s s'∧K s'∧Frame (Hj ops.toList) s s'
 |[],_,s,_,_,h=>⟨fun _=>([],[]),s,⟨rfl,rfl⟩,h,Ah _ _⟩
 |o::l,k,s,K,hk,h=>by
  have h0:ops[k]? =some o:=by simpa using(hk 0).symm
  obtain⟨v,up,h1,h2⟩:=Jp h;obtain⟨rc,s',h3,h4,h5⟩:=Js l (k+1) _ K (fun j=>by have:=hk (j+1);simpa [AL,AN 1 j]using this) h2;refine⟨fun i=>if i=k then(opk o (ev s) s.objs,up.map (·.1))else rc i,s',?_,h4,Ai (Frame.put fun t ht=>Zb (o:=o) ?_ ht) h5⟩
  ·rw[A2,A1];refine⟨o,h0,v,up,h1,?_,h3.recs fun i hi=>?_⟩
   ·simp only[if_pos];exact⟨fun _ _ h=>h,fun p hp=>At.2 ⟨p,hp,rfl⟩⟩
   ·have:=(AF.1 hi).1;rw[if_neg (by omega)]
  ·have:=AD (show ops.toList[k]? =some o by simpa using h0);exact this
theorem Xn {Gv:Nat→List A→List A→Prop} {ops:Array Oper}:∀(l:List Oper) (k:Nat) (s:St) (acc:List Rec) (K:St→List Rec→Prop),(∀j,l[j]? =ops[k+j]?)→acc.length=k→SH C Gv ops l s acc K→
 ∃R s',Tr C Gv ops (fun i=>nth ([],[]) (acc++R) i) (A5 k l.length) s s'∧K s' (acc++R)∧Frame (Hj ops.toList) s s'
 |[],_,s,acc,_,_,_,h=>⟨[],s,⟨rfl,rfl⟩,by rw[AG];exact h,Ah _ _⟩
 |o::l,k,s,acc,K,hk,hacc,h=>by
  have h0:ops[k]? =some o:=by simpa using(hk 0).symm
  obtain⟨v,up,h1,h2⟩:=Jp h;obtain⟨R,s',h3,h4,h5⟩:=Xn l (k+1) _ _ K (fun j=>by have:=hk (j+1);simpa [AL,AN 1 j]using this) (by simp[hacc]) h2;refine⟨(opk o (ev s) s.objs,jm up [])::R,s',?_,by rw[Ap]at h4;exact h4,?_⟩
  ·rw[A2,A1];refine⟨o,h0,v,up,h1.same rfl rfl,?_,?_⟩
   ·have e:nth ([],[]) (acc++(opk o (ev s) s.objs,jm up [])::R) k=(opk o (ev s) s.objs,jm up []):=by have:=kt ([],[]) acc ((opk o (ev s) s.objs,jm up [])::R) 0;rw[AI,hacc]at this;rw[this];rfl
    simp only;rw[e];exact⟨fun _ _ h=>h,fun p hp=>jd.2 (.inr ⟨p,hp,rfl⟩)⟩
   ·simp only[Ap,Ar]at h3;exact h3.same rfl rfl
  ·refine Ai (s':=⟨(s.put o.dst v up).tmps,(s.put o.dst v up).objs,jm up []++s.dirty⟩) ?_ h5;have hf:=Frame.put (mt:=Hj ops.toList) (s:=s) (dst:=o.dst) (v:=v) (up:=up) fun t ht=>Zb (o:=o) (AD (show ops.toList[k]? =some o by simpa using h0)) ht
   refine⟨hf.lt,hf.lo,hf.tmps,fun j hj=>hf.objs j fun hj'=>hj ?_,fun j hj=>Au _ hj⟩;rcases jd.1 hj' with h|h
   ·exact Au _ h
   ·exact List.mem_append_left _ (jd.2 (.inr h))
theorem Jt [EffOk C] {id:Nat} {ops:Array Oper} {d:Bool} {Q:X→St→Prop} {s:St} {a:Act} {w:World} (hm:C.P.follows .mixedOrders=true) (hd:d=true→w6 C ops.toList=true) (h:wpL C (qe C) ops ops.toList s (Q .normal)) (hh:Aj C B F0 w0 s a w):
 (Am id ops d).wp C.P (Bt C B F0 w0 (Hj ops.toList) Q s) a w:=by
 obtain⟨rc,s',h1,h2,h3⟩:=Js ops.toList 0 s _ (by simp) h;rw[Aa,←Ax]at h1;exact wL hm (fun h=>Qh rc (hd h)) h1 hh fun a w hw=>⟨.normal,s',rfl,h2,h3,hw⟩
theorem YB [EffOk C] {id:Nat} {ops:Array Oper} {d:Bool} {Q:X→St→Prop} {s:St} {a:Act} {w:World} (hm:C.P.follows .mixedOrders=true) (h:SH C (qe C) ops ops.toList s [] fun s rs=>cnd (w8 C ops.toList rs) (Q .normal s)) (hh:Aj C B F0 w0 s a w):
 (Am id ops d).wp C.P (Bt C B F0 w0 (Hj ops.toList) Q s) a w:=by
 obtain⟨R,s',h1,h2,h3⟩:=Xn ops.toList 0 s [] _ (by simp) rfl h;rw[Aa,←Ax]at h1;unfold cnd at h2;split at h2
 ·rename_i hr;exact wL hm (fun _=>vT hr) h1 hh fun a w hw=>⟨.normal,s',rfl,h2,h3,hw⟩
 ·exact h2.elim
theorem N4 [EffOk C] (hm:C.P.follows .mixedOrders=true):∀(c:Code) (n:Nat) (Q:X→St→Prop) (s:St) (a:Act) (w:World),wpC C (qe C) anns n c Q s→Aj C B F0 w0 s a w→
 c.wp C.P (Bt C B F0 w0 (zY anns n c) Q s) a w:=by
 intro c
 induction c with
 |skip=>intro n Q s a w h hh;exact wp_skip ⟨.normal,s,rfl,h,Ah _ _,hh⟩
 |region id ops d=>
  intro n Q s a w h hh;simp only[wpC,Ky]at h;cases d with
  |false=>exact Jt hm (by simp) h hh
  |true=>
   dsimp only at h
   split at h
   ·rename_i hr;exact Jt hm (fun _=>hr) h hh
   ·exact YB hm h hh
 |seq x y ihx ihy=>
  intro n Q s a w h hh;simp only[wpC,Ky,Xk,Qm]at h;split at h
  ·rename_i hj;refine wp_seq (Al (fun e a' w' hp=>?_) (ihx n _ s a w h hh));obtain⟨z,s',hz,hq,hf,a0⟩:=hp;cases z with
   |normal=>
    have hz:e= .normal:=hz;subst hz;refine Al (fun e a' w' hp=>?_) (ihy _ _ s' a' w' hq a0);obtain⟨z,al,hz,hq,aa,ad⟩:=hp;exact⟨z,al,hz,hq,(hf.trans aa).mono fun t ht=>by
     simp only[zY,Aq]at ht ⊢;rcases ht with ht|ht
     ·exact .inl ht
     ·exact .inr (.inl ht),ad⟩
   |exit i=>have hz:e= .exit i:=hz;subst hz;exact⟨.exit i,s',rfl,hq,hf.mono fun t ht=>by simp[zY,ht],a0⟩
   |ret=>have hz:e= .ret:=hz;subst hz;exact⟨.ret,s',rfl,hq,hf.mono fun t ht=>by simp[zY,ht],a0⟩
  ·rename_i J hj;have hjs:yJ anns y=qJ J.locs:=by unfold yJ;rw[hj]
   obtain⟨h1,ac⟩:=h;generalize hlocs:J.locs=locs at *;generalize hmt:zY anns n x=mt at *;generalize hms:Kv x=ms at *;have hh0:Aj C B F0 w0 ⟨s.tmps,s.objs,[]⟩ a w:=xw hh rfl rfl;have h2:=ihx n _ _ a w h1 hh0;rw[hmt]at h2;refine wp_seq (Al (fun e a' w' hp=>?_) h2);obtain⟨z,s',hz,hq,hf,a0⟩:=hp;have a7:Frame (zY anns n (.seq x y)) s ⟨s'.tmps,s'.objs,s'.dirty++s.dirty⟩:=by
    refine⟨hf.lt,hf.lo,fun t ht=>?_,fun k hk=>?_,fun k hk=>Au _ hk⟩
    ·simp only[zY,Aq,not_or]at ht;exact hf.tmps t (by rw[←hmt];exact ht.1)
    ·simp only[Aq,not_or]at hk;exact hf.objs k hk.1
   cases z with
   |normal=>
    have hz:e= .normal:=hz;subst hz;simp only at hq;split at hq
    ·exact hq.elim
    rename_i m' a3;obtain⟨a2,a5⟩:=KE (C:=C) (B:=B) (F0:=F0) (w0:=w0) (a:=a') (w:=w') a3;unfold cnd at hq;split at hq
    ·rename_i ak;generalize hm:(⟨km s.tmps (mt++qJ locs),zH s.objs (ms++qV locs),ms++(qV locs++s.dirty)⟩:St)=m at *;have a9:m.tmps=km s.tmps (mt++qJ locs):=by rw[←hm]
     have a8:m.objs=zH s.objs (ms++qV locs):=by rw[←hm]
     have af:m.dirty=ms++(qV locs++s.dirty):=by rw[←hm]
     have a4:Away locs m m':=by
      refine⟨?_,?_,fun t ht=>?_,fun k hk=>?_⟩
      ·rw[a9,j2];exact(a2.lt.trans hf.lt).symm
      ·rw[a8,jc];exact(a2.lo.trans hf.lo).symm
      ·rw[a9];by_cases htm:t∈mt
       ·rw[wN _ _ (.inl (by simp[htm])),a2.tin t htm ht]
       ·rw[j3 _ _ (by simp[htm,ht]),a2.tout t htm ht,hf.tmps t htm]
      ·rw[a8];by_cases hkm:k∈ms
       ·rw[j5 _ _ (.inl (by simp[hkm])),a2.oin k hkm]
       ·have a6:k∉m'.dirty:=fun h=>by
         rcases Aq.1 (Jr ak k h)with h|h
         ·exact hkm h
         ·exact hk h
        rw[zu _ _ (by simp[hkm,hk]),a2.oout k a6,hf.objs k fun h=>a6 (a2.dirty k (.inl h))]
     have ae:=kv (pre:=[]) (m:=m) a2.ok a4;have hb:=jO ac (x5 a2.ok) hq;have hS:Aj C B F0 w0 (fill locs 0 (xz locs m') m) a' w':=xw (a5 a0) ae.1.symm ae.2.symm;obtain⟨q1,q2,q3,q4,q5⟩:=jP (locs:=locs) (i:=0) (us:=xz locs m') (m:=m);refine Al (fun e a' w' hp=>?_) (ihy _ _ _ a' w' hb hS);obtain⟨z,al,hz,hq,aa,ad⟩:=hp;refine⟨z,al,hz,hq,⟨?_,?_,fun t ht=>?_,fun k hk=>?_,fun k hk=>?_⟩,ad⟩
     ·rw[aa.lt,q1,a9,j2]
     ·rw[aa.lo,q2,a8,jc]
     ·simp only[zY,Aq,not_or,hjs,hmt]at ht;rw[aa.tmps t ht.2.1,q4 t ht.2.2,a9,j3 _ _ (by simp[ht.1,ht.2.2])]
     ·have a6:k∉(fill locs 0 (xz locs m') m).dirty:=fun h=>hk (aa.dirty k h)
      rw[q3,af]at a6;simp only[Aq,not_or]at a6;rw[aa.objs k (fun h=>hk h),q5 k a6.2.1,a8,zu _ _ (by simp[a6.1,a6.2.1])]
     ·refine aa.dirty k ?_;rw[q3,af];simp[hk]
    ·exact hq.elim
   |exit i=>have hz:e= .exit i:=hz;subst hz;exact⟨.exit i,_,rfl,hq,a7,xw a0 rfl rfl⟩
   |ret=>have hz:e= .ret:=hz;subst hz;exact⟨.ret,_,rfl,hq,a7,xw a0 rfl rfl⟩
 |cond cd x y ihx ihy=>
  intro n Q s a w h hh;simp only[wpC]at h;split at h
  ·rename_i d hd;obtain⟨F,am,hc⟩:=hh;have he:=(qO hc cd).1;rw[hd]at he;cases d with
   |bool b=>
    have hb:a.eval cd= .bool b:=(fun(x:Value) (hx:CD w F (.bool b) x)=>(by cases hx;rfl:x= .bool b)) _ he;refine wp_cond hb ?_;cases b with
    |true=>rw[if_pos rfl];refine Al (fun e a' w' hp=>?_) (ihx n Q s a w h ⟨F,am,hc⟩);obtain⟨z,s',hz,hq,hf,a0⟩:=hp;exact⟨z,s',hz,hq,hf.mono fun t ht=>by simp[zY,ht],a0⟩
    |false=>rw[if_neg (by simp)];refine Al (fun e a' w' hp=>?_) (ihy _ Q s a w h ⟨F,am,hc⟩);obtain⟨z,s',hz,hq,hf,a0⟩:=hp;exact⟨z,s',hz,hq,hf.mono fun t ht=>by simp[zY,ht],a0⟩
   |_=>exact h.elim
  ·exact h.elim
 |block id x ih=>
  intro n Q s a w h hh;simp only[wpC]at h;refine wp_block (Al (fun e a' w' hp=>?_) (ih n _ s a w h hh));obtain⟨z,s',hz,hq,hf,a0⟩:=hp;cases z with
  |normal=>have hz:e= .normal:=hz;subst hz;exact⟨.normal,s',rfl,hq,hf,a0⟩
  |exit i=>
   have hz:e= .exit i:=hz;subst hz;simp only at hq;unfold Exit.inBlock;split at hq
   ·rename_i hi;have:=AH hi;simp only[this,if_true];exact⟨.normal,s',rfl,hq,hf,a0⟩
   ·rename_i hi;have:i≠id:=fun e=>by subst e;simp at hi
    simp only[this,if_false];exact⟨.exit i,s',rfl,hq,hf,a0⟩
  |ret=>have hz:e= .ret:=hz;subst hz;exact⟨.ret,s',rfl,hq,hf,a0⟩
 |exit id=>intro n Q s a w h hh;exact wp_exit ⟨.exit id,s,rfl,h,Ah _ _,hh⟩
 |ret=>intro n Q s a w h hh;exact wp_ret ⟨.ret,s,rfl,h,Ah _ _,hh⟩
 |loop body ih=>
  intro n Q s a w h hh;simp only[wpC,Ky]at h;split at h
  ·exact h.elim
  rename_i m ah;generalize hmt:zY anns (n+1) body=mt at *;generalize hms:Kv body=ms at *;generalize hlocs:(anns n).locs=locs at *;obtain⟨aj,ac⟩:=h;obtain⟨hM,ai⟩:=KE (C:=C) (B:=B) (F0:=F0) (w0:=w0) (a:=a) (w:=w) ah;have ab:(fill locs 0 (xz locs m) ⟨m.tmps,m.objs,[]⟩).tmps=m.tmps∧(fill locs 0 (xz locs m) ⟨m.tmps,m.objs,[]⟩).objs=m.objs:=
   kv (pre:=[]) (m:=⟨m.tmps,m.objs,[]⟩) hM.ok ⟨rfl,rfl,fun _ _=>rfl,fun _ _=>rfl⟩
  let S:List D→St:=fun us=>fill locs 0 us ⟨m.tmps,m.objs,[]⟩
  let p:Act→World→Nat→Prop:=fun a w k=>∃us,TypedL (Yx locs) us∧(anns n).inv (xz (anns n).gh m) us∧Aj C B F0 w0 (S us) a w∧(anns n).meas us=k
  have h0:∃k,p a w k:=⟨_,xz locs m,x5 hM.ok,aj,xw (ai hh) ab.1.symm ab.2.symm,rfl⟩;refine wp_loop (fun a w=>∃k,p a w k) (fun a w=>jt (p a w)) h0 fun a1 w1 h1=>?_
  obtain⟨us,hty,hiv,hs,hme⟩:=Xl h1;have hb:=jO ac hty hiv;refine Al (fun e a' w' hp=>?_) (ih (n+1) _ (S us) a1 w1 hb hs);rw[hmt]at hp;obtain⟨z,s',hz,hq,hf,a0⟩:=hp;obtain⟨q1,q2,q3,q4,q5⟩:=jP (locs:=locs) (i:=0) (us:=us) (m:=⟨m.tmps,m.objs,[]⟩)
  --the frame from the loop's start to an end that leaves it
  have a7:Frame (qJ locs++mt) s ⟨s'.tmps,s'.objs,s'.dirty++m.dirty⟩:=by
   refine⟨hf.lt.trans (q1.trans hM.lt),hf.lo.trans (q2.trans hM.lo),fun t ht=>?_,fun k hk=>?_,fun k hk=>Au _ (hM.dirty k (.inl hk))⟩
   ·simp only[Aq,not_or]at ht;show nth .any s'.tmps t=_;rw[hf.tmps t ht.2,q4 t ht.1];exact hM.tout t ht.2 ht.1
   ·simp only[Aq,not_or]at hk;show nth .none s'.objs k=_;rw[hf.objs k hk.1,q5 k fun h=>hk.2 (hM.dirty k (.inr h))];exact hM.oout k hk.2
  cases z with
  |normal=>
   have hz:e= .normal:=hz;subst hz;simp only at hq;split at hq
   ·exact hq.elim
   rename_i m' a3;obtain⟨a2,a5⟩:=KE (C:=C) (B:=B) (F0:=F0) (w0:=w0) (a:=a') (w:=w') a3;unfold cnd at hq;split at hq
   ·rename_i ak;obtain⟨hi',hm'⟩:=hq;have a4:Away locs ⟨m.tmps,m.objs,[]⟩ m':=by
     refine⟨(a2.lt.trans (hf.lt.trans q1)).symm,(a2.lo.trans (hf.lo.trans q2)).symm,fun t ht=>?_,fun k hk=>?_⟩
     ·show nth .any m.tmps t=_;by_cases htm:t∈mt
      ·rw[hM.tin t htm ht,a2.tin t htm ht]
      ·rw[a2.tout t htm ht,hf.tmps t htm,q4 t ht]
     ·show nth .none m.objs k=_;by_cases hkm:k∈ms
      ·rw[hM.oin k hkm,a2.oin k hkm]
      ·have a6:k∉m'.dirty:=fun h=>by
        rcases Aq.1 (Jr ak k h)with h|h
        ·exact hkm h
        ·exact hk h
       rw[a2.oout k a6,hf.objs k fun h=>a6 (a2.dirty k (.inl h)),q5 k hk]
    have ae:=kv (pre:=[]) (m:=⟨m.tmps,m.objs,[]⟩) a2.ok a4;have ag:p a' w' ((anns n).meas (xz locs m')):=⟨xz locs m',x5 a2.ok,hi',xw (a5 a0) ae.1.symm ae.2.symm,rfl⟩;refine⟨⟨_,ag⟩,?_⟩;have h3:=Xm ag;show jt (p a' w')<jt (p a1 w1);omega
   ·exact hq.elim
  |exit i=>have hz:e= .exit i:=hz;subst hz;exact⟨.exit i,_,rfl,hq,by rw[zY,hlocs,hmt];exact a7,xw a0 rfl rfl⟩
  |ret=>have hz:e= .ret:=hz;subst hz;exact⟨.ret,_,rfl,hq,by rw[zY,hlocs,hmt];exact a7,xw a0 rfl rfl⟩
 |_=>intro n Q s a w h hh;exact h.elim
end
end Eng
end

section
namespace Eng
open Go Go.RowKit
section
variable {C:Cx}
def Ju (F0:Nat→Prop) (B:Bd) (w:World):Nat→Prop:=fun b=>F0 b∨(Own B b∧b<w.heap.size)
def Tz (tmps:Array Value) (r:ResultVar):Sem Value:=
 match r with
 | .tmp t=>pure (tmps.getD t undef)
 | .cell x t=>do loadVar t (←asAddr (tmps.getD x undef))
theorem HA {F0:Nat→Prop} {w0:World} {B:Bd} {F:Nat→Prop} {loc:Where} {st:St} {a:Act} {w:World} (h:Conc C B F0 w0 F loc st a w) {cells:List V} {ds:List D} {xs:List Value} (hc:Hk st.objs cells=some ds)
 (hv:All2 (fun v x=>CV loc st.objs w F v x∧x.oneCell'=true) cells xs):All2 (CD w (Ju F0 B w)) ds xs:=by
 unfold Hk at hc;split at hc
 ·rename_i cs hcs;split at hc
  ·rename_i ds' us hd;simp only[AV]at hc;subst hc;rw[vp hcs]at hv;exact(yl h hd (K0 hv)).2 (Ju F0 B w) (fun b hb=>by
    rcases h.fsub b hb with h'|h'
    ·exact .inl h'
    ·exact .inr ⟨h',h.bound b hb⟩) (fun p _ b c hl=> .inr (h.fresh _ _ _ hl))
  ·simp at hc
 ·simp at hc
theorem v7 {F0:Nat→Prop} {w0:World} {B:Bd} {F:Nat→Prop} {loc:Where} {st:St} {a:Act} {w:World} (h:Conc C B F0 w0 F loc st a w):∀{rs:List ResultVar} {as:List A},XL C st rs=some as→
 ∃vs:List Value,(rs.mapM (Tz a.tmps)).run C.P w= .ok vs w∧All2 (CA w (Ju F0 B w)) as vs
 |[],as,hr=>by simp only[XL,AV]at hr;subst hr;exact⟨[],rfl,trivial⟩
 | .tmp t::r,as,hr=>by
  simp only[XL]at hr;split at hr
  ·rename_i d us as' h1 h2;simp only[AV]at hr;subst hr;obtain⟨vs,h3,h4⟩:=v7 h h2;refine⟨a.tmps.getD t undef::vs,?_,?_,h4⟩
   ·rw[A8];simp[h3,Tz]
   ·have hv:=(yL h t).1;exact(Nx h h1 hv).2 (Ju F0 B w) (fun b hb=>by
     rcases h.fsub b hb with h'|h'
     ·exact .inl h'
     ·exact .inr ⟨h',h.bound b hb⟩) (fun p _ b c hl=> .inr (h.fresh _ _ _ hl))
  ·simp at hr
 | .cell x t::r,as,hr=>by
  simp only[XL]at hr;split at hr
  ·rename_i k hv;split at hr
   ·rename_i cells z hk hz;split at hr
    ·rename_i ds as' hlen hds h2;have hlen:cells.length=z.length:=of_decide_eq_true hlen;obtain⟨vs,h3,h4⟩:=v7 h h2;have hx:=(yL h x).1;simp only[Act.eval]at hx;rw[hv]at hx;obtain⟨b,c,hl,hp⟩:=hx _ hk rfl;have hco:=h.objs k;rw[hk]at hco;obtain⟨b',c',cs,t',hl',hnF,hblk,hall,hrefs⟩:=hco;rw[hl]at hl';simp only[AV,AW]at hl';obtain⟨rfl,rfl⟩:=hl';have hl2:=hall.length;have hcell:∀j,j<z.length→w.cell? ⟨b,0+j,none⟩=some (nth undef cs.toList (0+j)):=fun j hj=>by rw[AM,xU hblk,qn _ (by omega)];simp at hl2;simp[show j<cs.size by omega]
     have hFF:∀b,F b→Ju F0 B w b:=fun b hb=>by
      rcases h.fsub b hb with h'|h'
      ·exact .inl h'
      ·exact .inr ⟨h',h.bound b hb⟩
     have hcd:All2 (CD w (Ju F0 B w)) ds cs.toList:=HA h hds hall;have hcs:∀n,n=cs.toList.length→XQ (fun j=>nth undef cs.toList j) 0 n=cs.toList:=fun n hn=>by
      apply XY undef
      ·rw[hn];rw[wh]
      ·intro i;by_cases hi:i<n
       ·rw[ym _ _ _ _ _ hi,AM]
       ·rw[qB _ (by rw[wh];omega),qB _ (by omega)]
     have h1:=j0 (P:=C.P) (w:=w) (b:=b) (o:=0) hz (fun j=>nth undef cs.toList j) hcell;obtain⟨_,zv,_,_,hzc,_,_,hzt,_⟩:=xJ hz;have hpos:kg C.P t=false→0<z.length:=by intro hf;cases zv<;>simp[hf]at hzt<;>(subst hzc;simp[Value.cells])
     have a0:∀y,(Instr.loadAt t (.pointer (some ⟨b,0,none⟩))).run C.P w= .ok y w→(do loadVar t (←asAddr (a.tmps.getD x undef)):Sem Value).run C.P w= .ok y w:=fun y hy=>by
      have hp':a.tmps.getD x undef= .pointer (some ⟨b,0,none⟩):=hp;rw[hp']
      simpa [Instr.loadAt,Instr.sureAddr,asAddr]using hy
     have hlc:z.length=cs.toList.length:=by rw[←hlen];exact hl2
     split at hr
     ·rename_i ht;simp only[AV]at hr;subst hr;rcases h1 with h1|⟨h1,_⟩
      ·rw[ht]at h1;refine⟨.agg cs::vs,?_,⟨cs,rfl,hcd⟩,h4⟩;have h5:=a0 _ h1;rw[hcs _ hlc]at h5;rw[A8];simp only[Sem.run_bind,Tz,h5,Result.andThen_ok,h3];rfl
      ·rw[ht]at h1;simp at h1
     ·rename_i ht;simp only[AV]at hr;subst hr;rcases h1 with h1|⟨_,h1⟩
      ·rw[ht]at h1;refine⟨nth undef cs.toList 0::vs,?_,?_,h4⟩
       ·have h5:=a0 _ h1;rw[A8];simp only[Sem.run_bind,Tz,h5,Result.andThen_ok,h3];rfl
       ·have h6:=hpos ht;exact hcd.nth .undef undef _ _ 0 (by have:=hcd.length;omega)
      ·have:=hpos ht;omega
    ·simp at hr
   ·simp at hr
  ·simp at hr
theorem Lp {w:World} {F:Nat→Prop} {loc:Where} {objs:List Obj} {a:A} {v:Value} (h:CA w F a v):CV loc objs w F (Oh a) v:=by
 cases a with
 |ag cs=>exact h
 |c d=>
  cases d with
  |ptr cs=>
   replace h:CD w F (.ptr cs) v:=h;cases h with
   |ptr cs b o vs hF hc hd=>
    refine⟨b,o,cs.length,by simp,by simp,⟨fun e he=>by simp at he;rw[he],hF,fun j hj=>?_⟩⟩;have hj:j<cs.length:=by simpa using hj
    exact⟨vs j,hc j hj,by simpa using hd j hj⟩
  |_=>exact h
theorem yr {objs:List Obj} (a:A):Ref objs (Oh a):=by
 cases a with
 |c d=>cases d<;>trivial
 |ag cs=>trivial
theorem Qo {w:World} {F:Nat→Prop} {loc:Where} {objs:List Obj}:∀{args:List A} {vs:List Value},All2 (CA w F) args vs→All2 (CV loc objs w F) (args.map Oh) vs
 |[],[],_=>trivial
 |_::_,_::_,h=>⟨Lp h.1,Qo h.2⟩
 |[],_::_,h=>h.elim
 |_::_,[],h=>h.elim
theorem wP {α β:Type} {R:α→β→Prop}:∀{as as':List α} {bs bs':List β},All2 R as bs→All2 R as' bs'→All2 R (as++as') (bs++bs')
 |[],_,[],_,_,h'=>h'
 |_::_,_,_::_,_,h,h'=>⟨h.1,wP h.2 h'⟩
 |[],_,_::_,_,h,_=>h.elim
 |_::_,_,[],_,h,_=>h.elim
theorem yt {α β:Type} {R:α→β→Prop} {a:α} {b:β} (h:R a b):∀n,All2 R (A7 n a) (A7 n b)
 |0=>trivial
 |n+1=>⟨h,yt h n⟩
theorem Zc {α:Type} (d:α):∀(n i:Nat),nth d (A7 n d) i=d
 |0,_=>rfl
 |n+1,0=>rfl
 |n+1,i+1=>by simp only[List.replicate_succ,nth];exact Zc d n i
theorem wQ {n:Nat} {args:List A} {vs:List Value} {w:World} {F:Nat→Prop} (hb:∀b,F b→b<w.heap.size) (hinv:Inv C F w) (hargs:All2 (CA w F) args vs):
 Aj C ⟨w.heap.size,fun _=>False⟩ F w (kd n args) {tmps:=vs.toArray++Array.replicate (n-vs.toArray.size) undef,defers:=[]} w:=by
 have a0:=hargs.length;refine⟨F,⟨C.P,fun _=>none,fun _=>0⟩,⟨rfl,BelowX.refl _ _,AR _,rfl,?_,fun v hv=>?_,fun k=>?_,fun _ _ _ _ _ h=>by simp at h,fun _ _ _ h=>by simp at h,hb,fun b h=> .inl h,fun _ h=>h,hinv⟩⟩
 ·simp only[kd,Array.toList_append,Array.toList_replicate,A0];rw[a0];exact wP (Qo hargs) (yt trivial _)
 ·simp only[kd,Aq,At,List.mem_replicate]at hv;rcases hv with⟨x,_,rfl⟩|⟨_,rfl⟩
  ·exact yr x
  ·trivial
 ·simp only[kd];rw[Zc];rfl
theorem HB {fn:Func} {w:World} {F:Nat→Prop} {s':St} {a':Act} {w':World} {res:List A} (hh:Aj C ⟨w.heap.size,fun _=>False⟩ F w s' a' w') (has:XL C s' fn.results.toList=some res):
 a'.defers=[]∧∃v,(results fn a'.tmps).run C.P w'= .ok v w'∧Below w.heap.size w w'∧∃u,Ending.returned v= .returned u∧WS w' (fun b=>F b∨(w.heap.size≤b∧b<w'.heap.size)) res u:=by
 obtain⟨F',loc',a0⟩:=hh;obtain⟨us,h1,h2⟩:=v7 a0 has;refine⟨a0.defers,if h:us.toArray.size=1 then us.toArray[0]else .tuple us.toArray,?_,a0.below.toBelow,_,rfl,?_⟩
 ·unfold results;rw[Array.mapM_eq_mapM_toList];simp only[Sem.run_bind,map_eq_pure_bind];have h5:∀g:ResultVar→Sem Value,g=Tz a'.tmps→(fn.results.toList.mapM g).run C.P w'= .ok us w':=fun g hg=>by rw[hg];exact h1
  rw[h5 _ (by funext r;cases r<;>rfl)];rfl
 ·have hl:=h2.length;have h2:All2 (CA w' (fun b=>F b∨(w.heap.size≤b∧b<w'.heap.size))) res us:=h2.mono fun _ _ h=>h.mono (fun b hb=>hb.imp id fun hb=>⟨hb.1.elim id False.elim,hb.2⟩) fun _ _=>rfl
  match res,us,h2 with
  |[a],[u],h2=>exact h2.1
  |[],[],h2=>exact⟨#[],rfl,trivial⟩
  |a::b::r,u::v::s,h2=>exact⟨(u::v::s).toArray,by simp,h2⟩
theorem qf [EffOk C] {anns:Nat→Ann} {f:Nat} {fn:Func} {args res:List A} (hm:C.P.follows .mixedOrders=true) (hf:C.P.funcs[f]? =some fn) (h:wpF C (qe C) anns fn args (fun r=>r=res)):qe C f args res:=by
 intro w F vs hb a2 a0;unfold wpF at h;split at h
 ·exact h.elim
 rename_i c hc;refine calls_of_wp hf hc ?_;refine Al (fun e a' w' hp=>?_) (N4 hm c 0 _ _ _ _ h (wQ hb a2 a0));obtain⟨x,s',hx,hq,_,hh⟩:=hp;have a3:∀as,XL C s' fn.results.toList=some as→as=res→_:=fun as a1 he=>HB (fn:=fn) hh (he▸a1)
 cases x with
 |normal=>
  have hx:e= .normal:=hx;subst hx;simp only at hq;split at hq
  ·rename_i as a1;exact a3 as a1 hq
  ·exact hq.elim
 |ret=>
  have hx:e= .ret:=hx;subst hx;simp only at hq;split at hq
  ·rename_i as a1;exact a3 as a1 hq
  ·exact hq.elim
 |exit i=>exact hq.elim
end
end Eng
end

section
namespace Eng
open Go Go.RowKit
def YC (d m k:Nat):Nat:=match AJ k d with
 |true=>m
 |false=>k
def O1 (d m:Nat):V→V
 | .box k off=> .box (YC d m k) off
 | .arr k=> .arr (YC d m k)
 | .elt k i off=> .elt (YC d m k) i off
 | .sub k off len=> .sub (YC d m k) off len
 | .arrAt _ _ _ _=> .any
 | .boxAt k g=> .boxAt (YC d m k) g
 | .tpo k as=> .tpo (YC d m k) as
 | .agv _=> .any
 |v=>v
def KF (d m:Nat):List V→List V
 |[]=>[]
 |v::r=>O1 d m v::KF d m r
def wl (d m:Nat):Obj→Obj
 | .box cells=> .box (KF d m cells)
 | .bld T q=> .bld T (O1 d m q)
 |o=>o
def YD (d m:Nat):List Obj→List Obj
 |[]=>[]
 |v::r=>wl d m v::YD d m r
def HC (d:Nat) (st:St):St:=
 match nth .none st.objs d with
 | .none=>st
 |o=>match Nat.blt d st.objs.length with
  |true=>⟨KF d st.objs.length st.tmps,YD d st.objs.length (upd st.objs d .none)++[wl d st.objs.length o],[]⟩
  |false=>st
def O2:List Nat→St→St
 |[],st=>st
 |d::r,st=>O2 r (HC d st)
theorem HD (d m k:Nat):YC d m k=if k=d then m else k:=by
 unfold YC;split
 ·rename_i h;rw[if_pos (AH h)]
 ·rename_i h;rw[if_neg fun e=>by subst e;simp at h]
theorem wR (d m:Nat):∀l,KF d m l=l.map (O1 d m)
 |[]=>rfl
 |v::r=>by simp only[KF,Aw];rw[wR d m r]
theorem Zd (d m:Nat):∀l,YD d m l=l.map (wl d m)
 |[]=>rfl
 |v::r=>by simp only[YD,Aw];rw[Zd d m r]
theorem HE {α β:Type} (f:α→β) (d:α) (l:List α) (i:Nat):nth (f d) (l.map f) i=f (nth d l i):=by
 rw[qI,qI,List.getElem?_map];cases l[i]? <;>rfl
section
variable {C:Cx} {B:Bd} {F0:Nat→Prop} {w0:World} {F:Nat→Prop} {loc:Where} {st:St} {a:Act} {w:World}
theorem Ref.lt {objs:List Obj} {v:V} (h:Ref objs v):∀k∈qk v,k<objs.length:=by
 intro k hk;cases v<;>simp only[qk,A3,A4]at hk<;>first|(subst hk;exact qQ h)|exact qQ (h k hk)
theorem CV.ren {loc':Where} {objs objs':List Obj} {d m:Nat} {v:V} {x:Value} (ho:∀k,k<objs.length→nth .none objs' (YC d m k)=wl d m (nth .none objs k)∧loc' (YC d m k)=loc k) (hr:Ref objs v) (h:CV loc objs w F v x):CV loc' objs' w F (O1 d m v) x∧Ref objs' (O1 d m v):=by
 have hl:=hr.lt;have hn:∀{o:Obj},o≠ .none→wl d m o≠ .none:=fun{o} h=>by cases o<;>simp_all[wl]
 cases v with
 |box k off=>
  obtain⟨h1,h2⟩:=ho k (hl k (by simp[qk]));refine⟨fun o hc hbx=>?_,fun e=>hn hr (h1.symm.trans e)⟩;rw[h1]at hc;rw[h2];have hb:xE (nth .none objs k)=true:=by rw[←hc]at hbx;revert hbx;cases nth .none objs k<;>simp[wl,xE]
  exact h _ rfl hb
 |tpo k as=>obtain⟨h1,h2⟩:=ho k (hl k (by simp[qk]));obtain⟨x,ys,rfl,h3,h4⟩:=h;refine⟨⟨x,ys,rfl,fun s es fz hc=>?_,h4⟩,fun e=>hn hr (h1.symm.trans e)⟩;rw[h1]at hc;rw[h2];cases hk:nth .none objs k<;>rw[hk]at hc<;>simp only[wl,reduceCtorEq]at hc;exact h3 _ _ _ (hk.trans hc)
 |arr k=>obtain⟨h1,h2⟩:=ho k (hl k (by simp[qk]));refine⟨fun s es fz hc=>?_,fun e=>hn hr (h1.symm.trans e)⟩;rw[h1]at hc;rw[h2];cases hk:nth .none objs k<;>rw[hk]at hc<;>simp only[wl,reduceCtorEq]at hc;exact h _ _ _ (hk.trans hc)
 |elt k i off=>obtain⟨h1,h2⟩:=ho k (hl k (by simp[qk]));refine⟨fun s es fz hc=>?_,fun e=>hn hr (h1.symm.trans e)⟩;rw[h1]at hc;rw[h2];cases hk:nth .none objs k<;>rw[hk]at hc<;>simp only[wl,reduceCtorEq]at hc;exact h _ _ _ (hk.trans hc)
 |sub k off len=>obtain⟨h1,h2⟩:=ho k (hl k (by simp[qk]));refine⟨fun s es fz hc=>?_,fun e=>hn hr (h1.symm.trans e)⟩;rw[h1]at hc;rw[h2];cases hk:nth .none objs k<;>rw[hk]at hc<;>simp only[wl,reduceCtorEq]at hc;exact h _ _ _ (hk.trans hc)
 |arrAt k g c t=>exact⟨trivial,trivial⟩
 |agv cs=>exact⟨trivial,trivial⟩
 |boxAt k g=>
  obtain⟨h1,h2⟩:=ho k (hl k (by simp[qk]));refine⟨fun o hc hbx=>?_,fun e=>hn hr (h1.symm.trans e)⟩;rw[h1]at hc;rw[h2];have hb:xE (nth .none objs k)=true:=by rw[←hc]at hbx;revert hbx;cases nth .none objs k<;>simp[wl,xE]
  exact h _ rfl hb
 |_=>exact⟨h,trivial⟩
theorem j6 {α β γ:Type} {R:α→β→Prop} {R':γ→β→Prop} {f:α→γ}:∀{as:List α} {bs:List β},(∀a∈as,∀b,R a b→R' (f a) b)→All2 R as bs→All2 R' (as.map f) bs
 |[],[],_,_=>trivial
 |a::as,b::bs,h,h'=>⟨h a (by simp) b h'.1,j6 (fun c hc=>h c (by simp[hc])) h'.2⟩
 |[],_::_,_,h=>h.elim
 |_::_,[],_,h=>h.elim
set_option maxHeartbeats 1000000 in
theorem YE {d:Nat} (hh:Aj C B F0 w0 st a w):Aj C B F0 w0 (HC d st) a w:=by
 unfold HC;split
 ·exact hh
 ·rename_i hne;split
  ·rename_i hd;rw[AS]at hd;obtain⟨F,a0,h⟩:=hh;generalize hm:st.objs.length=m at *;generalize hobj:YD d m (upd st.objs d .none)++[wl d m (nth .none st.objs d)]=objs'
   let loc':Where:=⟨a0.P,fun j=>if j=m then a0 d else if j=d then none else a0 j,fun j=>if j=m then a0.ty d else a0.ty j⟩
   have a1:(YD d m (upd st.objs d .none)).length=m:=by rw[Zd,A6,qi,hm]
   have a3:∀j,nth .none objs' j=if j=m then wl d m (nth .none st.objs d)else if j=d then .none else wl d m (nth .none st.objs j):=fun j=>by
    rw[←hobj];by_cases h1:j<m
    ·rw[if_neg (by omega),qI,AA (by omega),←qI,Zd];have:=HE (wl d m) .none (upd st.objs d .none) j;have e:wl d m .none= .none:=rfl;rw[e]at this;rw[this,xB];by_cases h2:j=d
     ·subst h2;rw[if_pos ⟨rfl,by omega⟩,if_pos rfl];rfl
     ·rw[if_neg fun e=>h2 e.1.symm,if_neg h2]
    ·by_cases h2:j=m
     ·subst h2;rw[if_pos rfl,qI,Az (by omega)];simp[a1]
     ·rw[if_neg h2,if_neg (by omega),qB _ (by simp[a1];omega),qB _ (by omega)];rfl
   have ho:∀k,k<st.objs.length→nth .none objs' (YC d m k)=wl d m (nth .none st.objs k)∧loc' (YC d m k)=a0 k:=fun k hk=>by
    rw[HD,a3];by_cases hkd:k=d
    ·subst hkd;simp[loc']
    ·have:k≠m:=by omega
     simp[loc',hkd,this]
   have hlm:a0 m=none:=by have:=h.objs m;rw[qB _ (by omega)]at this;exact this
   have hld:∀{k b c},a0 k=some (b,c)→k<m:=fun{k b c} hk=>by
    rcases AK k m with h'|h'
    ·exact h'
    ·have:=h.objs k;rw[qB _ (by omega)]at this;rw[this]at hk;simp at hk
   have a2:∀i,i<m→loc'.ty (YC d m i)=a0.ty i:=fun i hi=>by
    rw[HD];by_cases hid:i=d
    ·simp[hid,loc']
    ·have:i≠m:=by omega
     simp[hid,loc',this]
   have a4:∀(j k:Nat),loc' j=a0 k→loc'.ty j=a0.ty k→CO a0 st.objs w F k (nth .none st.objs k)→CO loc' objs' w F j (wl d m (nth .none st.objs k)):=by
    intro j k hl hty hc;cases hk:nth .none st.objs k with
    |none=>rw[hk]at hc;exact hl.trans hc
    |dead=>rw[hk]at hc;exact hl.trans hc
    |box cells=>
     rw[hk]at hc;obtain⟨b,c,cs,t,h1,h2,h3,h4,h5⟩:=hc;refine⟨b,c,cs,t,hl.trans h1,h2,h3,?_,?_⟩
     ·rw[wR];exact j6 (fun v hv x hx=>⟨(CV.ren ho (h5 v hv) hx.1).1,hx.2⟩) h4
     ·intro v hv;rw[wR]at hv;obtain⟨u,hu,rfl⟩:=At.1 hv;have:=h5 u hu;cases u with
      |box k off=>obtain⟨q1,q2⟩:=ho k (Ref.lt this k (by simp[qk]));intro e;have e2:=q1.symm.trans e;have this:nth .none st.objs k≠ .none:=this;cases hkk:nth .none st.objs k<;>simp_all[wl]
      |arr k=>obtain⟨q1,q2⟩:=ho k (Ref.lt this k (by simp[qk]));intro e;have e2:=q1.symm.trans e;have this:nth .none st.objs k≠ .none:=this;cases hkk:nth .none st.objs k<;>simp_all[wl]
      |elt k i off=>obtain⟨q1,q2⟩:=ho k (Ref.lt this k (by simp[qk]));intro e;have e2:=q1.symm.trans e;have this:nth .none st.objs k≠ .none:=this;cases hkk:nth .none st.objs k<;>simp_all[wl]
      |sub k off len=>obtain⟨q1,q2⟩:=ho k (Ref.lt this k (by simp[qk]));intro e;have e2:=q1.symm.trans e;have this:nth .none st.objs k≠ .none:=this;cases hkk:nth .none st.objs k<;>simp_all[wl]
      |arrAt k g c t=>trivial
      |agv cs=>trivial
      |boxAt k g=>obtain⟨q1,q2⟩:=ho k (Ref.lt this k (by simp[qk]));intro e;have e2:=q1.symm.trans e;have this:nth .none st.objs k≠ .none:=this;cases hkk:nth .none st.objs k<;>simp_all[wl]
      |tpo k as=>obtain⟨q1,q2⟩:=ho k (Ref.lt this k (by simp[qk]));intro e;have e2:=q1.symm.trans e;have this:nth .none st.objs k≠ .none:=this;cases hkk:nth .none st.objs k<;>simp_all[wl]
      |_=>trivial
    |bld T q=>
     rw[hk]at hc;obtain⟨b,c,p,v,h1,h2,h3,h4,h5,h6⟩:=hc;have:=CV.ren ho h6.1 h5;refine⟨b,c,p,v,hl.trans h1,h2,h3,h4,this.1,this.2,fun i hi=>?_⟩;cases q with
     |arr i'=>simp only[O1,V.arr.injEq]at hi;subst hi;have hlt:=Ref.lt h6.1 i' (by simp[qk]);rw[a2 i' (by omega)];exact h6.2 i' rfl
     |_=>simp[O1]at hi
    |arr s es fz=>rw[hk]at hc;obtain⟨h1,h2,h3,h4⟩:=hc;refine⟨h1,h2,h3,?_⟩;rw[hl,hty];exact h4
   refine⟨F,loc',h.prog,h.below,h.hB,h.defers,?_,?_,fun j=>?_,?_,?_,h.bound,h.fsub,h.fsup,h.inv⟩
   ·show All2 _ (KF d m st.tmps) _;rw[wR];exact j6 (fun v hv x hx=>(CV.ren ho (h.refs v hv) hx).1) h.tmps
   ·intro v hv;have hv:v∈KF d m st.tmps:=hv;rw[wR]at hv;obtain⟨u,hu,rfl⟩:=At.1 hv;show Ref objs' _;have:=h.refs u hu;cases u with
    |box k off=>obtain⟨q1,q2⟩:=ho k (Ref.lt this k (by simp[qk]));intro e;have e2:=q1.symm.trans e;have this:nth .none st.objs k≠ .none:=this;cases hkk:nth .none st.objs k<;>simp_all[wl]
    |arr k=>obtain⟨q1,q2⟩:=ho k (Ref.lt this k (by simp[qk]));intro e;have e2:=q1.symm.trans e;have this:nth .none st.objs k≠ .none:=this;cases hkk:nth .none st.objs k<;>simp_all[wl]
    |elt k i off=>obtain⟨q1,q2⟩:=ho k (Ref.lt this k (by simp[qk]));intro e;have e2:=q1.symm.trans e;have this:nth .none st.objs k≠ .none:=this;cases hkk:nth .none st.objs k<;>simp_all[wl]
    |sub k off len=>obtain⟨q1,q2⟩:=ho k (Ref.lt this k (by simp[qk]));intro e;have e2:=q1.symm.trans e;have this:nth .none st.objs k≠ .none:=this;cases hkk:nth .none st.objs k<;>simp_all[wl]
    |arrAt k g c t=>trivial
    |agv cs=>trivial
    |boxAt k g=>obtain⟨q1,q2⟩:=ho k (Ref.lt this k (by simp[qk]));intro e;have e2:=q1.symm.trans e;have this:nth .none st.objs k≠ .none:=this;cases hkk:nth .none st.objs k<;>simp_all[wl]
    |tpo k as=>obtain⟨q1,q2⟩:=ho k (Ref.lt this k (by simp[qk]));intro e;have e2:=q1.symm.trans e;have this:nth .none st.objs k≠ .none:=this;cases hkk:nth .none st.objs k<;>simp_all[wl]
    |_=>trivial
   ·show CO loc' objs' w F j (nth .none objs' j);rw[a3];split
    ·rename_i e;exact a4 j d (by simp[loc',e]) (by simp[loc',e]) (h.objs d)
    ·split
     ·rename_i e1 e2;show loc' j=none;simp[loc',e2];omega
     ·rename_i e1 e2;exact a4 j j (by simp[loc',e1,e2]) (by simp[loc',e1]) (h.objs j)
   ·intro j j' b c c' g1 g2;simp only[loc']at g1 g2;split at g1<;>split at g2
    ·rw[‹j=m›,‹j'=m›]
    ·split at g2
     ·simp at g2
     ·exact absurd (h.inj _ _ _ _ _ g1 g2).symm ‹_›
    ·split at g1
     ·simp at g1
     ·exact absurd (h.inj _ _ _ _ _ g1 g2) ‹_›
    ·split at g1
     ·simp at g1
     ·split at g2
      ·simp at g2
      ·exact h.inj _ _ _ _ _ g1 g2
   ·intro j b c g1;simp only[loc']at g1;split at g1
    ·exact h.fresh _ _ _ g1
    ·split at g1
     ·simp at g1
     ·exact h.fresh _ _ _ g1
  ·exact hh
theorem Jv:∀(l:List Nat) {st:St},Aj C B F0 w0 st a w→Aj C B F0 w0 (O2 l st) a w
 |[],_,h=>h
 |_::r,_,h=>Jv r (YE h)
end
def Gz (k:Nat) (ds:List D):V→V
 | .box j off=>match AJ j k with
  |true=> .eref [ds] 0 off
  |false=> .box j off
 | .boxAt j g=>match AJ j k with
  |true=> .any
  |false=> .boxAt j g
 | .agv _=> .any
 |v=>v
def Jw (k:Nat) (ds:List D):List V→List V
 |[]=>[]
 |v::r=>Gz k ds v::Jw k ds r
def Lt (k:Nat) (ds:List D):Obj→Obj
 | .box cells=> .box (Jw k ds cells)
 | .bld T q=> .bld T (Gz k ds q)
 |o=>o
def Ze (k:Nat) (ds:List D):List Obj→List Obj
 |[]=>[]
 |v::r=>Lt k ds v::Ze k ds r
def Bu (k:Nat) (st:St):St:=
 match nth .none st.objs k with
 | .box cells=>match qA cells with
  |some ds=>⟨Jw k ds st.tmps,upd (Ze k ds st.objs) k .dead,[]⟩
  |none=>st
 |_=>st
theorem wS (k:Nat) (ds:List D):∀l,Jw k ds l=l.map (Gz k ds)
 |[]=>rfl
 |v::r=>by simp only[Jw,Aw];rw[wS k ds r]
theorem Vh (k:Nat) (ds:List D):∀l,Ze k ds l=l.map (Lt k ds)
 |[]=>rfl
 |v::r=>by simp only[Ze,Aw];rw[Vh k ds r]
section
variable {C:Cx} {B:Bd} {F0:Nat→Prop} {w0:World} {F:Nat→Prop} {loc:Where} {st:St} {a:Act} {w:World}
theorem v8 {α β:Type} {R:α→β→Prop}:∀{as:List α} {bs:List β},All2 R as bs→∀a∈as,∃b,R a b
 |a::as,b::bs,h,x,hx=>by
  rcases An.1 hx with rfl|hx
  ·exact⟨b,h.1⟩
  ·exact v8 h.2 x hx
theorem CV.frz {loc':Where} {objs objs':List Obj} {F':Nat→Prop} {k:Nat} {ds:List D} {cells:List V} {v:V} {x:Value} (hk:nth .none objs k= .box cells) (hF:∀b,F b→F' b) (hty:loc'.ty=loc.ty)
 (hn:∀j,nth .none objs' j=if j=k then .dead else Lt k ds (nth .none objs j)) (hl:∀j,j≠k→loc' j=loc j)
 (hp:∀b c,loc k=some (b,c)→Row w F' [ds] b 0 ds.length)
 (hr:Ref objs v) (h:CV loc objs w F v x):CV loc' objs' w F' (Gz k ds v) x∧Ref objs' (Gz k ds v):=by
 have hne:∀{o:Obj},o≠ .none→Lt k ds o≠ .none:=fun{o} h=>by cases o<;>simp_all[Lt]
 have a0:∀j,nth .none objs j≠ .none→nth .none objs' j≠ .none:=fun j hj=>by
  rw[hn];split
  ·simp
  ·exact hne hj
 have a2:∀o:Obj,xE (Lt k ds o)=xE o:=fun o=>by cases o<;>rfl
 have a1:∀j s es fz,nth .none objs' j= .arr s es fz→nth .none objs j= .arr s es fz∧loc' j=loc j:=fun j s es fz hj=>by
  rw[hn]at hj;split at hj
  ·simp at hj
  ·rename_i e;refine⟨?_,hl j e⟩;cases hj2:nth .none objs j<;>rw[hj2]at hj<;>simp only[Lt,reduceCtorEq]at hj;exact hj
 cases v with
 |box j off=>
  simp only[Gz];by_cases hjk:j=k
  ·subst hjk;rw[show AJ j j=true from AQ j]
   dsimp only
   obtain⟨b,c,h1,rfl⟩:=h _ hk rfl;exact⟨⟨b,0,ds.length,by simp,by simp,hp b c h1⟩,trivial⟩
  ·rw[show AJ j k=false from by rw[←Ad,AT];exact hjk];refine⟨fun o hc hb=>?_,a0 j hr⟩;rw[hn,if_neg hjk]at hc;have a3:xE (nth .none objs j)=true:=by rw[←a2,hc];exact hb
   obtain⟨b,c,h1,h2⟩:=h _ rfl a3;exact⟨b,c,by rw[hl j hjk];exact h1,h2⟩
 |boxAt j g=>
  simp only[Gz];by_cases hjk:j=k
  ·subst hjk;rw[show AJ j j=true from AQ j];exact⟨trivial,trivial⟩
  ·rw[show AJ j k=false from by rw[←Ad,AT];exact hjk];refine⟨fun o hc hb=>?_,a0 j hr⟩;rw[hn,if_neg hjk]at hc;have a3:xE (nth .none objs j)=true:=by rw[←a2,hc];exact hb
   obtain⟨⟨c,h1⟩,h2⟩:=h _ rfl a3;exact⟨⟨c,by rw[hl j hjk];exact h1⟩,h2⟩
 |arr j=>refine⟨fun s es fz hc=>?_,a0 j hr⟩;obtain⟨h1,h2⟩:=a1 j s es fz hc;rw[h2];exact h s es fz h1
 |elt j i off=>refine⟨fun s es fz hc=>?_,a0 j hr⟩;obtain⟨h1,h2⟩:=a1 j s es fz hc;rw[h2];exact h s es fz h1
 |sub j off len=>refine⟨fun s es fz hc=>?_,a0 j hr⟩;obtain⟨h1,h2⟩:=a1 j s es fz hc;rw[h2];exact h s es fz h1
 |arrAt j g c t=>refine⟨fun s es fz hc=>?_,a0 j hr⟩;obtain⟨h1,h2⟩:=a1 j s es fz hc;rw[h2,hty];exact h s es fz h1
 |tpo j as=>obtain⟨y,ys,rfl,h3,h4⟩:=h;refine⟨⟨y,ys,rfl,fun s es fz hc=>?_,h4.mono fun _ _ h=>h.mono hF fun _ _=>rfl⟩,a0 j hr⟩;obtain⟨h1,h2⟩:=a1 j s es fz hc;rw[h2];exact h3 s es fz h1
 |agv cs=>exact⟨trivial,trivial⟩
 |c d=>exact⟨CD.mono h hF fun _ _=>rfl,trivial⟩
 |ag cs=>obtain⟨vs,rfl,h⟩:=h;exact⟨⟨vs,rfl,h.mono fun _ _ h=>h.mono hF fun _ _=>rfl⟩,trivial⟩
 |tp as=>obtain⟨vs,rfl,h⟩:=h;exact⟨⟨vs,rfl,h.mono fun _ _ h=>h.mono hF fun _ _=>rfl⟩,trivial⟩
 |eref es i off=>obtain⟨b,o,a4,h1,h2,h3⟩:=h;exact⟨⟨b,o,a4,h1,h2,h3.mono hF fun _ _=>rfl⟩,trivial⟩
 |any=>exact⟨trivial,trivial⟩
 |no=>exact⟨h,trivial⟩
 |nilS=>exact⟨h,trivial⟩
 |gl g off=>exact⟨h,trivial⟩
 |fn f=>exact⟨h,trivial⟩
theorem Lw {k:Nat} (hh:Aj C B F0 w0 st a w):Aj C B F0 w0 (Bu k st) a w:=by
 unfold Bu;split
 ·rename_i a7 hk;split
  ·rename_i ds hds;obtain⟨F,loc,h⟩:=hh;have a9:=h.objs k;rw[hk]at a9;obtain⟨b0,c0,cs,t,a3,hnF,a5,a4,aa⟩:=a9;have hlt:k<st.objs.length:=qQ (by rw[hk];simp)
   let F':Nat→Prop:=fun x=>F x∨x=b0
   have hF:∀b,F b→F' b:=fun b hb=> .inl hb
   let loc':Where:=⟨loc.P,fun j=>if j=k then none else loc j,loc.ty⟩
   have hl:∀j,j≠k→loc' j=loc j:=fun j hj=>by simp[loc',hj]
   have hn:∀j,nth .none (upd (Ze k ds st.objs) k .dead) j=if j=k then .dead else Lt k ds (nth .none st.objs j):=fun j=>by
    rw[Vh];by_cases hj:k=j
    ·subst hj;rw[qb _ _ _ (by rw[A6];exact hlt),if_pos rfl]
    ·rw[qa _ _ _ hj,if_neg (AU hj)];exact HE (Lt k ds) .none st.objs j
   have a8:All2 (CD w F) ds cs.toList:=zE (loc:=loc) (objs:=st.objs) hds (a4.mono fun _ _ h=>h.1);have a6:=a8.length;have hp:∀b c,loc k=some (b,c)→Row w F' [ds] b 0 ds.length:=fun b c hb=>by
    rw[a3]at hb;simp only[AV,AW]at hb;obtain⟨rfl,rfl⟩:=hb;refine⟨fun e he=>by simp only[A3]at he;rw[he],.inr rfl,fun j hj=>?_⟩;simp only[As,Nat.one_mul]at hj;refine⟨nth undef cs.toList j,?_,?_⟩
    ·rw[AM,xU a5,qn _ (by omega)];simp at a6;simp[show j<cs.size by omega]
    ·simp only[List.flatten_cons,List.flatten_nil,AG];exact(a8.nth .undef undef _ _ j hj).mono hF fun _ _=>rfl
   have a1:∀v x,Ref st.objs v→CV loc st.objs w F v x→CV loc' (upd (Ze k ds st.objs) k .dead) w F' (Gz k ds v) x∧Ref (upd (Ze k ds st.objs) k .dead) (Gz k ds v):=fun v x hr hv=>CV.frz (loc:=loc) (objs:=st.objs) hk hF rfl hn hl hp hr hv
   have a0:∀j b c,j≠k→loc j=some (b,c)→b≠b0:=fun j b c hj hb e=>by subst e;exact hj (h.inj _ _ _ _ _ hb a3)
   refine⟨F',loc',h.prog,h.below,h.hB,h.defers,?_,fun v hv=>?_,fun j=>?_,fun i j b c c' q1 q2=>?_,fun j b c q=>?_,fun b hb=>?_,fun b hb=>?_,fun b hb=>hF _ (h.fsup b hb),h.inv.mono hF fun _ _=>rfl⟩
   ·show All2 _ (Jw k ds st.tmps) _;rw[wS];exact j6 (fun v hv x hx=>(a1 v x (h.refs v hv) hx).1) h.tmps
   ·have hv:v∈Jw k ds st.tmps:=hv;rw[wS]at hv;obtain⟨u,hu,rfl⟩:=At.1 hv;obtain⟨x,hx⟩:=v8 h.tmps u hu;exact(a1 u x (h.refs u hu) hx).2
   ·show CO loc' _ w F' j (nth .none (upd (Ze k ds st.objs) k .dead) j);rw[hn];split
    ·rename_i e;show loc' j=none;simp[loc',e]
    ·rename_i e;have hc:=h.objs j;cases hj:nth .none st.objs j with
     |none=>rw[hj]at hc;exact(hl j e).trans hc
     |dead=>rw[hj]at hc;exact(hl j e).trans hc
     |box cells2=>
      rw[hj]at hc;obtain⟨b,c,a2,t2,h1,h2,h3,h4,h5⟩:=hc;refine⟨b,c,a2,t2,(hl j e).trans h1,fun hb=>?_,h3,?_,fun v hv=>?_⟩
      ·rcases hb with hb|hb
       ·exact h2 hb
       ·exact a0 j b c e h1 hb
      ·show All2 (fun v x=>CV loc' (upd (Ze k ds st.objs) k .dead) w F' v x∧x.oneCell'=true) (Jw k ds cells2) a2.toList;rw[wS];exact j6 (fun v hv x hx=>⟨(a1 v x (h5 v hv) hx.1).1,hx.2⟩) h4
      ·rw[wS]at hv;obtain⟨u,hu,rfl⟩:=At.1 hv;obtain⟨x,hx⟩:=v8 h4 u hu;exact(a1 u x (h5 u hu) hx.1).2
     |bld T q=>
      rw[hj]at hc;obtain⟨b,c,p,v,h1,h2,h3,h4,h5,h6,h7⟩:=hc;have h8:=a1 q v h6 h5;refine⟨b,c,p,v,(hl j e).trans h1,fun hb=>?_,h3,h4,h8.1,h8.2,fun i hi=>?_⟩
      ·rcases hb with hb|hb
       ·exact h2 hb
       ·exact a0 j b c e h1 hb
      ·have:q= .arr i:=by
        cases q with
        |arr m=>exact hi
        |box m off=>simp only[Gz]at hi;split at hi<;>simp at hi
        |boxAt m g=>simp only[Gz]at hi;split at hi<;>simp at hi
        |_=>simp only[Gz,reduceCtorEq]at hi
       exact h7 i this
     |arr s es fz=>
      rw[hj]at hc;obtain⟨h1,h2,h3,h4⟩:=hc;refine⟨h1,h2,h3,?_⟩;rcases h4 with⟨q1,q2⟩|⟨b,c,a2,t2,q1,q2,q3,q4,q5,q6,q7,q8⟩
      ·exact .inl ⟨(hl j e).trans q1,q2⟩
      ·refine .inr ⟨b,c,a2,t2,(hl j e).trans q1,?_,q3,q4,q5,fun i hi=>?_,q7,q8⟩
       ·cases fz with
        |true=>exact hF _ q2
        |false=>
         intro hb;rcases hb with hb|hb
         ·exact q2 hb
         ·exact a0 j b c e q1 hb
       ·obtain⟨v,r1,r2⟩:=q6 i hi;exact⟨v,r1,r2.mono hF fun _ _=>rfl⟩
   ·have e1:i≠k:=fun e=>by simp[loc',e]at q1
    have e2:j≠k:=fun e=>by simp[loc',e]at q2
    rw[hl i e1]at q1;rw[hl j e2]at q2;exact h.inj _ _ _ _ _ q1 q2
   ·have e1:j≠k:=fun e=>by simp[loc',e]at q
    rw[hl j e1]at q;exact h.fresh _ _ _ q
   ·rcases hb with hb|hb
    ·exact h.bound b hb
    ·subst hb;exact(h.fresh _ _ _ a3).2
   ·rcases hb with hb|hb
    ·exact h.fsub b hb
    ·subst hb;exact .inr (h.fresh _ _ _ a3).1
  ·exact hh
 ·exact hh
end
end Eng
end

section
namespace Eng
open Go Go.RowKit
def Qp:List A→Bool
 |[]=>true
 |a::r=>XN a&&Qp r
theorem Xo {rs:List A} (h:Qp rs=true):∀r∈rs,XN r=true:=by
 induction rs with
 |nil=>intro r hr;simp at hr
 |cons a r ih=>
  simp only[Qp,Ab]at h;intro x hx;rcases An.1 hx with rfl|hx
  ·exact h.1
  ·exact ih h.2 x hx
def RG (K:Nat→List A→Option (List A)):R→Option (V×List (Nat×Obj))
 | .fail=>none
 | .ok v up=>some (v,up)
 | .cond (dc:=dc) _ v up=>match dc with
  | .isTrue _=>some (v,up)
  | .isFalse _=>none
 | .look z row off ag=>match Nat.ble (off+z.length) row.length with
  |true=>some (match ag with|true=> .ag (seg row off z.length)|false=> .c (nth .undef (seg row off z.length) 0),[])
  |false=>none
 | .call f as sh up=>match K f as with
  |some rs=>match zb sh||Qp rs with
   |true=>some (Ke rs,up)
   |false=>none
  |none=>none
def Lx (K:Nat→List A→Option (List A)) (C:Cx) (ops:Array Oper) (o:Oper) (st:St):Option (V×List (Nat×Obj)):=
 match o.guard with
 |none=>RG K (xc C o (ev st) st.objs)
 |some (j,want)=>match kR ops j with
  |none=>none
  |some t=>match nth .any st.tmps t with
   | .c (.bool c)=>match c,want with
    |true,true=>RG K (xc C o (ev st) st.objs)
    |false,false=>RG K (xc C o (ev st) st.objs)
    |true,false=>some (.no,[])
    |false,true=>some (.no,[])
   | .no=>some (.no,[])
   |_=>none
def O3 (K:Nat→List A→Option (List A)) (C:Cx) (ops:Array Oper):List Oper→St→Option St
 |[],st=>some st
 |o::r,st=>match Lx K C ops o st with
  |some (v,up)=>O3 K C ops r (st.put o.dst v up)
  |none=>none
def HF (K:Nat→List A→Option (List A)) (C:Cx) (ops:Array Oper):List Oper→St→List Rec→Option (St×List Rec)
 |[],st,rs=>some (st,rs)
 |o::r,st,rs=>match Lx K C ops o st with
  |some (v,up)=>HF K C ops r (st.put o.dst v up) (rs++[(opk o (ev st) st.objs,jm up [])])
  |none=>none
def KG (k i:Nat) (st:St):St:=
 match nth .none st.objs k with
 | .box cells=>match nth .any cells i with
  | .arr j=>match nth .none st.objs j with
   | .arr s es _=>⟨st.tmps,upd (upd st.objs j (.arr s es true)) k (.box (upd cells i (.c (.sl es)))),st.dirty⟩
   |_=>st
  |_=>st
 |_=>st
def KH (k:Nat):Nat→St→St
 |0,st=>st
 |n+1,st=>KH k n (KG k n st)
def RH:V→Bool
 | .arr _=>true
 |_=>false
def HG (k:Nat) (st:St):St:=
 match nth .none st.objs k with
 | .box cells=>match cells.any RH with
  |true=>KH k cells.length st
  |false=>st
 |_=>st
def KI:List Operand→St→St
 |[],st=>st
 |x::r,st=>KI r (match ev st x with
  | .box k 0=>Bu k st
  |_=>st)
def KJ (C:Cx):List Oper→St→St
 |[],st=>st
 |o::r,st=>KJ C r (match o.op with
  | .load t x=>match kg C.P t&&!C.keep t o.dst with
   |true=>match ev st x with
    | .box k _=>HG k st
    |_=>st
   |false=>st
  | .makeFunc _ _ captured=>KI captured.toList st
  |_=>st)
def Bv (st:St):St:=⟨st.tmps,st.objs,[]⟩
def Bw (K:Nat→List A→Option (List A)) (C:Cx) (ops:Array Oper) (draw:Bool) (st:St):Option St:=
 match draw with
 |false=>O3 K C ops ops.toList st
 |true=>match w6 C ops.toList with
  |true=>O3 K C ops ops.toList st
  |false=>match HF K C ops ops.toList st []with
   |some (s,rs)=>match w8 C ops.toList rs with
    |true=>some s
    |false=>none
   |none=>none
def RI (C:Cx):List Oper→List Nat
 |[]=>[]
 |o::r=>Hh C o++RI C r
def wT (K:Nat→List A→Option (List A)) (C:Cx):Nat→Code→St→Option (X×St)
 |0,_,_=>none
 |n+1,c,st=>match c with
  | .skip=>some (.normal,st)
  | .region _ ops d=>match Bw K C ops d (KJ C ops.toList (O2 (RI C ops.toList) st))with
   |some s=>some (.normal,Bv s)
   |none=>none
  | .seq a b=>match wT K C n a st with
   |some (.normal,s)=>wT K C n b s
   |r=>r
  | .cond c x y=>match ev st c with
   | .c (.bool true)=>wT K C n x st
   | .c (.bool false)=>wT K C n y st
   |_=>none
  | .block id c=>match wT K C n c st with
   |some (.exit i,s)=>match AJ i id with
    |true=>some (.normal,s)
    |false=>some (.exit i,s)
   |r=>r
  | .exit id=>some (.exit id,st)
  | .ret=>some (.ret,st)
  | .loop body=>match wT K C n body st with
   |some (.normal,s)=>wT K C n (.loop body) s
   |r=>r
  |_=>none
def YF (tab:Nat→List A→Option (List A)) (C:Cx) (lim:Nat):Nat→Nat→List A→Option (List A)
 |0,_,_=>none
 |n+1,f,args=>match tab f args with
  |some rs=>some rs
  |none=>match C.P.funcs[f]? with
   |none=>none
   |some fn=>match fn.body with
    |none=>none
    |some c=>match wT (YF tab C lim n) C lim c (kd fn.ntmps args)with
     |some (.normal,s)=>XL C s fn.results.toList
     |some (.ret,s)=>XL C s fn.results.toList
     |_=>none
section
variable {C:Cx} {B:Bd} {F0:Nat→Prop} {w0:World} {K:Nat→List A→Option (List A)}
theorem KK (hK:∀f as rs,K f as=some rs→qe C f as rs) {r:R} {v:V} {up:List (Nat×Obj)} (h:RG K r=some (v,up)):Out (qe C) r v up:=by
 unfold RG at h;split at h
 ·simp at h
 ·simp only[AV,AW]at h;exact⟨h.1.symm,h.2.symm⟩
 ·split at h
  ·simp only[AV,AW]at h;exact⟨by assumption,h.1.symm,h.2.symm⟩
  ·simp at h
 ·split at h
  ·rename_i hle;simp only[AV,AW]at h;exact⟨_,⟨rfl,Nat.le_of_ble_eq_true hle⟩,h.1.symm,h.2.symm⟩
  ·simp at h
 ·split at h
  ·rename_i rs hrs;split at h
   ·rename_i hf;simp only[AV,AW]at h;refine⟨rs,hK _ _ _ hrs,fun hs=>Xo ?_,h.1.symm,h.2.symm⟩
    simpa [hs]using hf
   ·simp at h
  ·simp at h
theorem Vi (hK:∀f as rs,K f as=some rs→qe C f as rs) {ops:Array Oper} {o:Oper} {st:St} {v:V} {up:List (Nat×Obj)} (h:Lx K C ops o st=some (v,up)):Stp C (qe C) ops o st v up:=by
 unfold Lx at h;split at h
 ·rename_i hg;exact⟨true,by unfold wK;rw[hg],by rw[if_pos rfl];exact KK hK h⟩
 ·rename_i j a0 hg;split at h
  ·simp at h
  ·rename_i t ht;split at h
   ·rename_i c hc;have hw:∀b,b=(c==a0)→wK ops o st.tmps b:=fun b hb=>by unfold wK;rw[hg];exact⟨t,ht,.inl ⟨c,hc,hb⟩⟩
    split at h
    ·exact⟨true,hw _ rfl,by rw[if_pos rfl];exact KK hK h⟩
    ·exact⟨true,hw _ rfl,by rw[if_pos rfl];exact KK hK h⟩
    ·simp only[AV,AW]at h;exact⟨false,hw _ rfl,by rw[if_neg (by simp)];exact⟨h.1.symm,h.2.symm⟩⟩
    ·simp only[AV,AW]at h;exact⟨false,hw _ rfl,by rw[if_neg (by simp)];exact⟨h.1.symm,h.2.symm⟩⟩
   ·rename_i hd;simp only[AV,AW]at h;exact⟨false,by unfold wK;rw[hg];exact⟨t,ht,.inr ⟨hd,rfl⟩⟩,by rw[if_neg (by simp)];exact⟨h.1.symm,h.2.symm⟩⟩
   ·simp at h
theorem HH (hK:∀f as rs,K f as=some rs→qe C f as rs) {ops:Array Oper}:∀(l:List Oper) (k:Nat) (s s':St),(∀j,l[j]? =ops[k+j]?)→O3 K C ops l s=some s'→∃rc,Tr C (qe C) ops rc (A5 k l.length) s s'
 |[],_,s,s',_,h=>by simp only[O3,AV]at h;subst h;exact⟨fun _=>([],[]),rfl,rfl⟩
 |o::l,k,s,s',hk,h=>by
  have h0:ops[k]? =some o:=by simpa using(hk 0).symm
  simp only[O3]at h;split at h
  ·rename_i v up hs;obtain⟨rc,h3⟩:=HH hK l (k+1) _ _ (fun j=>by have:=hk (j+1);simpa [AL,AN 1 j]using this) h;refine⟨fun i=>if i=k then(opk o (ev s) s.objs,up.map (·.1))else rc i,?_⟩;rw[A2,A1];refine⟨o,h0,v,up,Vi hK hs,?_,h3.recs fun i hi=>?_⟩
   ·simp only[if_pos];exact⟨fun _ _ h=>h,fun p hp=>At.2 ⟨p,hp,rfl⟩⟩
   ·have:=(AF.1 hi).1;rw[if_neg (by omega)]
  ·simp at h
theorem Vj (hK:∀f as rs,K f as=some rs→qe C f as rs) {ops:Array Oper}:∀(l:List Oper) (k:Nat) (s s':St) (acc R:List Rec),(∀j,l[j]? =ops[k+j]?)→acc.length=k→HF K C ops l s acc=some (s',R)→
 Tr C (qe C) ops (fun i=>nth ([],[]) R i) (A5 k l.length) s s'∧∃R',R=acc++R'
 |[],_,s,s',acc,R,_,_,h=>by simp only[HF,AV,AW]at h;obtain⟨rfl,rfl⟩:=h;exact⟨⟨rfl,rfl⟩,[],by simp⟩
 |o::l,k,s,s',acc,R,hk,hacc,h=>by
  have h0:ops[k]? =some o:=by simpa using(hk 0).symm
  simp only[HF]at h;split at h
  ·rename_i v up hs;obtain⟨h3,R',hR⟩:=Vj hK l (k+1) _ _ _ _ (fun j=>by have:=hk (j+1);simpa [AL,AN 1 j]using this) (by simp[hacc]) h;refine⟨?_,(opk o (ev s) s.objs,jm up [])::R',by rw[hR];simp⟩;rw[A2,A1];refine⟨o,h0,v,up,Vi hK hs,?_,h3⟩;have e:nth ([],[]) R k=(opk o (ev s) s.objs,jm up []):=by rw[hR,Ap];have:=kt ([],[]) acc ((opk o (ev s) s.objs,jm up [])::R') 0;rw[AI,hacc]at this;exact this
   simp only;rw[e];exact⟨fun _ _ h=>h,fun p hp=>jd.2 (.inr ⟨p,hp,rfl⟩)⟩
  ·simp at h
theorem KL {k i:Nat} {st:St} {a:Act} {w:World} (hh:Aj C B F0 w0 st a w):Aj C B F0 w0 (KG k i st) a w:=by
 unfold KG;split
 ·rename_i a0 hk;split
  ·rename_i j hi;split
   ·rename_i s es fz hj;obtain⟨F,a1,h⟩:=hh;have hkj:k≠j:=by intro e;subst e;rw[hk]at hj;cases hj
    have h1:=h.freeze1 hj;generalize hF':(fun b=>F b∨∃c,a1 j=some (b,c))=F' at h1;have hFF:∀b,F b→F' b:=fun b hb=>by rw[←hF'];exact .inl hb
    have hFj:∀b c,a1 j=some (b,c)→F' b:=fun b c hb=>by rw[←hF'];exact .inr ⟨c,hb⟩
    refine⟨F',a1,?_⟩;have hlt:k<st.objs.length:=by
     rcases AK k st.objs.length with h|h
     ·exact h
     ·rw[qB _ h]at hk;simp at hk
    have a7:nth .none (upd st.objs j (.arr s es true)) k= .box a0:=by rw[qa _ _ _ (AU hkj)];exact hk
    have a5:k<(upd st.objs j (.arr s es true)).length:=by rw[qi];exact hlt
    have a2:Le (upd st.objs j (.arr s es true)) (upd (upd st.objs j (.arr s es true)) k (.box (upd a0 i (.c (.sl es))))) a1 a1:=by
     refine⟨rfl,fun _ _=>rfl,fun j hj=>?_,fun j o' hj hc hbx=>?_,fun j s' es' fz' hj hc=>?_⟩
     ·rw[xB];split
      ·simp
      ·exact hj
     ·rw[xB]at hc;split at hc
      ·rename_i e;rw[←e.1];exact⟨by rw[a7];rfl,rfl⟩
      ·exact⟨by rw[hc];exact hbx,rfl⟩
     ·rw[xB]at hc;split at hc
      ·simp at hc
      ·exact⟨⟨_,_,hc,rfl⟩,rfl⟩
    refine h1.relocate a2 (fun m=>?_) h1.inj h1.fresh;by_cases hm:k=m
    ·subst hm;rw[qb _ _ _ a5];have h0:=h1.objs k;simp only at h0;rw[a7]at h0;obtain⟨b,c,cs,t,q1,q2,q3,q4,q5⟩:=h0;have hi0:i<a0.length:=by
      rcases AK i a0.length with h|h
      ·exact h
      ·rw[qB _ h]at hi;simp at hi
     have hcl:=q4.length;have hx:=All2.nth .any undef a0 cs.toList i q4 hi0;rw[hi]at hx;have a3:=h1.objs j;simp only at a3;have a4:j<st.objs.length:=by
      rcases AK j st.objs.length with h|h
      ·exact h
      ·rw[qB _ h]at hj;simp at hj
     have a6:nth .none (upd st.objs j (.arr s es true)) j= .arr s es true:=qb _ _ _ a4;rw[a6]at a3;have hcd:=QY (F':=F') a6 a3 hx.1 (fun _ h=>h) hFj;refine⟨b,c,cs,t,q1,q2,q3,?_,fun v hv=>?_⟩
     ·have h6:All2 (fun v x=>CV a1 (upd (upd st.objs j (.arr s es true)) k (.box (upd a0 i (.c (.sl es))))) w F' v x∧x.oneCell'=true) a0 cs.toList:=
       q4.mono_mem fun v hv x hx=>⟨CV.le (fun _ h=>h) (fun _ _=>rfl) a2 (q5 v hv) hx.1,hx.2⟩
      have h7:=All2.upd (i:=i) (a:=V.c (.sl es)) (b:=nth undef cs.toList i) ⟨hcd,hx.2⟩ h6;have h8:upd cs.toList i (nth undef cs.toList i)=cs.toList:=by rw[xv,qn _ (by omega)];exact List.set_getElem_self _
      rw[h8]at h7;exact h7
     ·rcases xC hv with hv|rfl
      ·exact(q5 v hv).le a2
      ·trivial
    ·rw[qa _ _ _ hm];exact CO.le (fun _ h=>h) (fun _ _=>rfl) a2 rfl rfl (fun _ _ _=>⟨rfl,fun h=>h⟩) (h1.objs m)
   ·exact hh
  ·exact hh
 ·exact hh
theorem Qq {k:Nat} {a:Act} {w:World}:∀(n:Nat) {st:St},Aj C B F0 w0 st a w→Aj C B F0 w0 (KH k n st) a w
 |0,_,h=>h
 |n+1,_,h=>Qq n (KL h)
theorem YG {k:Nat} {st:St} {a:Act} {w:World} (hh:Aj C B F0 w0 st a w):Aj C B F0 w0 (HG k st) a w:=by
 unfold HG;split
 ·split
  ·exact Qq _ hh
  ·exact hh
 ·exact hh
theorem Qr {a:Act} {w:World}:∀(l:List Operand) {st:St},Aj C B F0 w0 st a w→Aj C B F0 w0 (KI l st) a w
 |[],_,h=>h
 |x::l,st,h=>by
  refine Qr l ?_;split
  ·exact Lw h
  ·exact h
theorem Qs {a:Act} {w:World}:∀(l:List Oper) {st:St},Aj C B F0 w0 st a w→Aj C B F0 w0 (KJ C l st) a w
 |[],_,h=>h
 |o::l,st,h=>by
  refine Qs l ?_;split
  ·split
   ·split
    ·exact YG h
    ·exact h
   ·exact h
  ·exact Qr _ h
  ·exact h
def SK (C:Cx) (B:Bd) (F0:Nat→Prop) (w0:World) (x:X) (s':St) (e:Exit) (a:Act) (w:World):Prop:=XM x e∧Aj C B F0 w0 s' a w
theorem O4 [EffOk C] (hm:C.P.follows .mixedOrders=true) (hK:∀f as rs,K f as=some rs→qe C f as rs) {id:Nat} {ops:Array Oper} {d:Bool} {s s':St} {a:Act} {w:World} (h:Bw K C ops d s=some s') (hh:Aj C B F0 w0 s a w):
 (Am id ops d).wp C.P (SK C B F0 w0 .normal s') a w:=by
 have hq:∀a w,Aj C B F0 w0 s' a w→SK C B F0 w0 .normal s' .normal a w:=fun a w h=>⟨rfl,h⟩
 have a0:O3 K C ops ops.toList s=some s'→(d=true→w6 C ops.toList=true)→(Am id ops d).wp C.P (SK C B F0 w0 .normal s') a w:=fun h hr=>by obtain⟨rc,ht⟩:=HH hK ops.toList 0 s s' (by simp) h;rw[Aa,←Ax]at ht;exact wL hm (fun hd=>Qh rc (hr hd)) ht hh hq
 unfold Bw at h;split at h
 ·exact a0 h (by simp)
 ·split at h
  ·rename_i hr;exact a0 h fun _=>hr
  ·split at h
   ·rename_i s1 rs a1;split at h
    ·rename_i hr;simp only[AV]at h;subst h;obtain⟨ht,_⟩:=Vj hK ops.toList 0 s s1 [] rs (by simp) rfl a1;rw[Aa,←Ax]at ht;exact wL hm (fun _=>vT hr) ht hh hq
    ·simp at h
   ·simp at h
theorem Zf [EffOk C] (hm:C.P.follows .mixedOrders=true) (hK:∀f as rs,K f as=some rs→qe C f as rs):∀(n:Nat) (c:Code) (s s':St) (x:X) (a:Act) (w:World),wT K C n c s=some (x,s')→Aj C B F0 w0 s a w→c.wp C.P (SK C B F0 w0 x s') a w:=by
 intro n
 induction n using AP with
 |_ n ih=>
  intro c s s' x a w h hh;cases n with
  |zero=>simp[wT]at h
  |succ n=>
   cases c with
   |skip=>simp only[wT,AV,AW]at h;obtain⟨rfl,rfl⟩:=h;exact wp_skip ⟨rfl,hh⟩
   |region id ops d=>
    simp only[wT]at h;split at h
    ·rename_i s1 h1;simp only[AV,AW]at h;obtain⟨rfl,rfl⟩:=h;have h3:=O4 (id:=id) hm hK h1 (Qs _ (Jv _ hh));refine Al (fun e a w q=>?_) h3;obtain⟨q1,q2⟩:=q;exact⟨q1,xw q2 rfl rfl⟩
    ·simp at h
   |seq p q=>
    simp only[wT]at h;split at h
    ·rename_i s1 h1;refine wp_seq (Al (fun e a' w' hp=>?_) (ih n (by omega) p s s1 .normal a w h1 hh));obtain⟨he,a0⟩:=hp;have he:e= .normal:=he;subst he;exact ih n (by omega) q s1 s' x a' w' h a0
    ·rename_i a2;refine wp_seq (Al (fun e a' w' hp=>?_) (ih n (by omega) p s s' x a w h hh));obtain⟨he,a0⟩:=hp;cases x with
     |normal=>exact absurd h (a2 s')
     |exit i=>have he:e= .exit i:=he;subst he;exact⟨rfl,a0⟩
     |ret=>have he:e= .ret:=he;subst he;exact⟨rfl,a0⟩
   |cond cd p q=>
    simp only[wT]at h;have hb:∀b,ev s cd= .c (.bool b)→a.eval cd= .bool b:=fun b hb=>by obtain⟨F,loc,hc⟩:=hh;have he:=(qO hc cd).1;rw[hb]at he;exact(fun(x:Value) (hx:CD w F (.bool b) x)=>(by cases hx;rfl:x= .bool b)) _ he
    split at h
    ·rename_i hc;exact wp_cond (hb _ hc) (by rw[if_pos rfl];exact ih n (by omega) p s s' x a w h hh)
    ·rename_i hc;exact wp_cond (hb _ hc) (by rw[if_neg (by simp)];exact ih n (by omega) q s s' x a w h hh)
    ·simp at h
   |block id p=>
    simp only[wT]at h;split at h
    ·rename_i i s1 h1;refine wp_block (Al (fun e a' w' hp=>?_) (ih n (by omega) p s s1 _ a w h1 hh));obtain⟨he,a0⟩:=hp;have he:e= .exit i:=he;subst he;unfold Exit.inBlock;split at h
     ·rename_i hi;simp only[AV,AW]at h;obtain⟨rfl,rfl⟩:=h;have:=AH hi;simp only[this,if_true];exact⟨rfl,a0⟩
     ·rename_i hi;simp only[AV,AW]at h;obtain⟨rfl,rfl⟩:=h;have:i≠id:=fun e=>by subst e;simp at hi
      simp only[this,if_false];exact⟨rfl,a0⟩
    ·rename_i a2;refine wp_block (Al (fun e a' w' hp=>?_) (ih n (by omega) p s s' x a w h hh));obtain⟨he,a0⟩:=hp;cases x with
     |normal=>have he:e= .normal:=he;subst he;exact⟨rfl,a0⟩
     |exit i=>exact absurd h (a2 i s')
     |ret=>have he:e= .ret:=he;subst he;exact⟨rfl,a0⟩
   |exit id=>simp only[wT,AV,AW]at h;obtain⟨rfl,rfl⟩:=h;exact wp_exit ⟨rfl,hh⟩
   |ret=>simp only[wT,AV,AW]at h;obtain⟨rfl,rfl⟩:=h;exact wp_ret ⟨rfl,hh⟩
   |loop body=>
    let p:Act→World→Nat→Prop:=fun a w k=>k≤n+1∧∃s,wT K C k (.loop body) s=some (x,s')∧Aj C B F0 w0 s a w
    refine wp_loop (fun a w=>∃k,p a w k) (fun a w=>jt (p a w)) ⟨n+1,AR _,s,h,hh⟩ fun a1 w1 h1=>?_
    obtain⟨hle,s1,hr,hs⟩:=Xl h1;generalize hk:jt (p a1 w1)=k at *;cases k with
    |zero=>simp[wT]at hr
    |succ k=>
     simp only[wT]at hr;split at hr
     ·rename_i s2 hb;refine Al (fun e a' w' hp=>?_) (ih k (by omega) body s1 s2 .normal a1 w1 hb hs);obtain⟨he,a0⟩:=hp;have he:e= .normal:=he;subst he;have a3:p a' w' k:=⟨by omega,s2,hr,a0⟩;refine⟨⟨_,a3⟩,?_⟩;have:=Xm a3;show jt (p a' w')<k+1;omega
     ·rename_i a2;refine Al (fun e a' w' hp=>?_) (ih k (by omega) body s1 s' x a1 w1 hr hs);obtain⟨he,a0⟩:=hp;cases x with
      |normal=>exact absurd hr (a2 s')
      |exit i=>have he:e= .exit i:=he;subst he;exact⟨rfl,a0⟩
      |ret=>have he:e= .ret:=he;subst he;exact⟨rfl,a0⟩
   |_=>simp[wT]at h
theorem Qt [EffOk C] {tab:Nat→List A→Option (List A)} {lim:Nat} (hm:C.P.follows .mixedOrders=true) (htab:∀f as rs,tab f as=some rs→qe C f as rs):∀(n f:Nat) (args res:List A),YF tab C lim n f args=some res→qe C f args res:=by
 intro n
 induction n with
 |zero=>intro f args res h;simp[YF]at h
 |succ n ih=>
  intro f args res h;simp only[YF]at h;split at h
  ·rename_i rs hrs;simp only[AV]at h;subst h;exact htab _ _ _ hrs
  ·split at h
   ·simp at h
   rename_i fn hf;split at h
   ·simp at h
   rename_i c hc;have a4:∀(x:X) (s:St),(x= .normal∨x= .ret)→wT (YF tab C lim n) C lim c (kd fn.ntmps args)=some (x,s)→XL C s fn.results.toList=some res→qe C f args res:=by
    intro x s hx hr a2 w F vs hb a1 a0;refine calls_of_wp hf hc (Al (fun e a' w' hp=>?_) (Zf hm (fun f as rs h=>ih f as rs h) lim c _ s x _ w hr (wQ hb a1 a0)));obtain⟨he,hh⟩:=hp;have a3:=HB (fn:=fn) hh a2;rcases hx with rfl|rfl
    ·have he:e= .normal:=he;subst he;exact a3
    ·have he:e= .ret:=he;subst he;exact a3
   split at h
   ·rename_i s hr;exact a4 _ _ (.inl rfl) hr h
   ·rename_i s hr;exact a4 _ _ (.inr rfl) hr h
   ·simp at h
end
end Eng
end

section
namespace Eng
open Go Go.RowKit
def Buf (e:TypeId) (w:World) (b:Nat):Option (Nat×Nat)→Value→List Value→Prop
 |none,v,bs=>v= .slice none 0 0∧bs=[]
 |some (g,c),v,bs=>v= .slice (some ⟨g,0,none⟩) bs.length c∧g≠b∧g<w.heap.size∧(bs.length≤c∧c≤9223372036854775807)∧∃(cs:Array Value) (t:TypeId),w.heap[g]? =some (.cells cs t (0,0))∧cs.size=c∧(∀(j:Nat) (u:Value),bs[j]? =some u→cs[j]? =some u)∧t=e
structure Keeps (w w':World) (out:Nat→Prop):Prop where
 below:Below 0 w w'
 block:∀k,k<w.heap.size→¬out k→w'.heap[k]? =w.heap[k]?
def zN (own:Option (Nat×Nat)) (k:Nat):Prop:=∃c,own=some (k,c)
theorem Keeps.refl (w:World) (out:Nat→Prop):Keeps w w out:=⟨Below.refl _ _,fun _ _ _=>rfl⟩
theorem Xp {P:Program} {t tx e ty:TypeId} {inf:TypeInfo} {z:Value} (ht:P.underlying t=some (.slice e)) (hi:P.info? e=some inf) (hz:inf.zero=some z) (h1:inf.size=1) (hzc:z.cells.size=1) (hby:inf.bytes=1)
 {w:World} {b:Nat} {own:Option (Nat×Nat)} {v x:Value} {bs news:List Value} {n:Nat} (hb:Buf e w b own v bs) (hbw:b<w.heap.size) (hs:Src P 1 tx x n news w) (hroom:bs.length+n≤1073741824):
 ∃v' w' own',(Ak #[t,tx] ty #[v,x]).run P w= .ok v' w'∧Buf e w' b own' v' (bs++news)∧Keeps w w' (zN own)∧(∀g,zN own' g→zN own g∨w.heap.size≤g):=by
 have a4:news.length=n:=by rw[hs.newsLen,AO]
 have a3:∀(a2:Option Addr) (a0:Nat),a0<bs.length+n→(Builtin.firstCells inf.size bs.length (.slice a2 bs.length a0)).run P w.drew= .ok bs.toArray w.drew→
  ∃v' w' own',(Ak #[t,tx] ty #[.slice a2 bs.length a0,x]).run P w= .ok v' w'∧Buf e w' b own' v' (bs++news)∧Keeps w w' (zN own)∧(∀g,zN own' g→zN own g∨w.heap.size≤g):=by
  intro a2 a0 a7 a8;have hnc:Builtin.nextslicecap (bs.length+n) a0*inf.bytes≤281474976710656:=by have:=nextslicecap_le (need:=bs.length+n) (old:=a0) a7;rw[hby];omega
  have hr:=run_append_grow_src (P:=P) w t tx ty e inf z ht hi hz a2 bs.length a0 bs a8 x n news (by rw[h1];exact hs) a7 (by omega) hnc;have hge:=grownCap_ge w (bs.length+n) a0 e;refine⟨_,_,some (w.heap.size,grownCap w (bs.length+n) a0 e),hr,⟨by rw[Ao,a4],by omega,by rw[World.size_alloc];show w.heap.size<w.heap.size+1;omega,by rw[Ao,a4];exact⟨hge,Nat.le_trans (grownCap_le_maxLen w _ a0 e (by simp only[maxLen];omega)) (by simp[maxLen])⟩,_,_,by show(w.heap.push _)[w.heap.size]? =_;exact Array.getElem?_push_size,?_,fun j u hj=>?_,rfl⟩,⟨?_,fun k hk _=>?_⟩,fun g hg=>?_⟩
  ·rw[Array.size_append,size_zeroCells,hzc,A0,Ao,a4];omega
  ·have a7:j<(bs++news).length:=(A9.1 hj).1;rw[Array.getElem?_append_left (by rw[A0];exact a7),AC];exact hj
  ·refine⟨rfl,?_,rfl,by rw[World.size_alloc];show w.heap.size≤w.heap.size+1;omega,fun k hk=>by omega⟩;rfl
  ·show(w.heap.push _)[k]? =_;rw[Array.getElem?_push_lt hk,Array.getElem?_eq_getElem hk]
  ·obtain⟨c,hc⟩:=hg;simp only[AV,AW]at hc;exact .inr (by omega)
 cases own with
 |none=>
  obtain⟨rfl,rfl⟩:=hb;by_cases hn:n=0
  ·subst hn;have a6:news=[]:=Ay a4;subst a6;refine⟨.slice none 0 0,w,none,?_,⟨rfl,rfl⟩,Keeps.refl _ _,fun g hg=>by obtain⟨c,hc⟩:=hg;simp at hc⟩;have hc:=hs.cells;rcases hs.kind with⟨e',hk⟩|hk<;>simp[Ak,run_underlying ht,run_underlying hk,Go.sizeOf,typeInfo,hi,h1,hs.len,hc]
  ·exact a3 none 0 (by simp;omega) (by rw[h1];exact run_firstCells_none (P:=P) w.drew 1 0 0 0)
 |some gc=>
  obtain⟨g,c⟩:=gc;obtain⟨rfl,hne,hg,hlc,cs,tt,a5,hcs,a1,htt⟩:=hb;by_cases hfit:bs.length+n≤c
  ·have a9:=xk (P:=P) (o:=bs.length*1) news 0 w cs a5 (by rw[a4,AO];omega) hs.one;simp only[AI]at a9;have hr:(Ak #[t,tx] ty #[.slice (some ⟨g,0,none⟩) bs.length c,x]).run P w= .ok (.slice (some ⟨g,0,none⟩) (bs.length+n) c) (setBlk w g (.cells (qF cs.toList (bs.length*1) news).toArray tt (0,0))):=by rcases hs.kind with⟨e',hk⟩|hk<;>simp only[AO]at a9<;>simp[Ak,run_underlying ht,run_underlying hk,Go.sizeOf,typeInfo,hi,h1,hs.len,hs.cells,hfit,xe,a9]
   have ab:(qF cs.toList (bs.length*1) news).length=cs.size:=by rw[xj];simp
   refine⟨_,_,some (g,c),hr,⟨by rw[Ao,a4],hne,by rw[setBlk_size];exact hg,by rw[Ao,a4];exact⟨hfit,hlc.2⟩,_,tt,xP hg,by rw[A0,ab,hcs],fun j u hj=>?_,htt⟩,⟨⟨rfl,rfl,rfl,by rw[setBlk_size];omega,fun k hk=>by omega⟩,fun k hk hn=>xb fun e=>hn ⟨c,by rw[e]⟩⟩,fun g' hg'=> .inl hg'⟩;have hjl:j<(bs++news).length:=(A9.1 hj).1;rw[Ao,a4]at hjl;have aa:j<(qF cs.toList (bs.length*1) news).length:=by rw[ab];omega
   have hv:nth undef (qF cs.toList (bs.length*1) news) j=u:=by
    by_cases hjb:j<bs.length
    ·rw[x4 undef _ _ _ _ (by omega)];rw[AA hjb]at hj;have:=a1 j u hj;rw[qI];simp[this]
    ·have:=xI undef news cs.toList (bs.length*1) (j-bs.length) (by omega) (by simp;omega);rw[show bs.length*1+(j-bs.length)=j by omega]at this;rw[this];rw[Az (by omega)]at hj;rw[qI,hj];rfl
   rw[qn _ aa]at hv;rw[AC,AB aa,hv]
  ·refine a3 (some ⟨g,0,none⟩) c (by omega) ?_;have:=run_firstCells_some (P:=P) w.drew 1 bs.length ⟨g,0,none⟩ bs.length c bs (by simp) (fun j u hj=>by
    have h2:=a1 j u hj;rw[xe];show w.cell? ⟨g,0+j,none⟩=_;rw[AM,xU a5];exact h2)
   rw[h1];exact this
end Eng
end

section
namespace Eng
open Go Go.RowKit
def HI:List D→Bool
 |[.int .u8 n]=>match n with
  | .ofNat m=>Nat.blt m 256
  |_=>false
 |_=>false
def vC:List (List D)→Bool
 |[]=>true
 |e::r=>HI e&&vC r
def HJ:List D→UInt8
 |[.int .u8 n]=>UInt8.ofNat n.toNat
 |_=>0
def jQ:List (List D)→List UInt8
 |[]=>[]
 |e::r=>HJ e::jQ r
theorem kV:∀{es:List (List D)},vC es=true→zc (jQ es)=es
 |[],_=>rfl
 |e::r,h=>by
  simp only[vC,Ab]at h;have ih:=kV h.2;simp only[jQ,zc,Aw];have hh:HI e=true:=h.1;unfold HI at hh;split at hh
  ·split at hh
   ·rename_i m;rw[AS]at hh;congr 1;simp only[HJ];have:(UInt8.ofNat (Int.ofNat m).toNat).toNat=m:=by simp[UInt8.toNat_ofNat'];omega
    rw[this];rfl
   ·simp at hh
  ·simp at hh
def Vk (dst:Option Nat) (v:V) (rows:List (List D)) (res:V) (ob:List Obj):R:=
 match v with
 | .box d 0=>match nth .none ob d with
  | .bld T q=>match q with
   | .nilS=>match dst with
    |some t=>match qq ob t with
     |true=> .cond (room rows.length) res [(t,.arr 1 rows false),(d,.bld T (.arr t))]
     |false=> .fail
    |none=> .fail
   | .arr k=>match nth .none ob k with
    | .arr sz es false=>match dst with
     |some t=>match AJ sz 1&&qq ob t with
      |true=> .cond (room (es.length+rows.length)) res [(k,.dead),(t,.arr 1 (es++rows) false),(d,.bld T (.arr t))]
      |false=> .fail
     |none=> .fail
    |_=> .fail
   |_=> .fail
  |_=> .fail
 |_=> .fail
def PZ (dst:Option Nat) (vs:List V) (ob:List Obj):R:=
 match vs with
 |[v,.c (.str s)]=>Vk dst v (zc s) (.tp [.c (.int .i64 s.length),.c .nilI]) ob
 |_=> .fail
def Ra (dst:Option Nat) (vs:List V) (ob:List Obj):R:=
 match vs with
 |[v,.c (.int .u8 n)]=>Vk dst v [[.int .u8 n]] (.c .nilI) ob
 |_=> .fail
def HK (_:Option Nat) (vs:List V) (ob:List Obj):R:=
 match vs with
 |[.box d 0]=>match nth .none ob d with
  | .bld _ q=>match q with
   | .nilS=> .ok (.c (.str [])) []
   | .arr k=>match nth .none ob k with
    | .arr sz es false=>match AJ sz 1 with
     |true=> .cond (es≠[]∧vC es=true) (.c (.str (jQ es))) [(k,.dead)]
     |false=> .fail
    |_=> .fail
   |_=> .fail
  |_=> .fail
 |_=> .fail
theorem HL {dst:Option Nat} {v:V} {rows:List (List D)} {res:V} {ob ob':List Obj} (h:∀k∈zp ob (qk v),nth .none ob k=nth .none ob' k) {wd:Bool} (hd:∀d,Ow wd dst d→qq ob d=qq ob' d):Vk dst v rows res ob=Vk dst v rows res ob':=by
 cases v with
 |box d off=>
  cases off with
  |succ n=>rfl
  |zero=>
   have h1:=h d (by simp[qk,qy]);cases hb:nth .none ob d with
   |bld T q=>
    have a0:=h1.symm.trans hb;cases q with
    |nilS=>
     cases dst with
     |none=>simp only[Vk,hb,a0]
     |some t=>simp only[Vk,hb,a0];rw[hd t (.inl rfl)]
    |arr k=>
     have h2:=h k (by rw[qy];exact⟨d,by simp[qk],.inr ⟨.arr k,by simp[hb,qM],by simp[qk]⟩⟩);cases dst with
     |none=>simp only[Vk,hb,a0,h2]
     |some t=>simp only[Vk,hb,a0,h2];rw[hd t (.inl rfl)]
    |_=>simp only[Vk,hb,a0]
   |_=>have a0:=h1.symm.trans hb;simp only[Vk,hb,a0]
 |_=>rfl
theorem O5 {dst:Option Nat} {vs:List V} {ob ob':List Obj} (h:∀k∈zp ob (vs.flatMap qk),nth .none ob k=nth .none ob' k):HK dst vs ob=HK dst vs ob':=by
 match vs,h with
 |[.box d 0],h=>
  have h1:=h d (by simp[qk,qy]);cases hb:nth .none ob d with
  |bld T q=>
   have a0:=h1.symm.trans hb;cases q with
   |arr k=>have h2:=h k (by rw[qy];exact⟨d,by simp[qk],.inr ⟨.arr k,by simp[hb,qM],by simp[qk]⟩⟩);simp only[HK,hb,a0,h2]
   |_=>simp only[HK,hb,a0]
  |_=>have a0:=h1.symm.trans hb;simp only[HK,hb,a0]
 |[],_=>rfl
 |[.box d (n+1)],_=>rfl
 |[.any],_=>rfl
 |[.no],_=>rfl
 |[.c _],_=>rfl
 |[.ag _],_=>rfl
 |[.tp _],_=>rfl
 |[.nilS],_=>rfl
 |[.arr _],_=>rfl
 |[.elt _ _ _],_=>rfl
 |[.sub _ _ _],_=>rfl
 |[.eref _ _ _],_=>rfl
 |[.gl _ _],_=>rfl
 |[.fn _],_=>rfl
 |[.arrAt _ _ _ _],_=>rfl
 |[.boxAt _ _],_=>rfl
 |[.tpo _ _],_=>rfl
 |[.agv _],_=>rfl
 |x::_::_,_=>
  cases x<;>first
   |rfl
   |(rename_i d off _;cases off<;>rfl)
theorem Jx {wd:Bool} {dst:Option Nat} {v:V} {rows:List (List D)} {res:V} {ob:List Obj} (hres:qk res=[]) (hv:∀k∈qk v,nth .none ob k≠ .none) (_hb:∀k,∀u∈qM (nth .none ob k),∀j∈qk u,nth .none ob j≠ .none):
 N0 wd dst (zp ob (qk v)) ob (Vk dst v rows res ob):=by
 unfold Vk;split
 ·rename_i d;split
  ·rename_i T q hq;have a0:d∈zp ob (qk (.box d 0)):=by simp[qk,qy]
   have a1:nth .none ob d≠ .none:=hv d (by simp[qk]);split
   ·split
    ·rename_i t;split
     ·rename_i hf;refine⟨fun p hp=>?_,fun k hk=>by rw[hres]at hk;simp at hk⟩;simp only[An,A4,or_false]at hp;rcases hp with rfl|rfl
      ·exact⟨.inl ⟨.inl rfl,hf⟩,by simp,fun u hu=>by simp[qM]at hu⟩
      ·refine⟨.inr ⟨a0,a1⟩,by simp,fun u hu k hk=>?_⟩;simp[qM]at hu;subst hu;simp[qk]at hk;subst hk;exact .inr ⟨hf,_,AE ..⟩
     ·trivial
    ·trivial
   ·rename_i k;split
    ·rename_i sz es hk;split
     ·rename_i t;split
      ·rename_i hf;simp only[Ab]at hf;refine⟨fun p hp=>?_,fun k hk=>by rw[hres]at hk;simp at hk⟩;simp only[An,A4,or_false]at hp;rcases hp with rfl|rfl|rfl
       ·exact⟨.inr ⟨by rw[qy];exact⟨d,by simp[qk],.inr ⟨.arr k,by simp[hq,qM],by simp[qk]⟩⟩,by rw[hk];simp⟩,by simp,fun u hu=>by simp[qM]at hu⟩
       ·exact⟨.inl ⟨.inl rfl,hf.2⟩,by simp,fun u hu=>by simp[qM]at hu⟩
       ·refine⟨.inr ⟨a0,a1⟩,by simp,fun u hu k hk=>?_⟩;simp[qM]at hu;subst hu;simp[qk]at hk;subst hk;exact .inr ⟨hf.2,_,List.mem_cons_of_mem _ (AE ..)⟩
      ·trivial
     ·trivial
    ·trivial
   ·trivial
  ·trivial
 ·trivial
theorem HM {wd:Bool} {dst:Option Nat} {vs:List V} {ob:List Obj}:N0 wd dst (zp ob (vs.flatMap qk)) ob (HK dst vs ob):=by
 unfold HK;split
 ·rename_i d;split
  ·rename_i T q hq;split
   ·exact⟨fun p hp=>by simp at hp,fun k hk=>by simp[qk]at hk⟩
   ·rename_i k;split
    ·rename_i sz es hk;split
     ·refine⟨fun p hp=>?_,fun k hk=>by simp[qk]at hk⟩;simp only[A3]at hp;subst hp;exact⟨.inr ⟨by rw[qy];exact⟨d,by simp[qk],.inr ⟨.arr k,by simp[hq,qM],by simp[qk]⟩⟩,by rw[hk];simp⟩,by simp,fun u hu=>by simp[qM]at hu⟩
     ·trivial
    ·trivial
   ·trivial
  ·trivial
 ·trivial
end Eng
end

section
namespace Eng
open Go Go.RowKit
def YH (T E:Nat) (w:World) (b:Nat) (own:Option (Nat×Nat)) (bs:List Value) (w':World):Prop:=
 ∃v' own',w'.heap[b]? =some (.cells #[.pointer (some ⟨b,0,none⟩),v'] T (0,0))∧Buf E w' b own' v' bs∧Keeps w w' (fun k=>k=b∨zN own k)∧(∀g,zN own' g→zN own g∨w.heap.size≤g)
structure BldK (P:Program) (T E fW fB fS:Nat):Prop where
 elem:kZ P T=E
 one:P.cellsOf E=1
 there:∀f,f=fW∨f=fB∨f=fS→∃fn,P.funcs[f]? =some fn∧fn.body≠none∧fn.name≠ "runtime.NumGoroutine"
 ws:∀{w:World} {b:Nat} {p v:Value} {own:Option (Nat×Nat)} {bs:List Value} (s:ByteArray),w.heap[b]? =some (.cells #[p,v] T (0,0))→(p= .pointer none∨p= .pointer (some ⟨b,0,none⟩))→Buf E w b own v bs→bs.length+s.size≤1073741824→
  Calls P fW #[.pointer (some ⟨b,0,none⟩),.string s] w fun e w'=>e= .returned (.tuple #[.int .i64 s.size,.nilIface])∧YH T E w b own (bs++byteCells s) w'
 wb:∀{w:World} {b:Nat} {p v:Value} {own:Option (Nat×Nat)} {bs:List Value} (c:Int),w.heap[b]? =some (.cells #[p,v] T (0,0))→(p= .pointer none∨p= .pointer (some ⟨b,0,none⟩))→Buf E w b own v bs→bs.length+1≤1073741824→
  Calls P fB #[.pointer (some ⟨b,0,none⟩),.int .u8 c] w fun e w'=>e= .returned .nilIface∧YH T E w b own (bs++[.int .u8 c]) w'
 st:∀{w:World} {b g c:Nat} {p v:Value} (l:List UInt8),l≠[]→w.heap[b]? =some (.cells #[p,v] T (0,0))→Buf E w b (some (g,c)) v (l.map fun x=> .int .u8 x.toNat)→l.length≤1073741824→
  Calls P fS #[.pointer (some ⟨b,0,none⟩)] w fun e w'=>e= .returned (.string ⟨l.toArray⟩)∧Keeps w w' (fun k=>k=g)
 sn:∀{w:World} {b:Nat} {p:Value},w.heap[b]? =some (.cells #[p,.slice none 0 0] T (0,0))→
  Calls P fS #[.pointer (some ⟨b,0,none⟩)] w fun e w'=>e= .returned (.string ⟨#[]⟩)∧Keeps w w' (fun _=>False)
section
variable {C:Cx} {B:Bd} {F0:Nat→Prop} {w0:World} {F:Nat→Prop} {loc:Where} {st:St} {a:Act} {w:World}
def jq:V→Nat→Bool
 | .arr k,j=>AJ j k
 |_,_=>false
theorem YI {T E t d b c0:Nat} {q v:V} {x:Value} {own:Option (Nat×Nat)} {bs':List Value} {rows':List (List D)} {up:List (Nat×Obj)} {w':World} {dst:Option Nat} (h:Conc C B F0 w0 F loc st a w)
 (hd:nth .none st.objs d= .bld T q) (hq:(q= .nilS∧own=none)∨∃k es,q= .arr k∧nth .none st.objs k= .arr 1 es false∧own=loc k)
 (hf:qq st.objs t=true) (hl:loc d=some (b,c0)) (hw:YH T E w b own bs' w') (helem:kZ C.P T=E) (hone:C.P.cellsOf E=1)
 (hrows:∀e∈rows',e.length=1) (hall:All2 (CD w F) rows'.flatten bs') (hroom:room rows'.length)
 (hn:∀j,nth .none (upds st.objs up) j=if j=d then .bld T (.arr t)else if j=t then .arr 1 rows' false else if jq q j=true then .dead else nth .none st.objs j)
 (hv:∀(loc:Where) (objs:List Obj) (w:World) (F:Nat→Prop),CV loc objs w F v x∧Ref objs v):
 Aj C B F0 w0 (st.put dst v up) (a.put dst x) w':=by
 obtain⟨v',a5,hb',a0,hk,af⟩:=hw;obtain⟨ac,htlt⟩:=qE hf;have ad:d≠t:=fun e=>by subst e;rw[hd]at ac;simp at ac
 have ai:=h.objs d;rw[hd]at ai;obtain⟨b1,c1,p,v1,ae,ao,hblk,hp,hqv,hqr,hqt⟩:=ai;rw[hl]at ae;simp only[AV,AW]at ae;obtain⟨rfl,rfl⟩:=ae;have hbf:=h.fresh _ _ _ hl
 --the buffer's block is the call's own
 have a4:∀g,zN own g→Own B g∧g<w.heap.size∧¬F g∧g≠b∧∀j c,loc j=some (g,c)→jq q j=true:=by
  intro g hg;obtain⟨c,hg⟩:=hg;rcases hq with⟨rfl,rfl⟩|⟨k,es,rfl,ab,a8⟩
  ·simp at hg
  ·rw[hg]at a8;have aj:=h.fresh _ _ _ a8.symm;have a9:=h.objs k;rw[ab]at a9;obtain⟨_,_,_,a9⟩:=a9;rcases a9 with⟨a9,_⟩|⟨b2,c2,cs,tt,h4,h5,_⟩
   ·rw[a9]at a8;simp at a8
   ·rw[h4]at a8;simp only[AV,AW]at a8;obtain⟨rfl,rfl⟩:=a8;refine⟨aj.1,aj.2,h5,fun e=>?_,fun j c hj=>?_⟩
    ·subst e;have:=h.inj _ _ _ _ _ h4 hl;subst this;rw[ab]at hd;simp at hd
    ·have:=h.inj _ _ _ _ _ hj h4;subst this;simp[jq]
 have a2:∀j,jq q j=true→∃es,nth .none st.objs j= .arr 1 es false:=by
  intro j hj;rcases hq with⟨rfl,_⟩|⟨k,es,rfl,ab,_⟩
  ·simp[jq]at hj
  ·have:=AH hj;subst this;exact⟨es,ab⟩
 have a3:∀β,β<w.heap.size→β≠b→¬zN own β→w'.heap[β]? =w.heap[β]? :=fun β h1 h2 h3=>hk.block β h1 fun h=>by rcases h with h|h;exact h2 h;exact h3 h
 have ag:∀β,F β→w'.heap[β]? =w.heap[β]? :=fun β hβ=>a3 β (h.bound β hβ) (fun e=>ao (e▸hβ)) fun hg=>(a4 β hg).2.2.1 hβ
 have a6:All2 (CD w' F) rows'.flatten bs':=hall.mono fun _ _ h=>h.mono (fun _ h=>h) ag
 let loc':Where:=⟨loc.P,fun j=>if j=t then a5 else if jq q j=true then none else loc j,fun j=>if j=t then E else loc.ty j⟩
 have ap:∀{j:Nat},nth .none st.objs j≠ .none→j≠t:=fun{j} hj e=>by subst e;exact hj ac
 have am:Le st.objs (upds st.objs up) loc loc':=by
  refine⟨rfl,fun j hj=>by simp[loc',ap hj],fun j hj=>?_,fun j o' hj hc hbx=>?_,fun j s' es' fz' hj hc=>?_⟩
  ·rw[hn];split
   ·simp
   ·split
    ·simp
    ·split
     ·simp
     ·exact hj
  ·rw[hn]at hc;split at hc
   ·rename_i e;subst e;have:jq q j≠true:=fun ho=>by obtain⟨es,he⟩:=a2 j ho;rw[hd]at he;simp at he
    exact⟨by rw[hd];rfl,by simp[loc',ad,this]⟩
   ·split at hc
    ·rw[←hc]at hbx;simp[xE]at hbx
    ·split at hc
     ·rw[←hc]at hbx;simp[xE]at hbx
     ·rename_i e1 e2 e3;exact⟨by rw[hc];exact hbx,by simp[loc',e2,e3]⟩
  ·rw[hn]at hc;split at hc
   ·simp at hc
   ·split at hc
    ·rename_i e;exact absurd e (ap hj)
    ·split at hc
     ·simp at hc
     ·rename_i e1 e2 e3;exact⟨⟨_,_,hc,rfl⟩,by simp[loc',e2,e3]⟩
 have a7:bs'.length=rows'.length:=by have:=a6.length;rw[qm hrows]at this;omega
 have aa:nth .none (upds st.objs up) t= .arr 1 rows' false:=by rw[hn,if_neg (AU ad),if_pos rfl]
 have hto:jq q t≠true:=fun ho=>by obtain⟨es,he⟩:=a2 t ho;rw[ac]at he;simp at he
 have hdo:jq q d≠true:=fun ho=>by obtain⟨es,he⟩:=a2 d ho;rw[hd]at he;simp at he
 have a1:∀g,zN a5 g→Own B g∧g<w'.heap.size∧¬F g∧g≠b∧∀j c,loc j=some (g,c)→jq q j=true:=by
  intro g hg;have an:g<w'.heap.size:=by obtain⟨c,rfl⟩:=hg;exact a0.2.2.1
  have ak:g≠b:=by obtain⟨c,rfl⟩:=hg;exact a0.2.1
  rcases af g hg with h1|h1
  ·have:=a4 g h1;exact⟨this.1,an,this.2.2.1,ak,this.2.2.2.2⟩
  ·have hB:=h.hB;exact⟨.inl (by omega),an,fun hF=>by have:=h.bound g hF;omega,ak,fun j c hj=>by have:=h.fresh _ _ _ hj;omega⟩
 have hbw:BelowX B w w':=⟨hk.below.os,hk.below.tape,hk.below.output,hk.below.size,fun k hkB hkX=>a3 k (by have:=h.hB;omega) (fun e=>by
  rcases hbf.1 with h1|h1
  ·omega
  ·exact hkX (e▸h1)) fun hg=>by
  rcases(a4 k hg).1 with h1|h1
  ·omega
  ·exact hkX h1⟩
 have hsz:=hk.below.size;refine⟨F,loc',h.step (fun _ h=>h) ag am (h.below.trans hbw) (by have:=h.hB;omega) (fun j=>?_) ?_ ?_ (fun β hβ=>by have:=h.bound β hβ;omega) h.fsub (hv _ _ _ _).1 (hv loc' _ w' F).2⟩
 ·rw[hn];by_cases h1:j=d
  ·subst h1;rw[if_pos rfl];refine⟨b,c0,_,v',by simp[loc',ad,hdo,hl],ao,hb',.inr rfl,?_,?_,fun i hi=>?_⟩
   ·intro s' es' fz' hc;rw[aa]at hc;simp only[Obj.arr.injEq]at hc;obtain⟨rfl,rfl,rfl⟩:=hc;cases a5 with
    |none=>obtain⟨q1,q2⟩:=a0;subst q2;exact .inr ⟨by simp[loc'],by apply Ay;rw[←a7];rfl,q1⟩
    |some gc=>obtain⟨g,c⟩:=gc;exact .inl ⟨g,c,by simp[loc'],by rw[←a7];exact a0.1⟩
   ·show nth .none (upds st.objs up) t≠ .none;rw[aa];simp
   ·simp only[V.arr.injEq]at hi;subst hi;show(if t=t then E else loc.ty t)=kZ loc.P T;rw[if_pos rfl,h.prog,helem]
  ·rw[if_neg h1];by_cases h2:j=t
   ·subst h2;rw[if_pos rfl];refine⟨hroom,by omega,hrows,?_⟩;cases a5 with
    |none=>obtain⟨q1,q2⟩:=a0;subst q2;exact .inl ⟨by simp[loc'],by apply Ay;rw[←a7];rfl⟩
    |some gc=>
     obtain⟨g,c⟩:=gc;obtain⟨q1,q2,q3,q4,cs,tt,q5,q6,q7,rfl⟩:=a0;refine .inr ⟨g,c,cs,tt,by simp[loc'],(a1 g ⟨c,rfl⟩).2.2.1,q5,by omega,by omega,fun i hi=>?_,by show loc.P.cellsOf tt=1;rw[h.prog];exact hone,by simp[loc']⟩;have al:i<bs'.length:=by omega
     have ah:=a6.nth .undef undef _ _ i (by rw[qm hrows];omega);refine⟨bs'[i],q7 i _ (AB al),?_⟩;rw[qn undef al]at ah;exact ah
   ·rw[if_neg h2];by_cases h3:jq q j=true
    ·rw[if_pos h3];show loc' j=none;simp[loc',h2,h3]
    ·rw[if_neg h3];refine CO.le (fun _ h=>h) ag am (by simp[loc',h2,h3]) (by simp[loc',h2]) (fun β c hβ=>⟨?_,fun h=>h⟩) (h.objs j);refine a3 β (h.fresh _ _ _ hβ).2 (fun e=>?_) fun hg=>h3 ((a4 β hg).2.2.2.2 j c hβ)
     subst e;exact h1 (h.inj _ _ _ _ _ hβ hl)
 ·intro j j' β c c' g1 g2;simp only[loc']at g1 g2;split at g1<;>split at g2
  ·rw[‹j=t›,‹j'=t›]
  ·split at g2
   ·simp at g2
   ·exact absurd ((a1 β ⟨c,g1⟩).2.2.2.2 _ _ g2) ‹_›
  ·split at g1
   ·simp at g1
   ·exact absurd ((a1 β ⟨c',g2⟩).2.2.2.2 _ _ g1) ‹_›
  ·split at g1
   ·simp at g1
   ·split at g2
    ·simp at g2
    ·exact h.inj _ _ _ _ _ g1 g2
 ·intro j β c g1;simp only[loc']at g1;split at g1
  ·have:=a1 β ⟨c,g1⟩;exact⟨this.1,this.2.1⟩
  ·split at g1
   ·simp at g1
   ·have:=h.fresh _ _ _ g1;exact⟨this.1,by omega⟩
end
end Eng
end
