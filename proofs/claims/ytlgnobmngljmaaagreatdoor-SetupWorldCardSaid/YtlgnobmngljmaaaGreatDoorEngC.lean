/- The engine, part 16: operations that may change places. -/
import Derived.Test.YtlgnobmngljmaaaGreatDoorEngB
section
namespace Eng
open Go Go.RowKit
variable [Env]
omit [Env] in
theorem opkL_eq {ρ:Operand→V}:∀(l:List Operand),opkL ρ l=l.flatMap fun x=>keysV (ρ x)
 |[]=>rfl
 |x::r=>by simp only[opkL,List.flatMap_cons];rw[opkL_eq r]
omit [Env] in
theorem mem_deepK {ob:List Obj} {k:Nat}:∀{l:List Nat},k∈deepK ob l↔∃j∈l,k=j∨∃T q,nth .none ob j= .bld T q∧k∈keysV q
 |[]=>by simp[deepK]
 |j::r=>by
  simp only[deepK,List.mem_append];rw[mem_deepK];constructor
  ·rintro(h|⟨i,h1,h2⟩)
   ·split at h
    ·rename_i T q hq;rcases List.mem_cons.1 h with rfl|h
     ·exact⟨k,by simp,.inl rfl⟩
     ·exact⟨j,by simp,.inr ⟨T,q,hq,h⟩⟩
    ·simp only[List.mem_singleton]at h;exact⟨j,by simp,.inl h⟩
   ·exact⟨i,by simp[h1],h2⟩
  ·rintro⟨i,h1,h2⟩;rcases List.mem_cons.1 h1 with rfl|h1
   ·refine .inl ?_;rcases h2 with rfl|⟨T,q,hq,h2⟩
    ·split<;>simp
    ·rw[hq];simp[h2]
   ·exact .inr ⟨i,h1,h2⟩
omit [Env] in
theorem mem_keysVs {k:Nat}:∀{l:List V},k∈keysVs l↔∃q∈l,k∈keysV q
 |[]=>by simp[keysVs]
 |v::r=>by
  simp only[keysVs,List.mem_append];rw[mem_keysVs];constructor
  ·rintro(h|⟨q,h1,h2⟩)
   ·exact⟨v,by simp,h⟩
   ·exact⟨q,by simp[h1],h2⟩
  ·rintro⟨q,h1,h2⟩;rcases List.mem_cons.1 h1 with rfl|h1
   ·exact .inl h2
   ·exact .inr ⟨q,h1,h2⟩
omit [Env] in
theorem mem_deepB {ob:List Obj} {k:Nat}:∀{l:List Nat},k∈deepB ob l↔∃j∈l,k=j∨∃q,q∈objVs (nth .none ob j)∧k∈keysV q
 |[]=>by simp[deepB]
 |j::r=>by
  simp only[deepB,List.mem_append];rw[mem_deepB];constructor
  ·rintro(h|⟨i,h1,h2⟩)
   ·split at h
    ·rename_i T q hq;rcases List.mem_cons.1 h with rfl|h
     ·exact⟨k,by simp,.inl rfl⟩
     ·exact⟨j,by simp,.inr ⟨q,by rw[hq];simp[objVs],h⟩⟩
    ·rename_i cs hq;rcases List.mem_cons.1 h with rfl|h
     ·exact⟨k,by simp,.inl rfl⟩
     ·obtain⟨q,h1,h2⟩:=mem_keysVs.1 h;exact⟨j,by simp,.inr ⟨q,by rw[hq];simpa [objVs]using h1,h2⟩⟩
    ·rename_i cs hq;rcases List.mem_cons.1 h with rfl|h
     ·exact⟨k,by simp,.inl rfl⟩
     ·obtain⟨q,h1,h2⟩:=mem_keysVs.1 h;exact⟨j,by simp,.inr ⟨q,by rw[hq];simpa [objVs]using h1,h2⟩⟩
    ·simp only[List.mem_singleton]at h;exact⟨j,by simp,.inl h⟩
   ·exact⟨i,by simp[h1],h2⟩
  ·rintro⟨i,h1,h2⟩;rcases List.mem_cons.1 h1 with rfl|h1
   ·refine .inl ?_;rcases h2 with rfl|⟨q,hq,h2⟩
    ·split<;>simp
    ·cases hi:nth .none ob i with
     |bld T q'=>rw[hi]at hq;simp only[objVs,List.mem_singleton]at hq;subst hq;simp[h2]
     |box cs=>rw[hi]at hq;simp only[objVs]at hq;exact List.mem_cons_of_mem _ (mem_keysVs.2 ⟨q,hq,h2⟩)
     |vec cs=>rw[hi]at hq;simp only[objVs]at hq;exact List.mem_cons_of_mem _ (mem_keysVs.2 ⟨q,hq,h2⟩)
     |none=>rw[hi]at hq;simp[objVs]at hq
     |dead=>rw[hi]at hq;simp[objVs]at hq
     |arr _ _ _=>rw[hi]at hq;simp[objVs]at hq
   ·exact .inr ⟨i,h1,h2⟩
omit [Env] in
theorem dst_newL {C:Cx} {o:Oper} {d:Nat} (h:o.dst=some d):d∈newL C o:=by
 unfold newL;rw[h]
 dsimp only
 split
 ·split
  ·split<;>simp
  ·simp
 ·simp
omit [Env] in
theorem newL_call {C:Cx} {dst:Option Nat} {f:Nat} {args:Array Operand} {ts:Array TypeId} {ty:TypeId} {pos:String} {after:Array Edge} {g:Option (Nat×Bool)} {k:Nat}:k∈newL C ⟨dst,.call ⟨.value (.func f),args,ts⟩,ty,pos,after,g⟩↔newK (C.wd f) dst k:=by
 unfold newL newK;cases dst with
 |none=>simp
 |some t=>
  dsimp only
  cases C.wd f with
  |true=>simp[eq_comm]
  |false=>simp[eq_comm]
omit [Env] in
theorem mem_opk {o:Oper} {ρ:Operand→V} {ob:List Obj} {x:Operand} {k:Nat} (hx:x∈o.op.operands.toList) (hk:k∈keysV (ρ x)):k∈opk o ρ ob:=by
 unfold opk;split
 ·rw[mem_deepB,opkL_eq];exact⟨k,List.mem_flatMap.2 ⟨x,hx,hk⟩,.inl rfl⟩
 ·rw[mem_deepK,opkL_eq];exact⟨k,List.mem_flatMap.2 ⟨x,hx,hk⟩,.inl rfl⟩
def Ag (c:Nat) (x y:Obj):Prop:=x=y∨(c≤1∧∃s es fz fz',x= .arr s es fz∧y= .arr s es fz')
omit [Env] in
theorem Ag.symm {c:Nat} {x y:Obj} (h:Ag c x y):Ag c y x:=by
 rcases h with h|⟨h,s,es,fz,fz',h1,h2⟩
 ·exact .inl h.symm
 ·exact .inr ⟨h,s,es,fz',fz,h2,h1⟩
section
variable {C:Cx} {ob ob':List Obj}
omit [Env] in
theorem dataC_ag {c:Nat}:∀{cs:List VC},(∀k∈keysC cs,Ag c (nth .none ob k) (nth .none ob' k))→dataC ob cs=dataC ob' cs
 |[],_=>rfl
 | .d d::r,h=>by simp only[dataC,data1];rw[dataC_ag (cs:=r) fun k hk=>h k (by simpa [keysC]using hk)]
 | .nil::r,h=>by simp only[dataC,data1];rw[dataC_ag (cs:=r) fun k hk=>h k (by simpa [keysC]using hk)]
 | .arr j::r,h=>by
  simp only[dataC,data1];rw[dataC_ag (cs:=r) fun k hk=>h k (by simp[keysC,hk])];rcases h j (by simp[keysC])with h|⟨_,s,es,fz,fz',h1,h2⟩
  ·simp only[h]
  ·simp only[h1,h2]
omit [Env] in
theorem cellsOf_ag {c:Nat} {v:V} (h:∀k∈keysV v,Ag c (nth .none ob k) (nth .none ob' k)):cellsOf ob v=cellsOf ob' v:=by
 cases v<;>try rfl
 ·rename_i k;rcases h k (by simp[keysV])with h|⟨_,s,es,fz,fz',h1,h2⟩
  ·simp only[cellsOf,h]
  ·simp only[cellsOf,h1,h2]
 ·rename_i cs;simp only[cellsOf];rw[dataC_ag (cs:=cs) fun k hk=>h k hk]
omit [Env] in
theorem toA_ag {c:Nat} {v:V} (h:∀k∈keysV v,Ag c (nth .none ob k) (nth .none ob' k)):toA ob v=toA ob' v:=by
 cases v<;>try rfl
 ·rename_i k;rcases h k (by simp[keysV])with h|⟨_,s,es,fz,fz',h1,h2⟩
  ·simp only[toA,h]
  ·simp only[toA,h1,h2]
 ·rename_i cs;simp only[toA];rw[dataC_ag (cs:=cs) fun k hk=>h k hk]
omit [Env] in
theorem elems_ag {c:Nat} {v:V} (h:∀k∈keysV v,Ag c (nth .none ob k) (nth .none ob' k)):elems ob v=elems ob' v:=by
 cases v with
 |c d=>cases d<;>rfl
 |arr k=>?_
 |_=>rfl
 rcases h k (by simp[keysV])with h|⟨_,s,es,fz,fz',h1,h2⟩
 ·simp only[elems,h]
 ·simp only[elems,h1,h2]
omit [Env] in
theorem elemsS_ag {c:Nat} {v:V} (h:∀k∈keysV v,Ag c (nth .none ob k) (nth .none ob' k)):elemsS ob v=elemsS ob' v:=by
 have he:=elems_ag h;cases v with
 |sub k o l=>?_
 |_=>simp only[elemsS,he]
 rcases h k (by simp[keysV])with h|⟨_,s,es,fz,fz',h1,h2⟩
 ·simp only[elemsS,h]
 ·simp only[elemsS,h1,h2]
omit [Env] in
theorem toAs_ag {c:Nat}:∀{vs:List V},(∀v∈vs,∀k∈keysV v,Ag c (nth .none ob k) (nth .none ob' k))→toAs ob vs=toAs ob' vs
 |[],_=>rfl
 |v::vs,h=>by simp only[toAs];rw[toA_ag (h v (by simp)),toAs_ag fun u hu=>h u (by simp[hu])]
omit [Env] in
theorem partsD_ag {c:Nat} {ρ:Operand→V}:∀{ps:List (Nat×Operand)},(∀p∈ps,∀k∈keysV (ρ p.2),Ag c (nth .none ob k) (nth .none ob' k))→partsD ob ρ ps=partsD ob' ρ ps
 |[],_=>rfl
 |(i,x)::ps,h=>by simp only[partsD];rw[cellsOf_ag (h (i,x) (by simp)),partsD_ag fun u hu=>h u (by simp[hu])]
omit [Env] in
theorem clearV_ns {ob:List Obj} {ts:Array TypeId} {v:V} (h:∀k o l,v≠ .sub k o l):clearV C ob ts v= .fail:=by
 unfold clearV;split
 ·split
  ·split
   ·exact absurd rfl (h _ _ _)
   ·rfl
  ·rfl
 ·rfl
omit [Env] in
theorem capD_ag:∀{vs:List V},(∀v∈vs,∀k∈keysV v,Ag 2 (nth .none ob k) (nth .none ob' k))→capD ob vs=capD ob' vs
 |[],_=>rfl
 |v::vs,h=>by
  have ih:=capD_ag (vs:=vs) fun u hu=>h u (by simp[hu])
  cases v with
  |box k off=>
   cases off with
   |zero=>
    rcases h _ (List.mem_cons_self ..) k (by simp[keysV])with h1|⟨h1,_⟩
    ·simp only[capD,h1,ih]
    ·omega
   |succ n=>rfl
  |eref es i off=>
   unfold capD;split
   ·rename_i h0;cases h0
   ·rw[ih]
   ·rfl
  |_=>rfl
theorem opFn_ag [EffOk C] {o:Oper} {ρ:Operand→V} (hk:cls C o=0∨∀k∈opk o ρ ob,Ag (cls C o) (nth .none ob k) (nth .none ob' k)) (hd1:∀d,d∈newL C o→freeKey ob d=freeKey ob' d):opFn C o ρ ob=opFn C o ρ ob':=by
 have hd:∀d,o.dst=some d→freeKey ob d=freeKey ob' d:=fun d h=>hd1 d (dst_newL h)
 obtain⟨dst,op,ty,pos,after,g⟩:=o;have hof:∀{c:Nat} (x:Operand),x∈op.operands.toList→(c=0∨∀k∈opk ⟨dst,op,ty,pos,after,g⟩ ρ ob,Ag c (nth .none ob k) (nth .none ob' k))→c≠0→∀k∈keysV (ρ x),Ag c (nth .none ob k) (nth .none ob' k):=by
  intro c x hx h hc k hkx;rcases h with h|h
  ·exact absurd h hc
  ·exact h k (mem_opk hx hkx)
 cases op with
 |move x=>rfl
 |assign x=>rfl
 |pick c x y=>rfl
 |binOp op t x y t2=>rfl
 |unOp op t x=>rfl
 |convert s t x=>rfl
 |field t x f=>rfl
 |index t x i=>rfl
 |extract x i=>rfl
 |alloc t=>
  cases dst with
  |none=>rfl
  |some d=>simp only[opFn];rw[hd d rfl]
 |box t x=>
  cases dst with
  |none=>rfl
  |some d=>simp only[opFn];rw[hd d rfl]
 |makeSlice t x y=>
  cases dst with
  |none=>rfl
  |some d=>simp only[opFn];rw[hd d rfl]
 |build t parts=>
  have h1:partsD ob ρ parts.toList=partsD ob' ρ parts.toList:=partsD_ag fun p hp=>hof (c:=1) p.2 (by simp only[Op.operands];exact List.mem_map.2 ⟨p,hp,rfl⟩) hk (by simp)
  simp only[opFn,h1]
 |buildSlice t len parts=>
  have h1:partsD ob ρ parts.toList=partsD ob' ρ parts.toList:=partsD_ag fun p hp=>hof (c:=1) p.2 (by simp only[Op.operands];exact List.mem_map.2 ⟨p,hp,rfl⟩) hk (by simp)
  cases dst with
  |none=>rfl
  |some d=>
   have h2:∀e,buildW C.P d ob e len (partV ρ parts.toList)=buildW C.P d ob' e len (partV ρ parts.toList):=fun e=>by
    cases hv:partV ρ parts.toList<;>try rfl
    rename_i j;obtain⟨x,hp,hx⟩:=partV_ok hv (by simp);have h2:=hof (c:=1) x (by simp only[Op.operands];exact List.mem_map.2 ⟨(0,x),by rw[hp];simp,rfl⟩) hk (by simp);rw[hx]at h2;rcases h2 j (by simp[keysV])with h|⟨_,s,es,fz,fz',h3,h4⟩
    ·simp only[buildW,h]
    ·simp only[buildW,h3,h4]
   simp only[opFn,h1,h2];rw[hd d rfl]
 |load t x=>
  have h1:=hof (c:=1) x (by simp[Op.operands]) hk (by simp);simp only[opFn,loadV];cases hx:ρ x<;>try rfl
  ·rename_i k off;rw[hx]at h1;rcases h1 k (by simp[keysV])with h|⟨_,s,es,fz,fz',h1,h2⟩
   ·simp only[h]
   ·simp only[h1,h2]
  ·rename_i k i off;rw[hx]at h1;rcases h1 k (by simp[keysV])with h|⟨_,s,es,fz,fz',h1,h2⟩
   ·simp only[h]
   ·simp only[h1,h2]
 |nilCheck x=>
  have h1:=hof (c:=1) x (by simp[Op.operands]) hk (by simp);simp only[opFn];cases hx:ρ x<;>try rfl
  rename_i k off;rw[hx]at h1;rcases h1 k (by simp[keysV])with h|⟨_,s,es,fz,fz',h1,h2⟩
  ·simp only[h]
  ·simp only[h1,h2]
 |fieldAddr t x f=>
  have h1:=hof (c:=1) x (by simp[Op.operands]) hk (by simp);simp only[opFn];cases hx:ρ x<;>try rfl
  ·rename_i k off;rw[hx]at h1;rcases h1 k (by simp[keysV])with h|⟨_,s,es,fz,fz',h1,h2⟩
   ·simp only[h]
   ·simp only[h1,h2]
  ·rename_i k i off;rw[hx]at h1;rcases h1 k (by simp[keysV])with h|⟨_,s,es,fz,fz',h1,h2⟩
   ·simp only[h]
   ·simp only[h1,h2]
 |indexAddr t x i=>
  have h1:=hof (c:=1) x (by simp[Op.operands]) hk (by simp);simp only[opFn,indexAddrV];cases hx:ρ x with
  |c d=>cases d<;>rfl
  |box k off=>?_
  |arr k=>?_
  |sub k o l=>?_
  |vec k l=>?_
  |gl g off=>cases off<;>rfl
  |_=>rfl
  ·rw[hx]at h1;rcases h1 k (by simp[keysV])with h|⟨_,s,es,fz,fz',h1,h2⟩
   ·simp only[h]
   ·simp only[h1,h2]
  ·rw[hx]at h1;rcases h1 k (by simp[keysV])with h|⟨_,s,es,fz,fz',h1,h2⟩
   ·simp only[h]
   ·simp only[h1,h2]
  ·rw[hx]at h1;rcases h1 k (by simp[keysV])with h|⟨_,s,es,fz,fz',h1,h2⟩
   ·simp only[h]
   ·simp only[h1,h2]
  ·rw[hx]at h1;rcases h1 k (by simp[keysV])with h|⟨_,s,es,fz,fz',h1,h2⟩
   ·simp only[h]
   ·simp only[h1,h2]
 |slice t x lo hi mx=>
  have h1:elems ob (ρ x)=elems ob' (ρ x):=elems_ag (hof (c:=1) x (by simp[Op.operands]) hk (by simp));have h2:=hof (c:=1) x (by simp[Op.operands]) hk (by simp);have h3:∀lo hi mx,keepV C.P t ob (ρ x) lo hi mx=keepV C.P t ob' (ρ x) lo hi mx:=by
   intro lo hi mx;unfold keepV;cases C.P.underlying t with
   |none=>rfl
   |some d=>cases d with
    |slice e=>
     dsimp only
     cases zeros C.P e with
     |none=>rfl
     |some z=>cases hx:ρ x with
      |arr k=>
       rw[hx]at h2
       dsimp only
       rcases h2 k (by simp[keysV])with h|⟨_,s,es,fz,fz',h1,h2⟩
       ·simp only[h]
       ·simp only[h1,h2]
      |_=>rfl
    |_=>rfl
  simp only[opFn,sliceW,sliceV,h1,h3]
 |store t p x=>
  have h1:=hof (c:=2) p (by simp[Op.operands]) hk (by simp);have h2:=hof (c:=2) x (by simp[Op.operands]) hk (by simp);have e1:∀k,k∈keysV (ρ p)→nth .none ob k=nth .none ob' k:=fun k hkk=>by
   rcases h1 k hkk with h|⟨h,_⟩
   ·exact h
   ·omega
  have e2:∀k,k∈keysV (ρ x)→nth .none ob k=nth .none ob' k:=fun k hkk=>by
   rcases h2 k hkk with h|⟨h,_⟩
   ·exact h
   ·omega
  simp only[opFn,storeV];cases hp:ρ p<;>try rfl
  ·rename_i k off;rw[hp]at e1
   dsimp only
   rw[e1 k (by simp[keysV])];cases hx:ρ x<;>try rfl
   rename_i j;rw[hx]at e2
   dsimp only
   rw[e2 j (by simp[keysV])]
  ·rename_i k i off;rw[hp]at e1
   dsimp only
   rw[e1 k (by simp[keysV])]
 |makeFunc fn first captured=>
  simp only[opFn];split
  ·have h1:capD ob (captured.toList.map ρ)=capD ob' (captured.toList.map ρ):=capD_ag fun v hv=>by obtain⟨x,hx,rfl⟩:=List.mem_map.1 hv;exact hof (c:=2) x (by simp[Op.operands];exact .inr (by simpa using hx)) hk (by simp)
   rw[h1]
  ·rfl
 |call c=>
  obtain⟨callee,args,ts⟩:=c;simp only[opFn];split
  ·rename_i f;cases he:C.eff f with
   |none=>
    have hcl:cls C ⟨dst,.call ⟨.value (.func f),args,ts⟩,ty,pos,after,g⟩=1:=by simp[cls,he]
    rw[hcl]at hk;have h1:toAs ob (args.toList.map ρ)=toAs ob' (args.toList.map ρ):=toAs_ag fun v hv=>by obtain⟨x,hx,rfl⟩:=List.mem_map.1 hv;exact hof (c:=1) x (by simp[Op.operands,Call.operands];exact .inr (by simpa using hx)) hk (by simp)
    simp only[callV,h1]
   |some e=>
    have hcl:cls C ⟨dst,.call ⟨.value (.func f),args,ts⟩,ty,pos,after,g⟩=2:=by simp[cls,he]
    rw[hcl]at hk;refine EffOk.ag he _ _ _ _ (fun k hkk=>?_) (fun d hd'=>hd1 d (newL_call.2 hd'));rcases hk with h|h
    ·simp at h
    ·have hin:k∈opk ⟨dst,.call ⟨.value (.func f),args,ts⟩,ty,pos,after,g⟩ ρ ob:=by show k∈deepB ob _;rw[mem_deepB]at hkk ⊢;obtain⟨j,h1,h2⟩:=hkk;refine⟨j,?_,h2⟩;rw[opkL_eq];obtain⟨v,hv,hj⟩:=List.mem_flatMap.1 h1;obtain⟨x,hx,rfl⟩:=List.mem_map.1 hv;exact List.mem_flatMap.2 ⟨x,by simp only[Op.operands,Call.operands,Array.toList_append];exact List.mem_append_right _ hx,hj⟩
     rcases h k hin with h|⟨h,_⟩
     ·exact h
     ·omega
  ·rename_i t;have h1:toAs ob (args.toList.map ρ)=toAs ob' (args.toList.map ρ):=toAs_ag fun v hv=>by obtain⟨x,hx,rfl⟩:=List.mem_map.1 hv;exact hof (c:=1) x (by simp[Op.operands,Call.operands];exact .inr (by simpa using hx)) hk (by simp)
   split
   ·split
    ·rfl
    ·simp only[callV,h1]
   ·rename_i f ps _;have h2:toAs ob (args.toList.map ρ++ps.map V.c)=toAs ob' (args.toList.map ρ++ps.map V.c):=toAs_ag (c:=1) fun v hv=>by
     rcases List.mem_append.1 hv with hv|hv
     ·obtain⟨x,hx,rfl⟩:=List.mem_map.1 hv;exact hof (c:=1) x (by simp[Op.operands,Call.operands];exact .inr (by simpa using hx)) hk (by simp)
     ·obtain⟨d,_,rfl⟩:=List.mem_map.1 hv;intro k hk;simp[keysV]at hk
    split
    ·rfl
    ·simp only[callV,h2]
   ·rfl
  ·split
   ·rename_i x hx;have:args= #[x]:=by apply Array.ext';simpa using hx
    subst this;have h1:=hof (c:=1) x (by simp[Op.operands,Call.operands]) hk (by simp);simp only[lenV];cases hx:ρ x with
    |c d=>cases d<;>rfl
    |arr k=>?_
    |sub k o l=>?_
    |vec k l=>?_
    |_=>rfl
    ·rw[hx]at h1;rcases h1 k (by simp[keysV])with h|⟨_,s,es,fz,fz',h1,h2⟩
     ·simp only[h]
     ·simp only[h1,h2]
    ·rw[hx]at h1;rcases h1 k (by simp[keysV])with h|⟨_,s,es,fz,fz',h1,h2⟩
     ·simp only[h]
     ·simp only[h1,h2]
    ·rw[hx]at h1;rcases h1 k (by simp[keysV])with h|⟨_,s,es,fz,fz',h1,h2⟩
     ·simp only[h]
     ·simp only[h1,h2]
   ·rfl
  ·split
   ·rename_i x y hx;have:args= #[x,y]:=by apply Array.ext';simpa using hx
    subst this;have h1:=hof (c:=2) x (by simp[Op.operands,Call.operands]) hk (by simp);have h2:elemsS ob (ρ y)=elemsS ob' (ρ y):=elemsS_ag (hof (c:=2) y (by simp[Op.operands,Call.operands]) hk (by simp));cases dst with
    |none=>rfl
    |some d=>
     have hl:∀v,(∀k∈keysV v,Ag 2 (nth .none ob k) (nth .none ob' k))→vecL ob v=vecL ob' v:=fun v h=>by
      cases v<;>try rfl
      rename_i k n;rcases h k (by simp[keysV])with h|⟨h,_⟩
      ·simp only[vecL,h]
      ·omega
     have hw:∀e,appendW C.P d ob e (ρ x) (ρ y)=appendW C.P d ob' e (ρ x) (ρ y):=fun e=>by unfold appendW;rw[hl _ h1,hl _ (hof (c:=2) y (by simp[Op.operands,Call.operands]) hk (by simp))]
     simp only[appendV,h2,hw];rw[hd d rfl];cases hx:ρ x<;>try rfl
     all_goals
      rw[hx]at h1;rcases h1 _ (by simp[keysV];rfl)with h|⟨h,_⟩
      ·dsimp only
       rw[h]
      ·omega
   ·rfl
  ·split
   ·rename_i x hx;have:args= #[x]:=by apply Array.ext';simpa using hx
    subst this;have h1:=hof (c:=2) x (by simp[Op.operands,Call.operands]) hk (by simp);by_cases hs:∃k o l,ρ x= .sub k o l
    ·obtain⟨k,o,l,hx⟩:=hs;rw[hx]at h1 ⊢;rcases h1 k (by simp[keysV])with h|⟨h,_⟩
     ·unfold clearV;split
      ·split
       ·split
        ·rename_i hv;simp only[V.sub.injEq]at hv;obtain⟨rfl,rfl,rfl⟩:=hv;rw[h]
        ·rfl
       ·rfl
      ·rfl
     ·omega
    ·have hns:∀k o l,ρ x≠ .sub k o l:=fun k o l e=>hs ⟨k,o,l,e⟩
     rw[clearV_ns hns,clearV_ns hns]
   ·rfl
  ·rfl
  ·rfl
  ·rfl
 |_=>rfl
end
end Eng
end

section
namespace Eng
open Go Go.RowKit
variable [Env]
section
variable {C:Cx} {ob:List Obj}
omit [Env] in
theorem partsD_congr {ρ ρ':Operand→V}:∀{ps:List (Nat×Operand)},(∀p∈ps,ρ p.2=ρ' p.2)→partsD ob ρ ps=partsD ob ρ' ps
 |[],_=>rfl
 |(i,x)::ps,h=>by simp only[partsD];rw[h (i,x) (by simp),partsD_congr fun u hu=>h u (by simp[hu])]
omit [Env] in
theorem opFn_congr {o:Oper} {ρ ρ':Operand→V} (h:∀x∈o.op.operands.toList,ρ x=ρ' x):opFn C o ρ ob=opFn C o ρ' ob:=by
 obtain⟨dst,op,ty,pos,after,g⟩:=o;cases op with
 |alloc t=>rfl
 |move x|assign x|unOp op t x|convert s t x|field t x f|extract x i|box t x|load t x|nilCheck x|fieldAddr t x f=>simp only[opFn];rw[h x (by simp[Op.operands])]
 |pick c x y=>simp only[opFn];rw[h c (by simp[Op.operands]),h x (by simp[Op.operands]),h y (by simp[Op.operands])]
 |binOp op t x y t2=>simp only[opFn];rw[h x (by simp[Op.operands]),h y (by simp[Op.operands])]
 |index t x y=>simp only[opFn];rw[h x (by simp[Op.operands]),h y (by simp[Op.operands])]
 |indexAddr t x y=>simp only[opFn];rw[h x (by simp[Op.operands]),h y (by simp[Op.operands])]
 |makeSlice t x y=>simp only[opFn];rw[h x (by simp[Op.operands]),h y (by simp[Op.operands])]
 |store t x y=>simp only[opFn];rw[h x (by simp[Op.operands]),h y (by simp[Op.operands])]
 |slice t x lo hi mx=>
  have ho:∀z:Option Operand,(∀x,z=some x→ρ x=ρ' x)→optEv ρ z=optEv ρ' z:=fun z hz=>by
   cases z with
   |none=>rfl
   |some x=>simp only[optEv];rw[hz x rfl]
  simp only[opFn];rw[h x (by simp[Op.operands]),ho lo (fun y hy=>h y (by subst hy;simp[Op.operands])),ho hi (fun y hy=>h y (by subst hy;simp[Op.operands])),ho mx (fun y hy=>h y (by subst hy;simp[Op.operands]))]
 |build t parts=>
  have h1:partsD ob ρ parts.toList=partsD ob ρ' parts.toList:=partsD_congr fun p hp=>h p.2 (by simp only[Op.operands];exact List.mem_map.2 ⟨p,hp,rfl⟩)
  simp only[opFn,h1]
 |buildSlice t len parts=>
  have h1:partsD ob ρ parts.toList=partsD ob ρ' parts.toList:=partsD_congr fun p hp=>h p.2 (by simp only[Op.operands];exact List.mem_map.2 ⟨p,hp,rfl⟩)
  have h2:partV ρ parts.toList=partV ρ' parts.toList:=by
   unfold partV;split
   ·rename_i x hx;exact h x (by simp only[Op.operands];exact List.mem_map.2 ⟨(0,x),by rw[hx];simp,rfl⟩)
   ·rfl
  simp only[opFn,h1,h2]
 |makeFunc fn first captured=>
  have hc:captured.toList.map ρ=captured.toList.map ρ':=List.map_congr_left fun x hx=>h x (by simp only[Op.operands,Array.toList_append];exact List.mem_append_right _ hx)
  simp only[opFn];rw[hc]
 |call c=>
  obtain⟨callee,args,ts⟩:=c;have hargs:∀x∈args.toList,ρ x=ρ' x:=fun x hx=>h x (by
   simp only[Op.operands,Call.operands,Array.toList_append];exact List.mem_append_right _ hx)
  simp only[opFn];split
  ·rw[List.map_congr_left hargs]
  ·rename_i t;rw[List.map_congr_left hargs,h (.tmp t) (by simp[Op.operands,Call.operands])]
  ·split
   ·rename_i x hx;rw[hargs x (by rw[hx];simp)]
   ·rfl
  ·split
   ·rename_i x y hx;rw[hargs x (by rw[hx];simp),hargs y (by rw[hx];simp)]
   ·rfl
  ·split
   ·rename_i x hx;rw[hargs x (by rw[hx];simp)]
   ·rfl
  ·split
   ·rename_i x y hx;rw[hargs x (by rw[hx];simp),hargs y (by rw[hx];simp)]
   ·rfl
  ·split
   ·rename_i x y hx;rw[hargs x (by rw[hx];simp),hargs y (by rw[hx];simp)]
   ·rfl
  ·rfl
 |_=>rfl
def UOk (C:Cx) (o:Oper) (ρ:Operand→V) (ob:List Obj) (up:List (Nat×Obj)) (p:Nat×Obj):Prop:=
 ((p.1∈newL C o∧freeKey ob p.1=true)∨(p.1∈opk o ρ ob∧cls C o≠0∧nth .none ob p.1≠ .none∧(cls C o≤1→∃s es fz,nth .none ob p.1= .arr s es fz∧p.2= .arr s es true)))∧
 p.2≠ .none∧∀u∈objVs p.2,VOk ob up u
def GoodR (C:Cx) (o:Oper) (ρ:Operand→V) (ob:List Obj):R→Prop
 | .fail=>True
 | .ok v up=>(∀p∈up,UOk C o ρ ob up p)∧VOk ob up v
 | .cond (dc:=_) _ v up=>(∀p∈up,UOk C o ρ ob up p)∧VOk ob up v
 | .look .. =>True
 | .call _ _ _ up=>∀p∈up,UOk C o ρ ob up p
omit [Env] in
theorem keys_const (v:Value):keysV (constV v)=[]:=by
 unfold constV;split<;>try rfl
 split<;>rfl
def FzOk (vs:List V) (ob:List Obj) (us:List (Nat×Obj)):Prop:=∀p∈us,(∃v∈vs,p.1∈keysV v)∧∃s es fz,nth .none ob p.1= .arr s es fz∧p.2= .arr s es true
omit [Env] in
theorem dataC_fz:∀{cs:List VC} {ds:List D} {us:List (Nat×Obj)},dataC ob cs=some (ds,us)→∀p∈us,p.1∈keysC cs∧∃s es fz,nth .none ob p.1= .arr s es fz∧p.2= .arr s es true
 |[],ds,us,h,p,hp=>by simp only[dataC,Option.some.injEq,Prod.mk.injEq]at h;obtain⟨_,rfl⟩:=h;simp at hp
 |c::r,ds,us,h,p,hp=>by
  simp only[dataC]at h;split at h
  ·rename_i d u ds' us' h1 h2;simp only[Option.some.injEq,Prod.mk.injEq]at h;obtain⟨_,rfl⟩:=h;rcases List.mem_append.1 hp with hp|hp
   ·unfold data1 at h1;split at h1
    ·simp only[Option.some.injEq,Prod.mk.injEq]at h1;obtain⟨_,rfl⟩:=h1;simp at hp
    ·simp only[Option.some.injEq,Prod.mk.injEq]at h1;obtain⟨_,rfl⟩:=h1;simp at hp
    ·split at h1
     ·rename_i k _ s es fz hk;simp only[Option.some.injEq,Prod.mk.injEq]at h1;obtain⟨_,rfl⟩:=h1;simp only[List.mem_singleton]at hp;subst hp;exact⟨by simp[keysC],_,_,_,hk,rfl⟩
     ·simp at h1
   ·obtain⟨q1,q2⟩:=dataC_fz h2 p hp;exact⟨keysC_iff.2 (List.mem_cons_of_mem _ (keysC_iff.1 q1)),q2⟩
  ·simp at h
omit [Env] in
theorem cellsOf_fz {v:V} {ds:List D} {us:List (Nat×Obj)} (h:cellsOf ob v=some (ds,us)):FzOk [v] ob us:=by
 unfold cellsOf at h;split at h<;>try (simp only[Option.some.injEq,Prod.mk.injEq]at h;obtain⟨_,rfl⟩:=h;exact fun _ hp=>absurd hp (by simp))
 ·split at h
  ·rename_i k _ s es fz hk;simp only[Option.some.injEq,Prod.mk.injEq]at h;obtain⟨_,rfl⟩:=h;intro p hp;simp only[List.mem_singleton]at hp;subst hp;exact⟨⟨.arr k,by simp,by simp[keysV]⟩,_,_,_,hk,rfl⟩
  ·simp at h
 ·rename_i cs;intro p hp;obtain⟨q1,q2⟩:=dataC_fz h p hp;exact⟨⟨_,List.mem_singleton.2 rfl,q1⟩,q2⟩
 ·simp at h
omit [Env] in
theorem toA_fz {v:V} {d:A} {us:List (Nat×Obj)} (h:toA ob v=some (d,us)):FzOk [v] ob us:=by
 unfold toA at h;split at h<;>try (simp only[Option.some.injEq,Prod.mk.injEq]at h;obtain⟨_,rfl⟩:=h;exact fun _ hp=>absurd hp (by simp))
 ·split at h
  ·rename_i k _ s es fz hk;simp only[Option.some.injEq,Prod.mk.injEq]at h;obtain⟨_,rfl⟩:=h;intro p hp;simp only[List.mem_singleton]at hp;subst hp;exact⟨⟨.arr k,by simp,by simp[keysV]⟩,_,_,_,hk,rfl⟩
  ·simp at h
 ·split at h
  ·rename_i cs ds' us' h2;simp only[Option.some.injEq,Prod.mk.injEq]at h;obtain⟨_,rfl⟩:=h;intro p hp;obtain⟨q1,q2⟩:=dataC_fz h2 p hp;exact⟨⟨_,List.mem_singleton.2 rfl,q1⟩,q2⟩
  ·simp at h
 ·simp at h
omit [Env] in
theorem elems_fz {v:V} {d:List (List D)} {us:List (Nat×Obj)} (h:elems ob v=some (d,us)):FzOk [v] ob us:=by
 unfold elems at h;split at h<;>try (simp only[Option.some.injEq,Prod.mk.injEq]at h;obtain⟨_,rfl⟩:=h;exact fun _ hp=>absurd hp (by simp))
 ·split at h
  ·rename_i k _ s es fz hk;simp only[Option.some.injEq,Prod.mk.injEq]at h;obtain⟨_,rfl⟩:=h;intro p hp;simp only[List.mem_singleton]at hp;subst hp;exact⟨⟨.arr k,by simp,by simp[keysV]⟩,_,_,_,hk,rfl⟩
  ·simp at h
 ·simp at h
omit [Env] in
theorem FzOk.mono {vs vs':List V} {us:List (Nat×Obj)} (h:FzOk vs ob us) (hs:∀v∈vs,v∈vs'):FzOk vs' ob us:=fun p hp=>by
 obtain⟨⟨v,h1,h2⟩,h3⟩:=h p hp;exact⟨⟨v,hs v h1,h2⟩,h3⟩
omit [Env] in
theorem FzOk.append {vs:List V} {us us':List (Nat×Obj)} (h:FzOk vs ob us) (h':FzOk vs ob us'):FzOk vs ob (us++us'):=fun p hp=>by
 rcases List.mem_append.1 hp with hp|hp
 ·exact h p hp
 ·exact h' p hp
omit [Env] in
theorem toAs_fz:∀{vs:List V} {ds:List A} {us:List (Nat×Obj)},toAs ob vs=some (ds,us)→FzOk vs ob us
 |[],ds,us,h=>by simp only[toAs,Option.some.injEq,Prod.mk.injEq]at h;obtain⟨_,rfl⟩:=h;exact fun _ hp=>absurd hp (by simp)
 |v::vs,ds,us,h=>by
  simp only[toAs]at h;split at h
  ·rename_i d u as us' h1 h2;simp only[Option.some.injEq,Prod.mk.injEq]at h;obtain⟨_,rfl⟩:=h;exact((toA_fz h1).mono (by simp)).append ((toAs_fz h2).mono fun v hv=>by simp[hv])
  ·simp at h
omit [Env] in
theorem partsD_fz {ρ:Operand→V}:∀{ps:List (Nat×Operand)} {qs:List (Nat×List D)} {us:List (Nat×Obj)},partsD ob ρ ps=some (qs,us)→FzOk (ps.map fun p=>ρ p.2) ob us
 |[],ds,us,h=>by simp only[partsD,Option.some.injEq,Prod.mk.injEq]at h;obtain⟨_,rfl⟩:=h;exact fun _ hp=>absurd hp (by simp)
 |(i,x)::vs,ds,us,h=>by
  simp only[partsD]at h;split at h
  ·rename_i d u as us' h1 h2;simp only[Option.some.injEq,Prod.mk.injEq]at h;obtain⟨_,rfl⟩:=h;exact((cellsOf_fz h1).mono (by simp)).append ((partsD_fz h2).mono fun v hv=>by simp only[List.map_cons,List.mem_cons];exact .inr hv)
  ·simp at h
omit [Env] in
theorem FzOk.up {o:Oper} {ρ:Operand→V} {vs:List V} {us:List (Nat×Obj)} (h:FzOk vs ob us) (hv:∀v∈vs,∃x∈o.op.operands.toList,ρ x=v) (hc:cls C o≠0) (up:List (Nat×Obj)):∀p∈us,UOk C o ρ ob up p:=fun p hp=>by
 obtain⟨⟨v,h1,h2⟩,s,es,fz,h3,h4⟩:=h p hp;obtain⟨x,hx,rfl⟩:=hv v h1;exact⟨.inr ⟨mem_opk hx h2,hc,by rw[h3];simp,fun _=>⟨s,es,fz,h3,h4⟩⟩,by rw[h4];simp,fun u hu=>by rw[h4]at hu;simp[objVs]at hu⟩
omit [Env] in
theorem GoodR.data {o:Oper} {ρ:Operand→V} {v:V} (hv:keysV v=[]):GoodR C o ρ ob (.ok v []):=⟨fun _ h=>absurd h (by simp),fun k hk=>by rw[hv]at hk;simp at hk⟩
omit [Env] in
theorem GoodR.dataC {o:Oper} {ρ:Operand→V} {c:Prop} [Decidable c] {v:V} (hv:keysV v=[]):GoodR C o ρ ob (.cond c v []):=⟨fun _ h=>absurd h (by simp),fun k hk=>by rw[hv]at hk;simp at hk⟩
omit [Env] in
theorem GoodR.same {o:Oper} {ρ:Operand→V} {v:V} (hv:∀k∈keysV v,nth .none ob k≠ .none):GoodR C o ρ ob (.ok v []):=⟨fun _ h=>absurd h (by simp),fun k hk=> .inl (hv k hk)⟩
omit [Env] in
theorem GoodR.sameC {o:Oper} {ρ:Operand→V} {c:Prop} [Decidable c] {v:V} (hv:∀k∈keysV v,nth .none ob k≠ .none):GoodR C o ρ ob (.cond c v []):=⟨fun _ h=>absurd h (by simp),fun k hk=> .inl (hv k hk)⟩
omit [Env] in
theorem GoodR.new {o:Oper} {ρ:Operand→V} {d:Nat} {x:Obj} {us:List (Nat×Obj)} {v:V} (hd:o.dst=some d) (hf:freeKey ob d=true) (hx:x≠ .none) (hc:∀u∈objVs x,keysV u=[]) (hu:∀p∈us,UOk C o ρ ob (us++[(d,x)]) p)
 (hv:∀k∈keysV v,k=d):(∀p∈us++[(d,x)],UOk C o ρ ob (us++[(d,x)]) p)∧VOk ob (us++[(d,x)]) v:=by
 refine⟨fun p hp=>?_,fun k hk=> .inr ?_⟩
 ·rcases List.mem_append.1 hp with hp|hp
  ·exact hu p hp
  ·simp only[List.mem_singleton]at hp;subst hp;exact⟨.inl ⟨dst_newL hd,hf⟩,hx,fun u hu j hj=>by rw[hc u hu]at hj;simp at hj⟩
 ·rw[hv k hk];exact⟨hf,x,by simp⟩
omit [Env] in
theorem GoodR.new2 {o:Oper} {ρ:Operand→V} {d:Nat} {x:Obj} {us:List (Nat×Obj)} {v:V} (hd:o.dst=some d) (hf:freeKey ob d=true) (hx:x≠ .none) (hc:∀u∈objVs x,∀k∈keysV u,nth .none ob k≠ .none) (hu:∀p∈us,UOk C o ρ ob (us++[(d,x)]) p)
 (hv:∀k∈keysV v,k=d):(∀p∈us++[(d,x)],UOk C o ρ ob (us++[(d,x)]) p)∧VOk ob (us++[(d,x)]) v:=by
 refine⟨fun p hp=>?_,fun k hk=> .inr ?_⟩
 ·rcases List.mem_append.1 hp with hp|hp
  ·exact hu p hp
  ·simp only[List.mem_singleton]at hp;subst hp;exact⟨.inl ⟨dst_newL hd,hf⟩,hx,fun u hu j hj=> .inl (hc u hu j hj)⟩
 ·rw[hv k hk];exact⟨hf,x,by simp⟩
omit [Env] in
theorem binV_good {o:Oper} {ρ:Operand→V} {P:Program} {op:BinOp} {t:TypeId} {x y:V}:GoodR C o ρ ob (eqV P op t x y):=by
 have hb:GoodR C o ρ ob (binV op x y):=by
  unfold binV;split
  ·split
   ·unfold shV;split<;>first|trivial|exact GoodR.data rfl|exact GoodR.dataC rfl
   split
   ·trivial
   ·split<;>first|trivial|exact GoodR.data rfl|exact GoodR.dataC rfl
  ·split<;>first|trivial|exact GoodR.data rfl|exact GoodR.dataC rfl
  ·trivial
 unfold eqV;split
 ·split
  ·split<;>first|trivial|exact GoodR.data rfl
  ·trivial
 ·unfold aggV;split
  ·split
   ·split<;>first|trivial|exact GoodR.dataC rfl
   ·trivial
  ·trivial
 ·exact hb
omit [Env] in
theorem nilV_good {o:Oper} {ρ:Operand→V} {P:Program} {op:BinOp} {t:TypeId} {xo yo:Operand} {x y:V}:GoodR C o ρ ob (nilV P op t xo yo x y):=by
 unfold nilV;split
 ·split
  ·split
   ·split<;>first|trivial|exact GoodR.data rfl
   ·trivial
  ·trivial
 ·split
  ·split<;>first|trivial|exact GoodR.dataC rfl
  ·trivial
 ·exact binV_good
omit [Env] in
theorem mxV_good {o:Oper} {ρ:Operand→V} {big:Bool} {x y:V}:GoodR C o ρ ob (mxV big x y):=by
 unfold mxV;split
 ·split
  ·split<;>exact GoodR.data rfl
  ·trivial
 ·trivial
omit [Env] in
theorem capD_fz:∀{vs:List V} {ps:List D} {us:List (Nat×Obj)},capD ob vs=some (ps,us)→∀p∈us,(∃v∈vs,p.1∈keysV v)∧(∃cells,nth .none ob p.1= .box cells)∧p.2= .dead
 |[],ps,us,h=>by simp only[capD,Option.some.injEq,Prod.mk.injEq]at h;obtain⟨_,rfl⟩:=h;exact fun _ hp=>absurd hp (by simp)
 |v::vs,ps,us,h=>by
  unfold capD at h;split at h
  ·rename_i k;split at h
   ·rename_i cells hk;split at h
    ·rename_i ds ps' us' hds hr;simp only[Option.some.injEq,Prod.mk.injEq]at h;obtain⟨_,rfl⟩:=h;intro p hp;rcases List.mem_cons.1 hp with rfl|hp
     ·exact⟨⟨_,List.mem_cons_self ..,by simp[keysV]⟩,⟨_,hk⟩,rfl⟩
     ·obtain⟨⟨u,q2,q3⟩,q4⟩:=capD_fz hr p hp;exact⟨⟨u,List.mem_cons_of_mem _ q2,q3⟩,q4⟩
    ·simp at h
   ·simp at h
  ·split at h
   ·rename_i ps' us' hr;simp only[Option.some.injEq,Prod.mk.injEq]at h;obtain⟨_,rfl⟩:=h;intro p hp;obtain⟨⟨u,q2,q3⟩,q4⟩:=capD_fz hr p hp;exact⟨⟨u,List.mem_cons_of_mem _ q2,q3⟩,q4⟩
   ·simp at h
  ·simp at h
omit [Env] in
theorem keys_funV (f:Nat) (ps:List D):keysV (funV f ps)=[]:=by cases ps<;>rfl
theorem opFn_good [EffOk C] {o:Oper} {ρ:Operand→V} (hρ:∀x,∀k∈keysV (ρ x),nth .none ob k≠ .none) (hb:∀k,∀u∈objVs (nth .none ob k),∀j∈keysV u,nth .none ob j≠ .none):GoodR C o ρ ob (opFn C o ρ ob):=by
 obtain⟨dst,op,ty,pos,after,g⟩:=o;cases op with
 |move x=>exact GoodR.same (hρ x)
 |assign x=>exact GoodR.same (hρ x)
 |pick c x y=>
  simp only[opFn];split
  ·split
   ·exact GoodR.same (hρ x)
   ·exact GoodR.same (hρ y)
  ·trivial
 |binOp op t x y t2=>exact nilV_good
 |unOp op t x=>simp only[opFn,unV];split<;>first|trivial|exact GoodR.data rfl
 |convert s t x=>
  simp only[opFn];split
  ·split<;>first|trivial|exact GoodR.dataC rfl
  ·split
   ·unfold convV;split<;>first|trivial|exact GoodR.data rfl|exact GoodR.dataC rfl
   ·trivial
 |field t x f=>
  simp only[opFn]
  repeat' split
  all_goals first|trivial|exact GoodR.data rfl
 |index t x i=>simp only[opFn];split<;>first|trivial|exact GoodR.dataC rfl
 |extract x i=>
  simp only[opFn];split
  ·repeat' split
   all_goals first|trivial|exact GoodR.data rfl
  ·rename_i k as hv;split
   ·exact GoodR.same fun j hj=>hρ x j (by rw[hv];exact hj)
   ·repeat' split
    all_goals first|trivial|exact GoodR.data rfl
  ·trivial
 |alloc t=>
  simp only[opFn];split
  ·rename_i d;split
   ·rename_i z hd hz;split
    ·refine GoodR.new (us:=[]) (x:= .box (z.map constV)) rfl hd (by simp) (fun v hv=>?_) (fun _ h=>absurd h (by simp)) (fun k hk=>by simpa [keysV]using hk);obtain⟨y,_,rfl⟩:=List.mem_map.1 hv;exact keys_const y
    ·split
     ·refine GoodR.new (us:=[]) (x:= .bld t .nilS) rfl hd (by simp) (fun v hv=>?_) (fun _ h=>absurd h (by simp)) (fun k hk=>by simpa [keysV]using hk);simp[objVs]at hv;subst hv;rfl
     ·trivial
   ·trivial
  ·trivial
 |box t x=>
  simp only[opFn];split
  ·rename_i d;split
   ·rename_i hd;split
    ·exact GoodR.new (us:=[]) rfl hd (by simp) (fun v hv=>by
      obtain⟨y,_,rfl⟩:=List.mem_map.1 hv;rfl) (fun _ h=>absurd h (by simp)) (fun k hk=>by simpa [keysV]using hk)
    ·split
     ·rename_i hkc;exact GoodR.new (us:=[]) rfl hd (by simp) (fun v hv=>by
       obtain⟨c,hc,rfl⟩:=List.mem_map.1 hv;cases c with
       |arr k=>have:=keysC_iff.2 hc;rw[hkc]at this;simp at this
       |_=>rfl) (fun _ h=>absurd h (by simp)) (fun k hk=>by simpa [keysV]using hk)
     ·trivial
    ·exact GoodR.new (us:=[]) rfl hd (by simp) (fun v hv=>by
      simp[objVs]at hv;subst hv;rfl) (fun _ h=>absurd h (by simp)) (fun k hk=>by simpa [keysV]using hk)
    ·exact GoodR.new (us:=[]) rfl hd (by simp) (fun v hv=>by
      simp[objVs]at hv;subst hv;rfl) (fun _ h=>absurd h (by simp)) (fun k hk=>by simpa [keysV]using hk)
    ·trivial
   ·trivial
  ·trivial
 |makeSlice t x y=>
  simp only[opFn];split
  ·rename_i d;split
   ·rename_i e hd he;split
    ·split
     ·split
      ·exact GoodR.new (us:=[]) rfl hd (by simp) (fun u hu=>by simp[objVs]at hu) (fun _ h=>absurd h (by simp)) (fun k hk=>by simpa [keysV]using hk)
      ·split
       ·exact GoodR.new (us:=[]) rfl hd (by simp) (fun u hu=>by rw[List.eq_of_mem_replicate (show u∈List.replicate _ V.nilS from hu)];rfl) (fun _ h=>absurd h (by simp)) (fun k hk=>by simpa [keysV]using hk)
       ·trivial
     ·trivial
    ·trivial
   ·trivial
  ·trivial
 |build t parts=>
  simp only[opFn];split
  ·split
   ·rename_i qs us hp;split
    ·split
     ·refine⟨(partsD_fz hp).up (fun v hv=>?_) (by simp[cls]) _,fun k hk=>by simp[keysV]at hk⟩;obtain⟨p,hp,rfl⟩:=List.mem_map.1 hv;exact⟨p.2,by simp only[Op.operands];exact List.mem_map.2 ⟨p,hp,rfl⟩,rfl⟩
     ·trivial
    ·split
     ·rename_i z _ _ _ _ hb;refine⟨(partsD_fz hp).up (fun v hv=>?_) (by simp[cls]) _,fun k hk=>?_⟩
      ·obtain⟨p,hp,rfl⟩:=List.mem_map.1 hv;exact⟨p.2,by simp only[Op.operands];exact List.mem_map.2 ⟨p,hp,rfl⟩,rfl⟩
      ·have hk:k∈keysC _:=hk;rw[buildN_dt _ _ _ hb (keys_constC _)]at hk;simp at hk
     ·trivial
   ·trivial
  ·trivial
 |buildSlice t len parts=>
  simp only[opFn];split
  ·rename_i d;split
   ·rename_i e hd he;split
    ·unfold buildW;split
     ·rename_i j hpv;split
      ·split
       ·obtain⟨x,_,hx⟩:=partV_ok hpv (by simp);exact GoodR.new2 (us:=[]) rfl hd (by simp) (fun u hu k hk=>by
         have hu:u= .arr j:=by simpa [objVs]using hu
         subst hu;exact hρ x k (by rw[hx];exact hk)) (fun _ h=>absurd h (by simp)) (fun k hk=>by simpa [keysV]using hk)
       ·trivial
      ·trivial
     ·trivial
    split
    ·rename_i z qs us hz hp;split
     ·split
      ·refine GoodR.new rfl hd (by simp) (fun u hu=>by simp[objVs]at hu) ((partsD_fz hp).up (fun v hv=>?_) (by simp[cls]) _) (fun k hk=>by simpa [keysV]using hk);obtain⟨p,hp,rfl⟩:=List.mem_map.1 hv;exact⟨p.2,by simp only[Op.operands];exact List.mem_map.2 ⟨p,hp,rfl⟩,rfl⟩
      ·trivial
     ·trivial
    ·trivial
   ·trivial
  ·trivial
 |load t x=>
  have hx:=hρ x;simp only[opFn,loadV];split
  ·trivial
  ·split
   ·split
    ·rename_i k off hv _ cells hk;split
     ·split
      ·rename_i hle0;split
       ·exact GoodR.data rfl
       ·split
        ·rename_i vcs hvc;refine GoodR.same fun k' hk'=>?_
         have hv2:=vcOf_ok hvc;have hle:=of_decide_eq_true hle0;have hm:V.arr k'∈vcs.map VC.v:=List.mem_map.2 ⟨_,keysC_iff.1 hk',rfl⟩;rw[←hv2]at hm;rw[segV_eq]at hm;obtain⟨j,_,hj,e⟩:=mem_segF hm;refine hb k (.arr k') ?_ k' (by simp[keysV]);rw[hk,←e];show nth .any cells j∈cells;rw[nth_of_lt _ (by omega)];exact List.getElem_mem _
        ·trivial
      ·trivial
     ·split
      ·rename_i hlt;have hlt:off<cells.length:=by simpa using hlt
       refine GoodR.same (hb k _ ?_);rw[hk,nth_of_lt _ hlt];exact List.getElem_mem hlt
      ·trivial
    ·rename_i k off hv _ cells hk;split
     ·trivial
     ·split
      ·rename_i hlt;have hlt:off<cells.length:=by simpa using hlt
       refine GoodR.same (hb k _ ?_);rw[hk];exact mem_nth hlt
      ·trivial
    ·trivial
   ·trivial
   ·split<;>trivial
   ·trivial
 |nilCheck x=>
  have hx:=hρ x;simp only[opFn];split
  ·rename_i k off hv;rw[hv]at hx;split
   ·exact GoodR.same hx
   ·trivial
  ·trivial
 |fieldAddr t x f=>
  have hx:=hρ x;simp only[opFn];split
  ·split
   ·trivial
   ·split
    ·rename_i k off hv;rw[hv]at hx;split
     ·exact GoodR.same hx
     ·trivial
    ·rename_i k i off hv;rw[hv]at hx;split
     ·exact GoodR.same hx
     ·trivial
    ·exact GoodR.data rfl
    ·trivial
  ·trivial
 |indexAddr t x i=>
  have hx:=hρ x;simp only[opFn,indexAddrV];split
  ·split
   ·split
    ·split
     ·exact GoodR.dataC rfl
     ·trivial
    ·rename_i k hv;rw[hv]at hx;split
     ·split
      ·exact GoodR.sameC hx
      ·trivial
     ·trivial
    ·rename_i k o l hv;rw[hv]at hx;split
     ·split
      ·exact GoodR.sameC hx
      ·trivial
     ·trivial
    ·rename_i k l hv;rw[hv]at hx;split
     ·split
      ·exact GoodR.sameC hx
      ·trivial
     ·trivial
    ·trivial
   ·split
    ·rename_i k off hv;rw[hv]at hx;split
     ·split
      ·split
       ·exact GoodR.same hx
       ·trivial
      ·trivial
     ·trivial
    ·split
     ·exact GoodR.dataC rfl
     ·trivial
    ·split
     ·split
      ·exact GoodR.data rfl
      ·trivial
     ·trivial
    ·trivial
   ·trivial
  ·trivial
 |slice t x lo hi mx=>
  have hx:=hρ x;simp only[opFn];split
  ·unfold sliceG
   repeat' split
   all_goals first|trivial|exact GoodR.data rfl
  simp only[sliceW,sliceV,keepV];split
  rotate_left
  ·split
   ·split
    ·rename_i hv;rw[hv]at hx
     repeat' split
     all_goals first|trivial|exact GoodR.same hx
    ·trivial
   ·trivial
  split
  rotate_left
  ·repeat' split
   all_goals first|trivial|exact GoodR.dataC rfl
  split
  ·repeat' split
   all_goals first|trivial|exact GoodR.dataC rfl
  ·split
   ·rename_i z es us hz hel;have hu:=(elems_fz hel).up (C:=C) (o:=⟨dst,.slice t x lo hi mx,ty,pos,after,g⟩) (ρ:=ρ) (fun v hv=>⟨x,by simp[Op.operands],by simp at hv;exact hv.symm⟩) (by simp[cls]) us
    repeat' split
    all_goals first|trivial|exact⟨hu,fun k hk=>by simp[keysV]at hk⟩
   ·trivial
  ·trivial
 |store t p x=>
  have hp:=hρ p;have hx:=hρ x;simp only[opFn,storeV];have hop:∀k∈keysV (ρ p),k∈opk ⟨dst,.store t p x,ty,pos,after,g⟩ ρ ob:=fun k hk=>mem_opk (x:=p) (by simp[Op.operands]) hk
  have hcl:cls C ⟨dst,.store t p x,ty,pos,after,g⟩=2:=rfl;split
  ·trivial
  ·split
   ·rename_i k off hv;rw[hv]at hp hop;split
    ·rename_i cells hk;have key:∀cells':List V,(∀v∈cells',v∈cells∨v=ρ x∨keysV v=[])→GoodR C ⟨dst,.store t p x,ty,pos,after,g⟩ ρ ob (.ok .any [(k,.box cells')]):=by
      intro cells' hcs;refine⟨fun q hq=>?_,fun k hk=>by simp[keysV]at hk⟩;simp only[List.mem_singleton]at hq;subst hq;refine⟨.inr ⟨hop k (by simp[keysV]),by rw[hcl];simp,by rw[hk];simp,fun hle=>by rw[hcl]at hle;omega⟩,by simp,fun v hv j hj=> .inl ?_⟩;rcases hcs v hv with h1|h1|h1
      ·exact hb k v (by rw[hk];exact h1) j hj
      ·subst h1;exact hx j hj
      ·rw[h1]at hj;simp at hj
     have mem_updsV:∀(ds:List D) (cells:List V) (off:Nat) (v:V),v∈updsV cells off ds→v∈cells∨keysV v=[]:=by
      intro ds
      induction ds with
      |nil=>intro cells off v hv;exact .inl hv
      |cons d ds ih=>
       intro cells off v hv;rcases ih _ _ _ hv with hv|hv
       ·rcases mem_upd hv with hv|rfl
        ·exact .inl hv
        ·exact .inr rfl
       ·exact .inr hv
     split
     ·split
      ·split
       ·exact key _ fun v hv=>by
         rcases mem_updsV _ _ _ _ hv with h1|h1
         ·exact .inl h1
         ·exact .inr (.inr h1)
       ·trivial
      ·rename_i ds hds;split
       ·refine⟨fun q hq=>?_,fun k hk=>by simp[keysV]at hk⟩;simp only[List.mem_singleton]at hq;subst hq;refine⟨.inr ⟨hop k (by simp[keysV]),by rw[hcl];simp,by rw[hk];simp,fun hle=>by rw[hcl]at hle;omega⟩,by simp,fun v hv j hj=> .inl ?_⟩;have hm:∀(l:List VC) (cs:List V) (off:Nat) (v:V),v∈updsVC cs off l→v∈cs∨∃c∈l,v=c.v:=by
         intro l
         induction l with
         |nil=>intro cs off v hv;exact .inl hv
         |cons d l ih=>
          intro cs off v hv;rcases ih _ _ _ hv with hv|⟨c,hc,e⟩
          ·rcases mem_upd hv with hv|rfl
           ·exact .inl hv
           ·exact .inr ⟨d,by simp,rfl⟩
          ·exact .inr ⟨c,by simp[hc],e⟩
        rcases hm _ _ _ _ hv with h1|⟨c,hc,rfl⟩
        ·exact hb k v (by rw[hk];exact h1) j hj
        ·rw[hds]at hx;refine hx j ?_;cases c with
         |arr k2=>simp[VC.v,keysV]at hj;subst hj;exact keysC_iff.2 hc
         |d d=>simp[VC.v,keysV]at hj
         |nil=>simp[VC.v,keysV]at hj
       ·trivial
      ·trivial
     ·split
      ·split
       ·exact key _ fun v hv=>by
         rcases mem_upd hv with h1|rfl
         ·exact .inl h1
         ·exact .inr (.inr rfl)
       ·trivial
      ·split
       ·exact key _ fun v hv=>by
         rcases mem_upd hv with h1|rfl
         ·exact .inl h1
         ·exact .inr (.inr rfl)
       ·trivial
      ·rename_i j hj;split
       ·split
        ·exact key _ fun v hv=>by
          rcases mem_upd hv with h1|rfl
          ·exact .inl h1
          ·exact .inr (.inl hj.symm)
        ·trivial
       ·trivial
      ·trivial
    ·rename_i cells hk;split
     ·rename_i j hj;split
      ·split
       ·refine⟨fun q hq=>?_,fun k hk=>by simp[keysV]at hk⟩;simp only[List.mem_singleton]at hq;subst hq;refine⟨.inr ⟨hop k (by simp[keysV]),by rw[hcl];simp,by rw[hk];simp,fun hle=>by rw[hcl]at hle;omega⟩,by simp,fun v hv i hi=> .inl ?_⟩;rcases mem_upd hv with h1|rfl
        ·exact hb k v (by rw[hk];exact h1) i hi
        ·exact hx i (by rw[hj];exact hi)
       ·trivial
      ·trivial
     ·trivial
    ·trivial
   ·rename_i k i off hv;rw[hv]at hp hop;split
    ·rename_i s es hk;have key:∀(c:Prop) [Decidable c] (es':List (List D)),GoodR C ⟨dst,.store t p x,ty,pos,after,g⟩ ρ ob (.cond c .any [(k,.arr s es' false)]):=by intro c _ es';refine⟨fun q hq=>?_,fun k hk=>by simp[keysV]at hk⟩;simp only[List.mem_singleton]at hq;subst hq;exact⟨.inr ⟨hop k (by simp[keysV]),by rw[hcl];simp,by rw[hk];simp,fun hle=>by rw[hcl]at hle;omega⟩,by simp,fun u hu=>by simp[objVs]at hu⟩
     split
     ·split
      ·exact key _ _
      ·trivial
     ·split
      ·exact key _ _
      ·trivial
     ·trivial
    ·trivial
   ·trivial
 |makeFunc fn first captured=>
  simp only[opFn];split
  ·split
   ·rename_i ps us hc;refine⟨fun p hp=>?_,fun k hk=>by rw[keys_funV]at hk;simp at hk⟩;obtain⟨⟨v,hv,hk⟩,⟨cells,hb2⟩,h3⟩:=capD_fz hc p hp;obtain⟨x,hx,rfl⟩:=List.mem_map.1 hv;refine⟨.inr ⟨mem_opk (x:=x) (by simp only[Op.operands,Array.toList_append];exact List.mem_append_right _ hx) hk,by simp[cls],by rw[hb2];simp,fun hle=>by simp[cls]at hle⟩,by rw[h3];simp,fun u hu=>by rw[h3]at hu;simp[objVs]at hu⟩
   ·trivial
  ·trivial
 |call c=>
  obtain⟨callee,args,ts⟩:=c;simp only[opFn];have hcall:∀(f:Nat) (cal:Operand) (ps:List D),cls C ⟨dst,.call ⟨.value cal,args,ts⟩,ty,pos,after,g⟩≠0→GoodR C ⟨dst,.call ⟨.value cal,args,ts⟩,ty,pos,after,g⟩ ρ ob (callV C ob f (args.toList.map ρ++ps.map V.c)):=by
   intro f cal ps hcl;unfold callV;split
   ·trivial
   ·split
    ·trivial
    ·split
     ·rename_i as us sh hto hsh;have hu:∀p∈us,UOk C ⟨dst,.call ⟨.value cal,args,ts⟩,ty,pos,after,g⟩ ρ ob us p:=fun p hp=>by
       obtain⟨⟨v,h1,h2⟩,s,es,fz,h3,h4⟩:=toAs_fz hto p hp;rcases List.mem_append.1 h1 with h1|h1
       ·obtain⟨x,hx,rfl⟩:=List.mem_map.1 h1;exact⟨.inr ⟨mem_opk (x:=x) (by simp only[Op.operands,Call.operands,Array.toList_append];exact List.mem_append_right _ hx) h2,hcl,by rw[h3];simp,fun _=>⟨s,es,fz,h3,h4⟩⟩,by rw[h4];simp,fun u hu=>by rw[h4]at hu;simp[objVs]at hu⟩
       ·obtain⟨d,_,rfl⟩:=List.mem_map.1 h1;simp[keysV]at h2
      split
      ·exact hu
      ·exact fun _ h=>absurd h (by simp)
     ·trivial
  split
  ·rename_i f;split
   ·rename_i e he;have hcl:cls C ⟨dst,.call ⟨.value (.func f),args,ts⟩,ty,pos,after,g⟩=2:=by simp[cls,he]
    have hg:=EffOk.good he dst (args.toList.map ρ) ob (fun v hv=>by obtain⟨x,_,rfl⟩:=List.mem_map.1 hv;exact hρ x) hb;have hin:∀k,k∈deepB ob ((args.toList.map ρ).flatMap keysV)→k∈opk ⟨dst,.call ⟨.value (.func f),args,ts⟩,ty,pos,after,g⟩ ρ ob:=fun k hkk=>by show k∈deepB ob _;rw[mem_deepB]at hkk ⊢;obtain⟨j,h1,h2⟩:=hkk;refine⟨j,?_,h2⟩;rw[opkL_eq];obtain⟨v,hv,hj⟩:=List.mem_flatMap.1 h1;obtain⟨x,hx,rfl⟩:=List.mem_map.1 hv;exact List.mem_flatMap.2 ⟨x,by simp only[Op.operands,Call.operands,Array.toList_append];exact List.mem_append_right _ hx,hj⟩
    have hup:∀{up:List (Nat×Obj)} {p:Nat×Obj},((newK (C.wd f) dst p.1∧freeKey ob p.1=true)∨(p.1∈deepB ob ((args.toList.map ρ).flatMap keysV)∧nth .none ob p.1≠ .none))∧p.2≠ .none∧(∀u∈objVs p.2,VOk ob up u)→UOk C ⟨dst,.call ⟨.value (.func f),args,ts⟩,ty,pos,after,g⟩ ρ ob up p:=fun{up p} h=>by
     refine⟨?_,h.2⟩;rcases h.1 with h1|⟨h1,h2⟩
     ·exact .inl ⟨newL_call.2 h1.1,h1.2⟩
     ·exact .inr ⟨hin _ h1,by rw[hcl];simp,h2,fun hle=>by rw[hcl]at hle;omega⟩
    generalize e dst (args.toList.map ρ) ob=r at *;cases r with
    |fail=>trivial
    |ok v up=>exact⟨fun p hp=>hup (hg.1 p hp),hg.2⟩
    |cond c v up=>exact⟨fun p hp=>hup (hg.1 p hp),hg.2⟩
    |look _ _ _ _=>trivial
    |call _ _ _ _=>exact hg.elim
   ·rename_i he;have:=hcall f (.func f) [] (by simp[cls,he]);rw[List.map_nil,List.append_nil]at this;exact this
  ·rename_i t0;split
   ·rename_i f _;split
    ·trivial
    ·have:=hcall f (.tmp t0) [] (by simp[cls]);rw[List.map_nil,List.append_nil]at this;exact this
   ·split
    ·trivial
    ·exact hcall _ _ _ (by simp[cls])
   ·trivial
  ·split
   ·unfold lenV
    repeat' split
    all_goals first|trivial|exact GoodR.data rfl
   ·trivial
  ·split
   ·rename_i x y hargs;have hx:=hρ x;have hcl:cls C ⟨dst,.call ⟨.builtin .append,args,ts⟩,ty,pos,after,g⟩=2:=rfl;have hop:∀k∈keysV (ρ x),k∈opk ⟨dst,.call ⟨.builtin .append,args,ts⟩,ty,pos,after,g⟩ ρ ob:=fun k hk=>mem_opk (x:=x) (by
     simp only[Op.operands,Call.operands,Array.toList_append];exact List.mem_append_right _ (by rw[hargs];simp)) hk
    unfold appendV;split
    ·trivial
    ·rename_i d;split
     ·trivial
     ·rename_i hd;split
      ·split
       ·split
        ·unfold appendW;split
         ·rename_i xs up v u2 hxs hys hz;split
          ·have hy:=hρ y;have hv:∀k∈keysV v,nth .none ob k≠ .none:=by
            rcases vecL_ok hys with⟨_,h1,_⟩|⟨k,_,h1,_⟩
            ·simp at h1
            ·exact hb k v (by rw[h1];simp[objVs])
           rcases vecL_ok hxs with⟨_,rfl,rfl⟩|⟨k,hvx,hk,rfl⟩
           ·exact GoodR.new2 (us:=[]) rfl hd (by simp) (fun u hu=>by
             have hu:u=v:=by simpa [objVs]using hu
             rw[hu];exact hv) (fun _ h=>absurd h (by simp)) (fun k hk=>by simpa [keysV]using hk)
           ·rw[hvx]at hop;exact GoodR.new2 (us:=[(k,.dead)]) rfl hd (by simp) (fun u hu=>by
             rcases List.mem_append.1 (show u∈xs++[v]from hu)with hu|hu
             ·exact hb k u (by rw[hk];exact hu)
             ·rw[List.mem_singleton.1 hu];exact hv) (fun q hq=>by
              simp only[List.mem_singleton]at hq;subst hq;exact⟨.inr ⟨hop k (by simp[keysV]),by rw[hcl];simp,by rw[hk];simp,fun hle=>by rw[hcl]at hle;omega⟩,by simp,fun u hu=>by simp[objVs]at hu⟩) (fun k hk=>by simpa [keysV]using hk)
          ·trivial
         ·trivial
        split
        ·split
         ·split
          ·exact GoodR.new (us:=[]) rfl hd (by simp) (fun u hu=>by simp[objVs]at hu) (fun _ h=>absurd h (by simp)) (fun k hk=>by simpa [keysV]using hk)
          ·rename_i k hv;rw[hv]at hx hop;split
           ·rename_i s es hk;split
            ·exact GoodR.new (us:=[(k,.dead)]) rfl hd (by simp) (fun u hu=>by simp[objVs]at hu) (fun q hq=>by
              simp only[List.mem_singleton]at hq;subst hq;exact⟨.inr ⟨hop k (by simp[keysV]),by rw[hcl];simp,by rw[hk];simp,fun hle=>by rw[hcl]at hle;omega⟩,by simp,fun u hu=>by simp[objVs]at hu⟩) (fun k hk=>by simpa [keysV]using hk)
            ·trivial
           ·trivial
          ·rename_i k o n hv;rw[hv]at hx hop;split
           ·rename_i s es ho hk;split
            ·exact GoodR.new (us:=[(k,.dead)]) rfl hd (by simp) (fun u hu=>by simp[objVs]at hu) (fun q hq=>by
              simp only[List.mem_singleton]at hq;subst hq;exact⟨.inr ⟨hop k (by simp[keysV]),by rw[hcl];simp,by rw[hk];simp,fun hle=>by rw[hcl]at hle;omega⟩,by simp,fun u hu=>by simp[objVs]at hu⟩) (fun k hk=>by simpa [keysV]using hk)
            ·trivial
           ·trivial
          ·trivial
         ·trivial
        ·trivial
       ·trivial
      ·trivial
   ·trivial
  ·split
   ·rename_i x hargs;have hop:∀k∈keysV (ρ x),k∈opk ⟨dst,.call ⟨.builtin .clear,args,ts⟩,ty,pos,after,g⟩ ρ ob:=fun k hk=>mem_opk (x:=x) (by
     simp only[Op.operands,Call.operands,Array.toList_append];exact List.mem_append_right _ (by rw[hargs];simp)) hk
    unfold clearV;split
    ·split
     ·split
      ·rename_i z k o l hz hv;rw[hv]at hop;split
       ·rename_i s es hk;split
        ·refine⟨fun p hp=>?_,fun k hk=>by simp[keysV]at hk⟩;simp only[List.mem_singleton]at hp;subst hp;exact⟨.inr ⟨hop k (by simp[keysV]),by simp[cls],by rw[hk];simp,fun hle=>by simp[cls]at hle⟩,by simp,fun u hu=>by simp[objVs]at hu⟩
        ·trivial
       ·trivial
      ·trivial
     ·trivial
    ·trivial
   ·trivial
  ·split
   ·exact mxV_good
   ·trivial
  ·split
   ·exact mxV_good
   ·trivial
  ·trivial
 |_=>trivial
end
end Eng
end

section
namespace Eng
open Go Go.RowKit
variable [Env]
omit [Env] in
theorem upd_swap {α:Type} (l:List α) (i j:Nat) (x y:α) (h:i≠j∨x=y):upd (upd l i x) j y=upd (upd l j y) i x:=by
 simp only[upd_eq];rcases h with h|rfl
 ·exact List.set_comm _ _ h
 ·by_cases hij:i=j
  ·subst hij;rfl
  ·exact List.set_comm _ _ hij
omit [Env] in
theorem upds_upd (k:Nat) (x:Obj):∀(b:List (Nat×Obj)) (ob:List Obj),(∀q∈b,q.1=k→q.2=x)→upds (upd ob k x) b=upd (upds ob b) k x
 |[],_,_=>rfl
 |(j,y)::b,ob,h=>by
  simp only[upds];rw[upd_swap ob k j x y (by
   by_cases hk:k=j
   ·exact .inr (h (j,y) (by simp) hk.symm).symm
   ·exact .inl hk),upds_upd k x b _ fun q hq=>h q (by simp[hq])]
omit [Env] in
theorem upds_swap:∀(a b:List (Nat×Obj)) (ob:List Obj),(∀p∈a,∀q∈b,q.1=p.1→q.2=p.2)→upds (upds ob a) b=upds (upds ob b) a
 |[],_,_,_=>rfl
 |(k,x)::a,b,ob,h=>by simp only[upds];rw[upds_swap a b _ fun p hp=>h p (by simp[hp]),upds_upd k x b ob fun q hq hk=>h (k,x) (by simp) q hq hk]
omit [Env] in
theorem nth_upds (d:Nat):∀(b:List (Nat×Obj)) (ob:List Obj),nth .none (upds ob b) d=nth .none ob d∨(nth .none (upds ob b) d= .none∧nth .none ob d= .none)∨∃p∈b,p.1=d∧nth .none (upds ob b) d=p.2
 |[],_=> .inl rfl
 |(k,x)::b,ob=>by
  simp only[upds];rcases nth_upds d b (upd ob k x)with h|⟨h1,h2⟩|⟨p,hp,h1,h2⟩
  ·rw[nth_upd]at h;split at h
   ·rename_i hk;exact .inr (.inr ⟨(k,x),by simp,hk.1,h⟩)
   ·exact .inl h
  ·by_cases hk:k=d∧k<ob.length
   ·rw[nth_upd,if_pos hk]at h2;exact .inr (.inr ⟨(k,x),by simp,hk.1,by rw[h1];exact h2.symm⟩)
   ·rw[nth_upd,if_neg hk]at h2;exact .inr (.inl ⟨h1,h2⟩)
  ·exact .inr (.inr ⟨p,by simp[hp],h1,h2⟩)
omit [Env] in
theorem length_upds:∀(b:List (Nat×Obj)) (ob:List Obj),(upds ob b).length=ob.length
 |[],_=>rfl
 |(k,x)::b,ob=>by simp only[upds];rw[length_upds b,upd_eq];simp
omit [Env] in
theorem nth_upds_out {d:Nat}:∀(b:List (Nat×Obj)) (ob:List Obj),(∀p∈b,p.1≠d)→nth .none (upds ob b) d=nth .none ob d
 |[],_,_=>rfl
 |(k,x)::b,ob,h=>by simp only[upds];rw[nth_upds_out b _ fun p hp=>h p (by simp[hp]),nth_upd_ne _ _ _ (h (k,x) (by simp))]
omit [Env] in
theorem nth_upds_there {d:Nat} {b:List (Nat×Obj)} {ob:List Obj} (h:∀p∈b,p.2≠ .none) (hd:nth .none ob d≠ .none):nth .none (upds ob b) d≠ .none:=by
 rcases nth_upds d b ob with h1|⟨_,h1⟩|⟨p,hp,_,h2⟩
 ·rw[h1];exact hd
 ·exact absurd h1 hd
 ·rw[h2];exact h p hp
omit [Env] in
theorem nth_upds_in {d:Nat}:∀{b:List (Nat×Obj)} {ob:List Obj},(∀p∈b,p.2≠ .none)→d<ob.length→(∃x,(d,x)∈b)→nth .none (upds ob b) d≠ .none
 |[],_,_,_,h=>by obtain⟨x,hx⟩:=h;exact absurd hx (by simp)
 |(k,x)::b,ob,h,hd,hx=>by
  simp only[upds];by_cases hk:k=d
  ·subst hk;exact nth_upds_there (fun p hp=>h p (by simp[hp])) (by rw[nth_upd_same _ _ _ hd];exact h (k,x) (by simp))
  ·obtain⟨y,hy⟩:=hx;refine nth_upds_in (fun p hp=>h p (by simp[hp])) (by rw[upd_eq];simpa using hd) ⟨y,?_⟩;rcases List.mem_cons.1 hy with hy|hy
   ·simp only[Prod.mk.injEq]at hy;exact absurd hy.1.symm hk
   ·exact hy
section
variable {C:Cx} {Gv:Nat→List A→List A→Prop} {ops:Array Oper}
def Out (Gv:Nat→List A→List A→Prop):R→V→List (Nat×Obj)→Prop
 | .fail,_,_=>False
 | .ok v up,v',up'=>v'=v∧up'=up
 | .cond (dc:=_) c v up,v',up'=>c∧v'=v∧up'=up
 | .look z row off ag,v',up'=>∃ds,cut row off z.length ds∧v'=(match ag with|true=> .ag ds|false=> .c (nth .undef ds 0))∧up'=[]
 | .call f as sh up,v',up'=>∃rs,Gv f as rs∧(hasSlice sh=false→∀r∈rs,flatA r=true)∧v'=resV rs∧up'=up
def Wants (ops:Array Oper) (o:Oper) (tmps:List V) (b:Bool):Prop:=
 match o.guard with
 |none=>b=true
 |some (j,want)=>∃t,guardT ops j=some t∧((∃c,nth .any tmps t= .c (.bool c)∧b=(c==want))∨(nth .any tmps t= .no∧b=false))
def Stp (C:Cx) (Gv:Nat→List A→List A→Prop) (ops:Array Oper) (o:Oper) (s:St) (v:V) (up:List (Nat×Obj)):Prop:=
 ∃b,Wants ops o s.tmps b∧if b then Out Gv (opFn C o (ev s) s.objs) v up else v= .no∧up=[]
structure RecOk (C:Cx) (o:Oper) (s:St) (up:List (Nat×Obj)) (rc:Rec):Prop where
 reads:cls C o≠0→∀k∈opk o (ev s) s.objs,k∈rc.1
 ups:∀p∈up,p.1∈rc.2
def Tr (C:Cx) (Gv:Nat→List A→List A→Prop) (ops:Array Oper) (rc:Nat→Rec):List Nat→St→St→Prop
 |[],s,s'=>s.tmps=s'.tmps∧s.objs=s'.objs
 |i::r,s,s'=>∃o,ops[i]? =some o∧∃v up,Stp C Gv ops o s v up∧RecOk C o s up (rc i)∧Tr C Gv ops rc r (s.put o.dst v up) s'
omit [Env] in
theorem ev_same {s s':St} (h:s.tmps=s'.tmps):ev s=ev s':=by
 funext x;cases x with
 |tmp t=>simp only[ev,h]
 |_=>rfl
omit [Env] in
theorem Stp.same {o:Oper} {s s':St} {v:V} {up:List (Nat×Obj)} (h:Stp C Gv ops o s v up) (h1:s.tmps=s'.tmps) (h2:s.objs=s'.objs):Stp C Gv ops o s' v up:=by
 unfold Stp at *;rw[←h1,←h2,←ev_same h1];exact h
omit [Env] in
theorem RecOk.same {o:Oper} {s s':St} {up:List (Nat×Obj)} {rc:Rec} (h:RecOk C o s up rc) (h1:s.tmps=s'.tmps) (h2:s.objs=s'.objs):RecOk C o s' up rc:=⟨by rw[←ev_same h1,←h2];exact h.reads,h.ups⟩
omit [Env] in
theorem Tr.same {rc:Nat→Rec}:∀{l:List Nat} {s s' e:St},Tr C Gv ops rc l s e→s.tmps=s'.tmps→s.objs=s'.objs→Tr C Gv ops rc l s' e
 |[],_,_,_,h,h1,h2=>⟨h1.symm.trans h.1,h2.symm.trans h.2⟩
 |i::r,s,s',e,h,h1,h2=>by obtain⟨o,ho,v,up,hs,hr,ht⟩:=h;exact⟨o,ho,v,up,hs.same h1 h2,hr.same h1 h2,ht.same (by simp only[St.put,h1]) (by simp only[St.put,h2])⟩
omit [Env] in
theorem Tr.recs {rc rc':Nat→Rec}:∀{l:List Nat} {s e:St},Tr C Gv ops rc l s e→(∀i∈l,rc i=rc' i)→Tr C Gv ops rc' l s e
 |[],_,_,h,_=>h
 |i::r,s,e,h,he=>by obtain⟨o,ho,v,up,hs,hr,ht⟩:=h;exact⟨o,ho,v,up,hs,by rw[←he i (by simp)];exact hr,ht.recs fun j hj=>he j (by simp[hj])⟩
omit [Env] in
theorem opW_out {o:Oper} {s:St} {K:St→Prop} (h:opW C Gv o s K):∃v up,Out Gv (opFn C o (ev s) s.objs) v up∧K (s.put o.dst v up):=by
 unfold opW at h;generalize opFn C o (ev s) s.objs=r at *;cases r with
 |fail=>exact h.elim
 |ok v up=>exact⟨v,up,⟨rfl,rfl⟩,h⟩
 |cond c v up=>exact⟨v,up,⟨h.1,rfl,rfl⟩,h.2⟩
 |look z row off ag=>obtain⟨ds,h1,_⟩:=exCells_spec h;exact⟨_,[],⟨ds,h1.1,rfl,rfl⟩,h1.2⟩
 |call f as sh up=>obtain⟨rs,h1,h2⟩:=exRes_spec h;exact⟨_,up,⟨rs,h1.1,h2,rfl,rfl⟩,h1.2⟩
omit [Env] in
theorem upd_nth {α:Type} (d:α) (l:List α) (i:Nat) (x:α) (h:nth d l i=x):upd l i x=l:=by
 rw[upd_eq];apply List.ext_getElem?;intro j;rw[List.getElem?_set];split
 ·rename_i hij;subst hij;split
  ·rename_i hlt;rw[nth_of_lt _ hlt]at h;rw[List.getElem?_eq_getElem hlt,h]
  ·rename_i hlt;rw[List.getElem?_eq_none (Nat.not_lt.1 hlt)]
 ·rfl
omit [Env] in
theorem stepW_out {o:Oper} {s:St} {K:St→Prop} (h:stepW C Gv ops o s K):∃v up,Stp C Gv ops o s v up∧K (s.put o.dst v up):=by
 unfold stepW at h;split at h
 ·rename_i hg;obtain⟨v,up,h1,h2⟩:=opW_out h;exact⟨v,up,⟨true,by unfold Wants;rw[hg],by rw[if_pos rfl];exact h1⟩,h2⟩
 ·rename_i j want hg;split at h
  ·exact h.elim
  ·rename_i t ht;split at h
   ·rename_i d hd;have hb:∃c,d= .bool c:=by
     cases d with
     |bool c=>exact⟨c,rfl⟩
     |_=>exact h.elim
    obtain⟨c,rfl⟩:=hb;have hw:∀b,b=(c==want)→Wants ops o s.tmps b:=fun b hb=>by unfold Wants;rw[hg];exact⟨t,ht,.inl ⟨c,hd,hb⟩⟩
    have hs:(⟨upd s.tmps t (.c (.bool c)),s.objs,s.dirty⟩:St)=s:=by rw[upd_nth _ _ _ _ hd]
    cases c<;>cases want<;>simp only[cnd,isB,br,toB]at h<;>rw[hs]at h
    ·obtain⟨v,up,h1,h2⟩:=opW_out h;exact⟨v,up,⟨true,hw _ rfl,by rw[if_pos rfl];exact h1⟩,h2⟩
    ·exact⟨.no,[],⟨false,hw _ rfl,by simp⟩,h⟩
    ·exact⟨.no,[],⟨false,hw _ rfl,by simp⟩,h⟩
    ·obtain⟨v,up,h1,h2⟩:=opW_out h;exact⟨v,up,⟨true,hw _ rfl,by rw[if_pos rfl];exact h1⟩,h2⟩
   ·rename_i hd;exact⟨.no,[],⟨false,by unfold Wants;rw[hg];exact⟨t,ht,.inr ⟨hd,rfl⟩⟩,by simp⟩,h⟩
   ·exact h.elim
structure WF (s:St):Prop where
 tmps:∀v∈s.tmps,∀k∈keysV v,nth .none s.objs k≠ .none
 objs:∀k,∀u∈objVs (nth .none s.objs k),∀j∈keysV u,nth .none s.objs j≠ .none
omit [Env] in
theorem keys_un (v:V):keysV (un v)=keysV v:=by cases v<;>rfl
omit [Env] in
theorem WF.ev {s:St} (h:WF s) (x:Operand):∀k∈keysV (ev s x),nth .none s.objs k≠ .none:=by
 cases x with
 |tmp t=>
  simp only[Eng.ev];by_cases ht:t<s.tmps.length
  ·rw[nth_of_lt _ ht,keys_un];exact h.tmps _ (List.getElem_mem ht)
  ·rw[nth_big _ (Nat.not_lt.1 ht)];intro k hk;simp[keysV,un]at hk
 |const v=>intro k hk;simp only[Eng.ev,keys_const]at hk;simp at hk
 |global g=>intro k hk;simp[Eng.ev,keysV]at hk
 |func f=>intro k hk;simp[Eng.ev,keysV]at hk
omit [Env] in
theorem keys_resV (rs:List A):keysV (resV rs)=[]:=by
 unfold resV;split<;>first|rfl|(split<;>rfl)
theorem Stp.good [EffOk C] {o:Oper} {s:St} {v:V} {up:List (Nat×Obj)} (hs:WF s) (h:Stp C Gv ops o s v up):(∀p∈up,UOk C o (Eng.ev s) s.objs up p)∧VOk s.objs up v:=by
 obtain⟨b,_,h⟩:=h;cases b with
 |false=>obtain⟨rfl,rfl⟩:=h;exact⟨fun _ h=>absurd h (by simp),fun k hk=>by simp[keysV]at hk⟩
 |true=>
  rw[if_pos rfl]at h;have hg:=opFn_good (C:=C) (o:=o) (ρ:=Eng.ev s) (ob:=s.objs) hs.ev hs.objs;generalize opFn C o (Eng.ev s) s.objs=r at *;cases r with
  |fail=>exact h.elim
  |ok v up=>obtain⟨rfl,rfl⟩:=h;exact hg
  |cond c v up=>obtain⟨_,rfl,rfl⟩:=h;exact hg
  |look z row off ag=>obtain⟨ds,_,rfl,rfl⟩:=h;exact⟨fun _ h=>absurd h (by simp),fun k hk=>by cases ag<;>simp[keysV]at hk⟩
  |call f as sh up=>obtain⟨rs,_,_,rfl,rfl⟩:=h;exact⟨hg,fun k hk=>by rw[keys_resV]at hk;simp at hk⟩
theorem WF.put [EffOk C] {o:Oper} {s:St} {v:V} {up:List (Nat×Obj)} (hs:WF s) (h:Stp C Gv ops o s v up):WF (s.put o.dst v up):=by
 obtain⟨hu,hv⟩:=h.good hs;have hne:∀p∈up,p.2≠ .none:=fun p hp=>(hu p hp).2.1
 have hvo:∀v,VOk s.objs up v→∀k∈keysV v,nth .none (upds s.objs up) k≠ .none:=fun v hv k hk=>by
  rcases hv k hk with h1|⟨h1,h2⟩
  ·exact nth_upds_there hne h1
  ·exact nth_upds_in hne (freeKey_ok h1).2 h2
 have hvk:=hvo v hv;refine⟨fun u hu' k hk=>?_,fun k u hu' j hj=>?_⟩
 ·have hold:u∈s.tmps→nth .none (upds s.objs up) k≠ .none:=fun h1=>nth_upds_there hne (hs.tmps u h1 k hk)
  simp only[St.put]at hu';cases hd:o.dst with
  |none=>rw[hd]at hu';exact hold hu'
  |some t=>
   rw[hd]at hu';rcases mem_upd hu' with h1|rfl
   ·exact hold h1
   ·exact hvk k hk
 ·change nth .none (upds s.objs up) j≠ .none;change u∈objVs (nth .none (upds s.objs up) k)at hu';rcases nth_upds k up s.objs with h1|⟨h1,_⟩|⟨p,hp,_,h2⟩
  ·rw[h1]at hu';exact nth_upds_there hne (hs.objs k u hu' j hj)
  ·rw[h1]at hu';simp[objVs]at hu'
  ·rw[h2]at hu';exact hvo u ((hu p hp).2.2 u hu') j hj
omit [Env] in
theorem memN_iff {n:Nat}:∀{l:List Nat},memN n l=true↔n∈l
 |[]=>by simp[memN]
 |m::r=>by
  unfold memN;split
  ·rename_i h;have:=Nat.eq_of_beq_eq_true h;simp[this]
  ·rename_i h;have:n≠m:=fun e=>by subst e;simp at h
   rw[memN_iff];simp[this]
omit [Env] in
theorem disj_iff {a l:List Nat} (h:disj a l=true):∀x∈a,x∉l:=by
 induction a with
 |nil=>intro x hx;simp at hx
 |cons y r ih=>
  simp only[disj,Bool.and_eq_true,Bool.not_eq_true']at h;intro x hx;rcases List.mem_cons.1 hx with rfl|hx
  ·intro hm;rw[memN_iff.2 hm]at h;simp at h
  ·exact ih h.2 x hx
def FreeD (ra rb:Rec):Prop:=(∀k∈ra.2,k∉rb.1)∧(∀k∈rb.2,k∉ra.1)∧(∀k∈ra.2,k∉rb.2)
structure Free (C:Cx) (ops:Array Oper) (a b:Oper) (ra rb:Rec):Prop where
 dd:∀d,d∈newL C a→d∉newL C b
 al:∀d,a.dst=some d→ .tmp d∉b.op.operands.toList
 ag:∀d,a.dst=some d→∀j w,b.guard=some (j,w)→guardT ops j≠some d
 bl:∀d,b.dst=some d→ .tmp d∉a.op.operands.toList
 bg:∀d,b.dst=some d→∀j w,a.guard=some (j,w)→guardT ops j≠some d
 cl:(cls C a=0∨cls C b=0∨(cls C a=1∧cls C b=1))∨FreeD ra rb
omit [Env] in
theorem Free.symm {a b:Oper} {ra rb:Rec} (h:Free C ops a b ra rb):Free C ops b a rb ra:=
 ⟨fun d h1 h2=>h.dd d h2 h1,h.bl,h.bg,h.al,h.ag,by
  rcases h.cl with(h|h|h)|h
  ·exact .inl (.inr (.inl h))
  ·exact .inl (.inl h)
  ·exact .inl (.inr (.inr ⟨h.2,h.1⟩))
  ·exact .inr ⟨h.2.1,h.1,fun k hk hk'=>h.2.2 k hk' hk⟩⟩
omit [Env] in
theorem freeS_ok {a b:Oper} {ra rb:Rec} (h:freeS C ops.toList a b=true) (hc:(cls C a=0∨cls C b=0∨(cls C a=1∧cls C b=1))∨FreeD ra rb):Free C ops a b ra rb:=by
 simp only[freeS,Bool.and_eq_true]at h;obtain⟨⟨h1,h2⟩,h3⟩:=h;have dl:∀{o:Oper} {d:Nat},o.dst=some d→d∈dstL o:=fun{o} {d} h=>by simp[dstL,h]
 have lo:∀{o:Oper} {d:Nat},.tmp d∈o.op.operands.toList→d∈looks ops.toList o:=fun{o} {d} h=>
  List.mem_append_left _ (List.mem_flatMap.2 ⟨_,h,by simp[slotOf]⟩)
 have lg:∀{o:Oper} {d:Nat} {j:Nat} {w:Bool},o.guard=some (j,w)→guardT ops j=some d→d∈looks ops.toList o:=fun{o} {d} {j} {w} h hg=>by
  refine List.mem_append_right _ ?_;rw[h];unfold guardT at hg;split at hg
  ·rename_i g hj;have:nth default ops.toList j=g:=by rw[nth_eq];simp[hj]
   dsimp only
   rw[this,hg];simp
  ·simp at hg
 exact⟨fun d ha hb=>disj_iff h1 d ha hb,fun d ha hb=>disj_iff h2 d (dl ha) (lo hb),fun d ha j w hg ht=>disj_iff h2 d (dl ha) (lg hg ht),fun d hb ha=>disj_iff h3 d (dl hb) (lo ha),
  fun d hb j w hg ht=>disj_iff h3 d (dl hb) (lg hg ht),hc⟩
omit [Env] in
theorem freeC_ok {a b:Oper} (h:freeC C a b=true):cls C a=0∨cls C b=0∨(cls C a=1∧cls C b=1):=by
 simp only[freeC,Bool.or_eq_true,Bool.and_eq_true]at h;rcases h with(h4|h4)|h4
 ·exact .inl (Nat.eq_of_beq_eq_true h4)
 ·exact .inr (.inl (Nat.eq_of_beq_eq_true h4))
 ·exact .inr (.inr ⟨Nat.eq_of_beq_eq_true h4.1,Nat.eq_of_beq_eq_true h4.2⟩)
omit [Env] in
theorem free2_ok {a b:Oper} {ra rb:Rec} (h:free2 C ops.toList a b=true):Free C ops a b ra rb:=by
 simp only[free2,Bool.and_eq_true]at h;exact freeS_ok h.1 (.inl (freeC_ok h.2))
omit [Env] in
theorem free2R_ok {a b:Oper} {ra rb:Rec} (h:free2R C ops.toList a b ra rb=true):Free C ops a b ra rb:=by
 simp only[free2R,Bool.and_eq_true,Bool.or_eq_true]at h;refine freeS_ok h.1 ?_;rcases h.2 with h|h
 ·exact .inl (freeC_ok h)
 ·simp only[freeD,Bool.and_eq_true]at h;exact .inr ⟨disj_iff h.1.1,disj_iff h.1.2,disj_iff h.2⟩
omit [Env] in
theorem ev_put {s:St} {dst:Option Nat} {v:V} {up:List (Nat×Obj)} {x:Operand} (h:∀d,dst=some d→x≠ .tmp d):ev (s.put dst v up) x=ev s x:=by
 cases x with
 |tmp t=>
  simp only[ev,St.put];cases dst with
  |none=>rfl
  |some d=>exact congrArg un (nth_upd_ne _ _ _ fun e=>h d rfl (by rw[e]))
 |_=>rfl
omit [Env] in
theorem opkL_put {a b:Oper} {ra rb:Rec} {s:St} {va:V} {ua:List (Nat×Obj)} (hf:Free C ops a b ra rb):opkL (ev (s.put a.dst va ua)) b.op.operands.toList=opkL (ev s) b.op.operands.toList:=by
 have hev:∀x∈b.op.operands.toList,ev (s.put a.dst va ua) x=ev s x:=fun x hx=>ev_put fun d hd hxd=>hf.al d hd (hxd▸hx)
 have:∀l:List Operand,(∀x∈l,ev (s.put a.dst va ua) x=ev s x)→opkL (ev (s.put a.dst va ua)) l=opkL (ev s) l:=by
  intro l
  induction l with
  |nil=>intro _;rfl
  |cons x l ih=>intro h;simp only[opkL];rw[h x (by simp),ih fun y hy=>h y (by simp[hy])]
 exact this _ hev
omit [Env] in
theorem opkL_there {b:Oper} {s:St} (hs:WF s):∀k∈opkL (ev s) b.op.operands.toList,nth .none s.objs k≠ .none:=fun k hk=>by
 rw[opkL_eq]at hk;obtain⟨x,_,hx⟩:=List.mem_flatMap.1 hk;exact hs.ev x k hx
omit [Env] in
theorem deepK_congr {ob ob':List Obj}:∀{l:List Nat},(∀k∈l,nth .none ob k=nth .none ob' k∨∃s es fz s' es' fz',nth .none ob k= .arr s es fz∧nth .none ob' k= .arr s' es' fz')→deepK ob l=deepK ob' l
 |[],_=>rfl
 |k::r,h=>by
  simp only[deepK];rw[deepK_congr fun j hj=>h j (by simp[hj])];rcases h k (by simp)with h1|⟨s,es,fz,s',es',fz',h1,h2⟩
  ·rw[h1]
  ·rw[h1,h2]
omit [Env] in
theorem deepB_congr {ob ob':List Obj}:∀{l:List Nat},(∀k∈l,nth .none ob k=nth .none ob' k∨∃s es fz s' es' fz',nth .none ob k= .arr s es fz∧nth .none ob' k= .arr s' es' fz')→deepB ob l=deepB ob' l
 |[],_=>rfl
 |k::r,h=>by
  simp only[deepB];rw[deepB_congr fun j hj=>h j (by simp[hj])];rcases h k (by simp)with h1|⟨s,es,fz,s',es',fz',h1,h2⟩
  ·rw[h1]
  ·rw[h1,h2]
omit [Env] in
theorem opk_sub {o:Oper} {ρ:Operand→V} {ob:List Obj}:∀k∈opkL ρ o.op.operands.toList,k∈opk o ρ ob:=fun k hk=>by
 unfold opk;split
 ·exact mem_deepB.2 ⟨k,hk,.inl rfl⟩
 ·exact mem_deepK.2 ⟨k,hk,.inl rfl⟩
theorem opk_put [EffOk C] {a b:Oper} {ra rb:Rec} {s:St} {va:V} {ua:List (Nat×Obj)} (hs:WF s) (hf:Free C ops a b ra rb) (ha:Stp C Gv ops a s va ua) (hra:∀p∈ua,p.1∈ra.2) (hb0:cls C b≠0) (hrl:∀k∈opkL (ev s) b.op.operands.toList,k∈rb.1):
 opk b (ev (s.put a.dst va ua)) (s.put a.dst va ua).objs=opk b (ev s) s.objs:=by
 have key:∀k∈opkL (ev s) b.op.operands.toList,nth .none (upds s.objs ua) k=nth .none s.objs k∨∃sz es fz s' es' fz',nth .none (upds s.objs ua) k= .arr sz es fz∧nth .none s.objs k= .arr s' es' fz':=?_
 ·unfold opk;rw[opkL_put hf];split
  ·exact deepB_congr key
  ·exact deepK_congr key
 obtain⟨hu,_⟩:=ha.good hs;intro k hk;have hthere:=opkL_there hs k hk;change nth .none (upds s.objs ua) k=_∨_;rcases nth_upds k ua s.objs with h1|⟨_,h1⟩|⟨p,hp,rfl,h2⟩
 ·exact .inl h1
 ·exact absurd h1 hthere
 ·rcases(hu p hp).1 with⟨_,h3⟩|⟨_,h3,_,h4⟩
  ·exact absurd (freeKey_ok h3).1 hthere
  ·rcases hf.cl with(h|h|h)|h
   ·exact absurd h h3
   ·exact absurd h hb0
   ·obtain⟨sz,es,fz,h5,h6⟩:=h4 (by omega);exact .inr ⟨_,_,_,_,_,_,h2.trans h6,h5⟩
   ·exact absurd (hrl _ hk) (h.1 _ (hra p hp))
theorem Stp.indep [EffOk C] {a b:Oper} {ra rb:Rec} {s:St} {va vb:V} {ua ub:List (Nat×Obj)} (hs:WF s) (hf:Free C ops a b ra rb) (ha:Stp C Gv ops a s va ua) (hra:∀p∈ua,p.1∈ra.2) (hrb:cls C b≠0→∀k∈opk b (ev s) s.objs,k∈rb.1):
 Stp C Gv ops b (s.put a.dst va ua) vb ub↔Stp C Gv ops b s vb ub:=by
 obtain⟨hu,_⟩:=ha.good hs;have hev:∀x∈b.op.operands.toList,ev (s.put a.dst va ua) x=ev s x:=fun x hx=>ev_put fun d hd hxd=>hf.al d hd (hxd▸hx)
 have hw:∀c,Wants ops b (s.put a.dst va ua).tmps c↔Wants ops b s.tmps c:=fun c=>by
  unfold Wants;split
  ·exact Iff.rfl
  ·rename_i j want hg;have:∀t,guardT ops j=some t→nth .any (s.put a.dst va ua).tmps t=nth .any s.tmps t:=fun t ht=>by
    simp only[St.put];cases hd:a.dst with
    |none=>rfl
    |some d=>exact nth_upd_ne _ _ _ fun e=>hf.ag d hd j want hg (by rw[ht,e])
   constructor
   ·rintro⟨t,h1,h2⟩;exact⟨t,h1,by rw[←this t h1];exact h2⟩
   ·rintro⟨t,h1,h2⟩;exact⟨t,h1,by rw[this t h1];exact h2⟩
 have hop:opFn C b (ev (s.put a.dst va ua)) (s.put a.dst va ua).objs=opFn C b (ev s) s.objs:=by
  rw[opFn_congr hev];refine Eq.symm (opFn_ag ?_ fun d hd=>?_)
  ·by_cases hb:cls C b=0
   ·exact .inl hb
   ·refine .inr fun k hk=>?_
    have hthere:nth .none s.objs k≠ .none:=by
     unfold opk at hk;split at hk
     ·obtain⟨j,h1,h2⟩:=mem_deepB.1 hk;rcases h2 with rfl|⟨q,hq,h2⟩
      ·exact opkL_there hs k h1
      ·exact hs.objs j q hq k h2
     ·obtain⟨j,h1,h2⟩:=mem_deepK.1 hk;rcases h2 with rfl|⟨T,q,hq,h2⟩
      ·exact opkL_there hs k h1
      ·exact hs.objs j q (by rw[hq];simp[objVs]) k h2
    refine Ag.symm ?_;change Ag _ (nth .none (upds s.objs ua) k) _;rcases nth_upds k ua s.objs with h1|⟨_,h1⟩|⟨p,hp,rfl,h2⟩
    ·exact .inl h1
    ·exact absurd h1 hthere
    ·rcases(hu p hp).1 with⟨_,h3⟩|⟨_,h3,_,h4⟩
     ·exact absurd (freeKey_ok h3).1 hthere
     ·have hca:cls C a=1∧cls C b=1:=by
       rcases hf.cl with(h|h|h)|h
       ·exact absurd h h3
       ·exact absurd h hb
       ·exact h
       ·exact absurd (hrb hb _ hk) (h.1 _ (hra p hp))
      obtain⟨sz,es,fz,h5,h6⟩:=h4 (by omega);exact .inr ⟨by omega,sz,es,true,fz,by rw[h2,h6],h5⟩
  ·refine Eq.symm ?_;have hne:∀p∈ua,p.2≠ .none:=fun p hp=>(hu p hp).2.1
   change freeKey (upds s.objs ua) d=_;by_cases hex:∃p∈ua,p.1=d
   ·obtain⟨p,hp,rfl⟩:=hex;rcases(hu p hp).1 with⟨h3,_⟩|⟨_,_,h3,_⟩
    ·exact absurd hd (hf.dd _ h3)
    ·have h4:=nth_upds_there hne h3;have hf':∀{ob:List Obj} {d:Nat},nth .none ob d≠ .none→freeKey ob d=false:=fun{ob} {d} h=>by
      cases hfk:freeKey ob d
      ·rfl
      ·exact absurd (freeKey_ok hfk).1 h
     rw[hf' h3,hf' h4]
   ·have:nth .none (upds s.objs ua) d=nth .none s.objs d:=nth_upds_out _ _ fun p hp e=>hex ⟨p,hp,e⟩
    have hl:=length_upds ua s.objs;unfold freeKey;by_cases hlt:d<s.objs.length
    ·rw[nth_of_lt _ hlt,nth_of_lt _ (by rw[hl];exact hlt)];rw[nth_of_lt _ hlt,nth_of_lt _ (by rw[hl];exact hlt)]at this;rw[this]
    ·rw[nth_big (l:=upds s.objs ua) _ (by rw[hl];exact Nat.not_lt.1 hlt),nth_big (l:=s.objs) _ (Nat.not_lt.1 hlt)]
 unfold Stp;rw[hop];constructor
 ·rintro⟨c,h1,h2⟩;exact⟨c,(hw c).1 h1,h2⟩
 ·rintro⟨c,h1,h2⟩;exact⟨c,(hw c).2 h1,h2⟩
theorem Stp.swap [EffOk C] {a b:Oper} {ra rb:Rec} {s:St} {va vb:V} {ua ub:List (Nat×Obj)} (hs:WF s) (hf:Free C ops a b ra rb) (ha:Stp C Gv ops a s va ua) (hra:RecOk C a s ua ra) (hb:Stp C Gv ops b (s.put a.dst va ua) vb ub) (hrb:RecOk C b (s.put a.dst va ua) ub rb):
 (Stp C Gv ops b s vb ub∧RecOk C b s ub rb)∧(Stp C Gv ops a (s.put b.dst vb ub) va ua∧RecOk C a (s.put b.dst vb ub) ua ra)∧((s.put a.dst va ua).put b.dst vb ub).tmps=((s.put b.dst vb ub).put a.dst va ua).tmps∧
  ((s.put a.dst va ua).put b.dst vb ub).objs=((s.put b.dst vb ub).put a.dst va ua).objs:=by
 have hrb':RecOk C b s ub rb:=⟨fun hb0=>by
  have hl:∀k∈opkL (ev s) b.op.operands.toList,k∈rb.1:=fun k hk=>hrb.reads hb0 k (by
   exact opk_sub k (by rw[opkL_put hf];exact hk))
  rw[←opk_put hs hf ha hra.ups hb0 hl];exact hrb.reads hb0,hrb.ups⟩
 have hb':=(ha.indep hs hf hra.ups hrb'.reads).1 hb;refine⟨⟨hb',hrb'⟩,⟨(hb'.indep hs hf.symm hrb.ups hra.reads).2 ha,fun ha0=>by
  rw[opk_put hs hf.symm hb' hrb.ups ha0 fun k hk=>hra.reads ha0 k (opk_sub k hk)];exact hra.reads ha0,hra.ups⟩,?_,?_⟩
 ·simp only[St.put];cases hda:a.dst with
  |none=>rfl
  |some d=>
   cases hdb:b.dst with
   |none=>rfl
   |some e=>exact upd_swap _ _ _ _ _ (.inl fun he=>hf.dd d (dst_newL hda) (dst_newL (by rw[hdb,he])))
 ·simp only[St.put];refine upds_swap _ _ _ fun p hp q hq hpq=>?_
  have hp':=((ha.good hs).1 p hp).1;have hq':=((hb'.good hs).1 q hq).1;rcases hp' with⟨h1,h2⟩|⟨_,h1,h2,h3⟩
  ·rcases hq' with⟨h4,h5⟩|⟨_,_,h4,_⟩
   ·exact absurd (hpq▸h4) (hf.dd _ h1)
   ·rw[hpq]at h4;exact absurd (freeKey_ok h2).1 h4
  ·rcases hq' with⟨h4,h5⟩|⟨_,h4,_,h6⟩
   ·rw[hpq]at h5;exact absurd (freeKey_ok h5).1 h2
   ·have hca:cls C a=1∧cls C b=1:=by
     rcases hf.cl with(h|h|h)|h
     ·exact absurd h h1
     ·exact absurd h h4
     ·exact h
     ·exact absurd (hpq▸hrb.ups q hq) (h.2.2 _ (hra.ups p hp))
    obtain⟨sz,es,fz,h7,h8⟩:=h3 (by omega);obtain⟨sz',es',fz',h9,h10⟩:=h6 (by omega);rw[hpq,h7]at h9;simp only[Obj.arr.injEq]at h9;obtain⟨rfl,rfl,_⟩:=h9;rw[h8,h10]
theorem Tr.front [EffOk C] {rc:Nat→Rec} {i:Nat} {o:Oper} (ho:ops[i]? =some o):∀{pre post:List Nat} {s e:St},WF s→(∀j∈pre,∀b,ops[j]? =some b→Free C ops b o (rc j) (rc i))→Tr C Gv ops rc (pre++i::post) s e→Tr C Gv ops rc (i::(pre++post)) s e
 |[],post,s,e,_,_,h=>h
 |j::pre,post,s,e,hs,hf,h=>by
  obtain⟨b,hb,vb,ub,h1,hr1,h2⟩:=h;obtain⟨o',ho',v,up,h3,hr3,h4⟩:=Tr.front ho (hs.put h1) (fun j' hj'=>hf j' (by simp[hj'])) h2;obtain rfl:o=o':=by rw[ho]at ho';exact Option.some.inj ho'
  obtain⟨h5,h6,h7,h8⟩:=h1.swap hs (hf j (by simp) b hb) hr1 h3 hr3;exact⟨o,ho,v,up,h5.1,h5.2,b,hb,vb,ub,h6.1,h6.2,h4.same h7 h8⟩
end
end Eng
end

section
namespace Eng
open Go Go.RowKit
variable [Env]
section
variable {C:Cx} {B:Bd} {F0:Nat→Prop} {w0:World} {ops:Array Oper} {Q:Exit→Act→World→Prop}
theorem has_same {s s':St} {a:Act} {w:World} (h:St.has C B F0 w0 s a w) (h1:s.tmps=s'.tmps) (h2:s.objs=s'.objs):St.has C B F0 w0 s' a w:=by
 obtain⟨F,loc,h⟩:=h;obtain⟨t,o,d⟩:=s;obtain⟨t',o',d'⟩:=s';subst h1 h2;exact⟨F,loc,h.redirty⟩
theorem wanted_ok {o:Oper} {s:St} {a:Act} {w:World} {F:Nat→Prop} {loc:Where} {b:Bool} (h:Conc C B F0 w0 F loc s a w) (hw:Wants ops o s.tmps b):Region.wanted o (yielded ops a.tmps)=b:=by
 unfold Wants at hw;unfold Region.wanted;split at hw
 ·rename_i hg;rw[hg];exact hw.symm
 ·rename_i j want hg;obtain⟨t,h1,hw⟩:=hw;rw[hg];rcases hw with⟨c,h2,rfl⟩|⟨h2,rfl⟩
  rotate_left
  ·have ht:t<s.tmps.length:=by
    rcases Nat.lt_or_ge t s.tmps.length with h|h
    ·exact h
    ·rw[nth_big _ h]at h2;simp at h2
   have hv:=h.tmps.nth .any undef _ _ t ht;rw[h2,nth_getD]at hv;have hval:a.tmps.getD t undef=undef:=hv;have ht':t<a.tmps.size:=by have:=h.tmps.length;simpa [this]using ht
   have hy:yielded ops a.tmps j=none:=by
    unfold yielded;unfold guardT at h1;split at h1
    ·rename_i g hj;have:a.tmps[t]? =some undef:=by rw[Array.getElem?_eq_getElem ht'];simp[Array.getD,ht']at hval;rw[hval]
     simp[hj,h1,this,undef]
    ·simp at h1
   dsimp only
   rw[hy];cases want<;>rfl
  have ht:t<s.tmps.length:=by
   rcases Nat.lt_or_ge t s.tmps.length with h|h
   ·exact h
   ·rw[nth_big _ h]at h2;simp at h2
  have hv:=h.tmps.nth .any undef _ _ t ht;rw[h2,nth_getD]at hv;have hval:a.tmps.getD t undef= .bool c:=(fun(x:Value) (hx:CD w F (.bool c) x)=>(by cases hx;rfl:x= .bool c)) _ hv;have ht':t<a.tmps.size:=by have:=h.tmps.length;simpa [this]using ht
  have hy:yielded ops a.tmps j=some c:=by
   unfold yielded;unfold guardT at h1;split at h1
   ·rename_i g hj;have:a.tmps[t]? =some (.bool c):=by rw[Array.getElem?_eq_getElem ht'];simp[Array.getD,ht']at hval;rw[hval]
    simp[hj,h1,this]
   ·simp at h1
  dsimp only
  rw[hy];cases c<;>cases want<;>rfl
theorem Stp.wp [EffOk C] {o:Oper} {i:Nat} {s:St} {a:Act} {w:World} {v:V} {up:List (Nat×Obj)} {K:Act→World→Prop} (ho:ops[i]? =some o) (h:St.has C B F0 w0 s a w) (hs:Stp C (Gives C) ops o s v up)
 (hK:∀a' w',St.has C B F0 w0 (s.put o.dst v up) a' w'→K a' w'):wpOp C.P ops Q i K a w:=by
 obtain⟨F,loc,h⟩:=h;obtain⟨b,hw,hs⟩:=hs;unfold wpOp;rw[ho]
 dsimp only
 rw[wanted_ok h hw];cases b with
 |false=>obtain⟨rfl,rfl⟩:=hs;rw[if_neg (by simp)];exact hK _ _ ⟨F,loc,h.pure (v:= .no) rfl trivial⟩
 |true=>
  rw[if_pos rfl]at hs ⊢;refine .inl ?_;have hr:=op_RS (o:=o) h;generalize opFn C o (ev s) s.objs=r at *;cases r with
  |fail=>exact hs.elim
  |ok v up=>obtain⟨rfl,rfl⟩:=hs;exact hr K Q hK
  |cond c v up=>obtain⟨hc,rfl,rfl⟩:=hs;exact hr hc K Q hK
  |look z row off ag=>obtain⟨ds,hc,rfl,rfl⟩:=hs;exact hr ds hc K Q hK
  |call f as sh up=>obtain⟨rs,h1,h2,rfl,rfl⟩:=hs;exact hr rs h1 h2 K Q hK
theorem has_WF {s:St} {a:Act} {w:World} (h:St.has C B F0 w0 s a w):WF s:=by
 obtain⟨F,loc,h⟩:=h;have hk:∀v,Ref s.objs v→∀k∈keysV v,nth .none s.objs k≠ .none:=fun v hv k hk=>by
  cases v<;>simp only[keysV,List.mem_singleton,List.not_mem_nil]at hk<;>first|(subst hk;exact hv)|exact hv k hk
 refine⟨fun v hv=>hk v (h.refs v hv),fun k u hu=>hk u ?_⟩;have:=h.objs k;cases hc:nth .none s.objs k with
 |box cells=>rw[hc]at this hu;obtain⟨_,_,_,_,_,_,_,_,h5⟩:=this;exact h5 u hu
 |vec cells=>rw[hc]at this hu;obtain⟨_,_,_,_,_,_,_,_,_,_,h5,_⟩:=this;exact h5 u hu
 |bld T q=>rw[hc]at this hu;obtain⟨_,_,_,_,_,_,_,_,_,h5⟩:=this;simp[objVs]at hu;subst hu;exact h5.1
 |_=>rw[hc]at hu;simp[objVs]at hu
theorem tr_wpOps [EffOk C] {rc:Nat→Rec}:∀{l:List Nat} {s e:St} {a:Act} {w:World},Tr C (Gives C) ops rc l s e→St.has C B F0 w0 s a w→(∀a w,St.has C B F0 w0 e a w→Q .normal a w)→wpOps C.P ops Q l a w
 |[],s,e,a,w,ht,h,hQ=>hQ a w (has_same h ht.1 ht.2)
 |i::l,s,e,a,w,ht,h,hQ=>by obtain⟨o,ho,v,up,h1,_,h2⟩:=ht;rw[wpOps_cons];exact h1.wp ho h fun a' w' h'=>tr_wpOps h2 h' hQ
omit [Env] in
theorem bitN_eq (m j:Nat):bitN m j=m.testBit j:=by
 unfold bitN;rw[Bool.eq_iff_iff,Nat.beq_eq];show(m>>>j)&&&1=1↔_;rw[Nat.testBit,Nat.and_comm,Nat.one_and_eq_mod_two,bne_iff_ne];omega
omit [Env] in
theorem anc_go:∀(l:List Oper) (acc:List Nat),∃ext,anc l acc=acc++ext∧ext.length=l.length∧∀i o,l[i]? =some o→nth 0 ext i=ahead1 o.after.toList (acc++ext.take i)
 |[],acc=>⟨[],by simp[anc],rfl,fun i o h=>by simp at h⟩
 |o::l,acc=>by
  obtain⟨ext,h1,h2,h3⟩:=anc_go l (acc++[ahead1 o.after.toList acc]);refine⟨ahead1 o.after.toList acc::ext,by simp only[anc];rw[h1,List.append_assoc];rfl,by simp[h2],fun i p hi=>?_⟩;cases i with
  |zero=>simp only[List.getElem?_cons_zero,Option.some.injEq]at hi;subst hi;simp[nth]
  |succ i=>simp only[List.getElem?_cons_succ]at hi;have:=h3 i p hi;simp only[nth,List.take_succ_cons];rw[this,List.append_assoc];rfl
omit [Env] in
theorem mem_ahead {acc:List Nat} {j:Nat}:∀{es:List Edge},bitN (ahead1 es acc) j=true→∃e∈es,Region.binds .any e=true∧(j=e.on∨bitN (nth 0 acc e.on) j=true)
 |[],h=>by rw[bitN_eq]at h;simp[ahead1]at h
 |e::r,h=>by
  simp only[ahead1]at h;split at h
  ·rename_i hb;have h:bitN ((2^e.on|||nth 0 acc e.on)|||ahead1 r acc) j=true:=h;rw[bitN_eq,Nat.testBit_or,Nat.testBit_or,Nat.testBit_two_pow,Bool.or_eq_true,Bool.or_eq_true,decide_eq_true_eq,←bitN_eq,←bitN_eq]at h;rcases h with(h|h)|h
   ·exact⟨e,by simp,hb,.inl h.symm⟩
   ·exact⟨e,by simp,hb,.inr h⟩
   ·obtain⟨e',h1,h2,h3⟩:=mem_ahead h;exact⟨e',by simp[h1],h2,h3⟩
  ·obtain⟨e',h1,h2,h3⟩:=mem_ahead h;exact⟨e',by simp[h1],h2,h3⟩
omit [Env] in
theorem anc_ok {i j:Nat} {o:Oper} {l:List Oper} (ho:l[i]? =some o) (h:bitN (nth 0 (anc l []) i) j=true):∃e∈o.after.toList,Region.binds .any e=true∧(j=e.on∨bitN (nth 0 (anc l []) e.on) j=true):=by
 obtain⟨ext,h1,h2,h3⟩:=anc_go l [];simp only[List.nil_append]at h1 h3;rw[h1]at h ⊢;rw[h3 i o ho]at h;obtain⟨e,h4,h5,h6⟩:=mem_ahead h;refine⟨e,h4,h5,h6.imp_right fun h6=>?_⟩;by_cases he:e.on<(ext.take i).length
 ·rw[nth_of_lt _ he]at h6;have hlt:e.on<ext.length:=by simp at he;omega
  rw[nth_of_lt _ hlt]
  simpa using h6
 ·rw[nth_big _ (Nat.not_lt.1 he),bitN_eq]at h6;simp at h6
structure ROk (C:Cx) (ops:Array Oper) (rc:Nat→Rec):Prop where
 free:∀i o,ops[i]? =some o→∀j b,j<i→ops[j]? =some b→bitN (nth 0 (anc ops.toList []) i) j=true∨Free C ops b o (rc j) (rc i)
 back:∀i o,ops[i]? =some o→∀e∈o.after.toList,Region.binds .any e=true→e.on<i
omit [Env] in
theorem backs_ok {i:Nat}:∀{es:List Edge},backs es i=true→∀e∈es,Region.binds .any e=true→e.on<i
 |[],_,e,he,_=>by simp at he
 |e'::r,h,e,he,hb=>by
  simp only[backs,Bool.and_eq_true]at h;rcases List.mem_cons.1 he with rfl|he
  ·have:=h.1;rw[hb]at this
   simpa [Nat.blt_eq]using this
  ·exact backs_ok h.2 e he hb
omit [Env] in
theorem freeAll_ok {o:Oper} {an:Nat}:∀{l:List Oper} {j:Nat},freeAll C ops.toList o an l j=true→∀k b,l[k]? =some b→bitN an (j+k)=true∨∀rb ro,Free C ops b o rb ro
 |[],_,_,k,b,hb=>by simp at hb
 |b'::r,j,h,k,b,hb=>by
  simp only[freeAll,Bool.and_eq_true,Bool.or_eq_true]at h;cases k with
  |zero=>
   simp only[List.getElem?_cons_zero,Option.some.injEq]at hb;subst hb;rcases h.1 with h1|h1
   ·exact .inl h1
   ·exact .inr fun rb ro=>free2_ok h1
  |succ k=>
   simp only[List.getElem?_cons_succ]at hb;have:=freeAll_ok h.2 k b hb
   rwa [Nat.add_assoc,Nat.add_comm 1 k]at this
omit [Env] in
theorem regionGo_ok {an:List Nat} {all:List Oper}:∀{l:List Oper} {k:Nat},regionOkGo C all an l k=true→∀i o,l[i]? =some o→freeAll C all o (nth 0 an (k+i)) (all.take (k+i)) 0=true∧backs o.after.toList (k+i)=true
 |[],_,_,i,o,h=>by simp at h
 |o'::r,k,h,i,o,ho=>by
  simp only[regionOkGo,Bool.and_eq_true]at h;cases i with
  |zero=>simp only[List.getElem?_cons_zero,Option.some.injEq]at ho;subst ho;exact h.1
  |succ i=>
   simp only[List.getElem?_cons_succ]at ho;have:=regionGo_ok h.2 i o ho
   rwa [Nat.add_assoc,Nat.add_comm 1 i]at this
omit [Env] in
theorem regionOk_ok (rc:Nat→Rec) (h:regionOk C ops.toList=true):ROk C ops rc:=by
 have hg:=fun i o (ho:ops[i]? =some o)=>regionGo_ok (k:=0) h i o (by simpa using ho)
 simp only[Nat.zero_add]at hg;refine⟨fun i o ho j b hj hb=>?_,fun i o ho=>backs_ok (hg i o ho).2⟩;have:=freeAll_ok (hg i o ho).1 j b (by rw[List.getElem?_take_of_lt hj];simpa using hb);rw[Nat.zero_add]at this;exact this.imp_right fun h=>h _ _
omit [Env] in
theorem freeAllR_ok {o:Oper} {ro:Rec} {an:Nat}:∀{l:List Oper} {rs:List Rec} {j:Nat},freeAllR C ops.toList o ro an l rs j=true→∀k b,l[k]? =some b→bitN an (j+k)=true∨Free C ops b o (nth ([],[]) rs k) ro
 |[],_,_,_,k,b,hb=>by simp at hb
 |b'::r,rs,j,h,k,b,hb=>by
  simp only[freeAllR,Bool.and_eq_true,Bool.or_eq_true]at h;cases k with
  |zero=>
   simp only[List.getElem?_cons_zero,Option.some.injEq]at hb;subst hb;rcases h.1 with h1|h1
   ·exact .inl h1
   ·exact .inr (free2R_ok h1)
  |succ k=>
   simp only[List.getElem?_cons_succ]at hb;have:=freeAllR_ok h.2 k b hb;rw[Nat.add_assoc,Nat.add_comm 1 k]at this;refine this.imp_right fun h=>?_
   have e:nth ([],[]) (rs.drop 1) k=nth ([],[]) rs (k+1):=by rw[nth_eq,nth_eq];simp
   rwa [e]at h
omit [Env] in
theorem regionGoR_ok {an:List Nat} {all:List Oper} {recs:List Rec}:∀{l:List Oper} {k:Nat},regionOkRGo C all recs an l k=true→∀i o,l[i]? =some o→freeAllR C all o (nth ([],[]) recs (k+i)) (nth 0 an (k+i)) (all.take (k+i)) recs 0=true∧backs o.after.toList (k+i)=true
 |[],_,_,i,o,h=>by simp at h
 |o'::r,k,h,i,o,ho=>by
  simp only[regionOkRGo,Bool.and_eq_true]at h;cases i with
  |zero=>simp only[List.getElem?_cons_zero,Option.some.injEq]at ho;subst ho;exact h.1
  |succ i=>
   simp only[List.getElem?_cons_succ]at ho;have:=regionGoR_ok h.2 i o ho
   rwa [Nat.add_assoc,Nat.add_comm 1 i]at this
omit [Env] in
theorem regionOkR_ok {recs:List Rec} (h:regionOkR C ops.toList recs=true):ROk C ops (fun i=>nth ([],[]) recs i):=by
 have hg:=fun i o (ho:ops[i]? =some o)=>regionGoR_ok (k:=0) h i o (by simpa using ho)
 simp only[Nat.zero_add]at hg;refine⟨fun i o ho j b hj hb=>?_,fun i o ho=>backs_ok (hg i o ho).2⟩;have:=freeAllR_ok (hg i o ho).1 j b (by rw[List.getElem?_take_of_lt hj];simpa using hb)
 rwa [Nat.zero_add]at this
theorem tr_wpAny [EffOk C] {rc:Nat→Rec} (hr:ROk C ops rc):∀{rem:List Nat} {listed:Array Bool} {s e:St} {a:Act} {w:World},Tr C (Gives C) ops rc rem s e→St.has C B F0 w0 s a w→(∀a w,St.has C B F0 w0 e a w→Q .normal a w)→
 rem.Pairwise (· < ·)→listed.size=ops.size→(∀i,i∈rem↔i<ops.size∧listed.getD i true=false)→(∀i,i<ops.size→listed.getD i true=true→∀j,bitN (nth 0 (anc ops.toList []) i) j=true→listed.getD j false=true)→
 wpAny C.P .any ops Q rem.length listed a w:=by
 intro rem;generalize hn:rem.length=n
 induction n generalizing rem with
 |zero=>intro listed s e a w ht h hQ hsort hsz hrem hcl;have hnil:rem=[]:=List.eq_nil_of_length_eq_zero hn;subst hnil;refine⟨?_,hQ a w (has_same h ht.1 ht.2)⟩;apply List.eq_nil_iff_forall_not_mem.2;intro i hi;obtain⟨h0,o,ho,_⟩:=mem_ready.1 hi;have:=(hrem i).2 ⟨(Array.getElem?_eq_some_iff.1 ho).1,h0⟩;simp at this
 |succ n ih=>
  intro listed s e a w ht h hQ hsort hsz hrem hcl;have gdiff:∀j,j<listed.size→listed.getD j true=listed.getD j false:=fun j hj=>by simp[Array.getD,hj]
  refine⟨fun hnil=>?_,fun i hi=>?_⟩
  ·cases rem with
   |nil=>simp at hn
   |cons i r=>
    exfalso;have hi:=(hrem i).1 (by simp);obtain⟨o,ho,_⟩:=ht;have:i∈Region.ready .any ops listed:=by
     refine mem_ready.2 ⟨hi.2,o,ho,fun e he hb=>?_⟩;have hlt:=hr.back i o ho e (by simpa using he) hb;cases hl:listed.getD e.on true with
     |true=>rw[←gdiff _ (by omega)];exact hl
     |false=>
      have:=(hrem e.on).2 ⟨by omega,hl⟩;rcases List.mem_cons.1 this with h1|h1
      ·omega
      ·have:=List.rel_of_pairwise_cons hsort h1;omega
    rw[hnil]at this;simp at this
  ·obtain⟨h0,o,ho,hall⟩:=mem_ready.1 hi;have hisz:i<ops.size:=(Array.getElem?_eq_some_iff.1 ho).1;have him:i∈rem:=(hrem i).2 ⟨hisz,h0⟩;obtain⟨pre,post,rfl⟩:=List.append_of_mem him;have hanc:∀j,bitN (nth 0 (anc ops.toList []) i) j=true→listed.getD j false=true:=fun j hj=>by
    obtain⟨e,h1,h2,h3⟩:=anc_ok (by simpa using ho) hj;have he:=hall e (by simpa using h1) h2;rcases h3 with rfl|h3
    ·exact he
    ·have hlt:=hr.back i o ho e h1 h2;exact hcl e.on (by omega) (by rw[gdiff _ (by omega)];exact he) j h3
   have hsp:=List.pairwise_append.1 hsort;have hfree:∀j∈pre,∀b,ops[j]? =some b→Free C ops b o (rc j) (rc i):=fun j hj b hb=>by
    have hlt:j<i:=hsp.2.2 j hj i (by simp);rcases hr.free i o ho j b hlt hb with h1|h1
    ·have h2:=hanc j h1;have h3:=((hrem j).1 (by simp[hj])).2;rw[gdiff j (by omega),h2]at h3;simp at h3
    ·exact h1
   obtain⟨o',ho',v,up,h1,_,h2⟩:=Tr.front ho (has_WF h) hfree ht;obtain rfl:o=o':=by rw[ho]at ho';exact Option.some.inj ho'
   refine h1.wp ho h fun a' w' h'=>?_
   have hnot:∀j,j∈pre++post↔j∈pre++i::post∧j≠i:=fun j=>by
    have hpre:∀j∈pre,j≠i:=fun j hj he=>by have:=hsp.2.2 j hj i (by simp);omega
    have hpost:∀j∈post,j≠i:=fun j hj he=>by have:=List.rel_of_pairwise_cons hsp.2.1 hj;omega
    simp only[List.mem_append,List.mem_cons];constructor
    ·rintro(h|h)
     ·exact⟨.inl h,hpre j h⟩
     ·exact⟨.inr (.inr h),hpost j h⟩
    ·rintro⟨h|h|h,h'⟩
     ·exact .inl h
     ·exact absurd h h'
     ·exact .inr h
   have hset:∀j,(listed.setIfInBounds i true).getD j true=false↔listed.getD j true=false∧j≠i:=fun j=>by
    by_cases hij:i=j
    ·subst hij;simp[hsz,hisz]
    ·rw[getD_set_ne true hij];exact⟨fun h=>⟨h,fun e=>hij e.symm⟩,fun h=>h.1⟩
   refine ih (rem:=pre++post) (by simp at hn ⊢;omega) h2 h' hQ ?_ (by simp[hsz]) (fun j=>?_) (fun k hk hlk j hj=>?_)
   ·exact List.pairwise_append.2 ⟨hsp.1,(List.pairwise_cons.1 hsp.2.1).2,fun x hx y hy=>hsp.2.2 x hx y (by simp[hy])⟩
   ·rw[hnot,hrem,hset];exact⟨fun h=>⟨h.1.1,h.1.2,h.2⟩,fun h=>⟨⟨h.1,h.2.1⟩,h.2.2⟩⟩
   ·by_cases hki:i=k
    ·subst hki;exact getD_set_true (hanc j hj)
    ·rw[getD_set_ne true hki]at hlk;exact getD_set_true (hcl k hk hlk j hj)
theorem region_ok [EffOk C] {rc:Nat→Rec} {id:Nat} {draw:Bool} {s e:St} {a:Act} {w:World} (hm:C.P.follows .mixedOrders=true) (hr:draw=true→ROk C ops rc) (ht:Tr C (Gives C) ops rc (List.range ops.size) s e) (h:St.has C B F0 w0 s a w)
 (hQ:∀a w,St.has C B F0 w0 e a w→Q .normal a w):(Code.region id ops draw).wp C.P Q a w:=by
 cases draw with
 |false=>exact wp_region (tr_wpOps ht h hQ)
 |true=>
  refine wp_region_any hm ?_;have hd:St.has C B F0 w0 s a {w with drawn:=w.drawn+1}:=by obtain⟨F,loc,h⟩:=h;exact⟨F,loc,h.drew⟩
  have:=tr_wpAny (hr rfl) (listed:=Array.replicate ops.size false) ht hd hQ List.pairwise_lt_range (by simp) (fun i=>by
   constructor
   ·intro h;exact⟨by simpa using h,by simp[Array.getD,List.mem_range.1 h]⟩
   ·intro h;exact List.mem_range.2 h.1) (fun i hi h=>by simp[Array.getD,hi]at h)
  rwa [List.length_range]at this
end
end Eng
end

section
namespace Eng
open Go Go.RowKit
variable [Env]
section
variable {C:Cx} {B:Bd} {F0:Nat→Prop} {w0:World} {F:Nat→Prop} {loc:Where} {st:St} {a:Act} {w:World}
omit [Env] in
theorem all2_updl {α β:Type} {R:α→β→Prop} (d:α) {y:α}:∀{as:List α} {bs:List β} (i:Nat),(∀b,R (nth d as i) b→R y b)→All2 R as bs→All2 R (upd as i y) bs
 |[],[],_,_,_=>trivial
 |_::_,b::_,0,h,h'=>⟨h b h'.1,h'.2⟩
 |_::as,_::bs,i+1,h,h'=>⟨h'.1,all2_updl (as:=as) (bs:=bs) d i h h'.2⟩
 |[],_::_,_,_,h=>h.elim
 |_::_,[],_,_,h=>h.elim
omit [Env] in
theorem all2_updC {α β:Type} {R R':α→β→Prop} (d:α) {y:α}:∀{as:List α} {bs:List β} (i:Nat),(∀b,R (nth d as i) b→R' y b)→All2 R as bs→All2 R' as bs→All2 R' (upd as i y) bs
 |[],[],_,_,_,_=>trivial
 |_::_,b::_,0,h,h',h''=>⟨h b h'.1,h''.2⟩
 |_::as,_::bs,i+1,h,h',h''=>⟨h''.1,all2_updC (as:=as) (bs:=bs) d i h h'.2 h''.2⟩
 |[],_::_,_,_,h,_=>h.elim
 |_::_,[],_,_,h,_=>h.elim
theorem Conc.weakT {t:Nat} {v:V} {d:List Nat} (h:Conc C B F0 w0 F loc st a w) (hv:∀x,CV loc st.objs w F (nth .any st.tmps t) x→CV loc st.objs w F v x) (hr:Ref st.objs v):Conc C B F0 w0 F loc ⟨upd st.tmps t v,st.objs,d⟩ a w:=
 ⟨h.prog,h.below,h.hB,h.defers,all2_updl .any t hv h.tmps,fun u hu=>by
  rcases mem_upd hu with hu|rfl
  ·exact h.refs u hu
  ·exact hr,h.objs,h.inj,h.fresh,h.bound,h.fsub,h.fsup,h.inv⟩
theorem Conc.relocate {objs':List Obj} {loc':Where} {d:List Nat} (h:Conc C B F0 w0 F loc st a w) (hl:Le st.objs objs' loc loc') (hobjs:∀k,CO loc' objs' w F k (nth .none objs' k)) (hinj:∀k k' b c c',loc' k=some (b,c)→loc' k'=some (b,c')→k=k')
 (hfresh:∀k b c,loc' k=some (b,c)→Own B b∧b<w.heap.size):Conc C B F0 w0 F loc' ⟨st.tmps,objs',d⟩ a w:=
 ⟨hl.prog.trans h.prog,h.below,h.hB,h.defers,h.tmps.mono_mem fun v hv _ hx=>CV.le (fun _ h=>h) (fun _ _=>rfl) hl (h.refs v hv) hx,fun v hv=>(h.refs v hv).le hl,hobjs,hinj,hfresh,h.bound,h.fsub,h.fsup,h.inv⟩
omit [Env] in
theorem refsV_not {ks:List Nat} {v:V} (h:refsV ks v=false):∀k∈keysV v,k∉ks:=by
 intro k hk hm;have ha:∀l:List Nat,anyN ks l=false→∀j∈l,memN j ks=false:=by
  intro l
  induction l with
  |nil=>intro _ j hj;simp at hj
  |cons x l ih=>
   intro h j hj;simp only[anyN,Bool.or_eq_false_iff]at h;rcases List.mem_cons.1 hj with rfl|hj
   ·exact h.1
   ·exact ih h.2 j hj
 cases v<;>simp only[keysV,List.mem_singleton,List.not_mem_nil]at hk<;>first|(subst hk;simp[refsV,memN_iff.2 hm]at h;done)|(have h2:=ha _ h k hk;rw[memN_iff.2 hm]at h2;cases h2)
omit [Env] in
theorem anyRef_not {ks:List Nat}:∀{l:List V},anyRef ks l=false→∀v∈l,refsV ks v=false
 |[],_,v,hv=>by simp at hv
 |u::r,h,v,hv=>by
  simp only[anyRef,Bool.or_eq_false_iff]at h;rcases List.mem_cons.1 hv with rfl|hv
  ·exact h.1
  ·exact anyRef_not h.2 v hv
omit [Env] in
theorem anyRefO_not {ks:List Nat}:∀{l:List Obj},anyRefO ks l=false→∀o∈l,∀u∈objVs o,refsV ks u=false
 |[],_,v,hv=>by simp at hv
 |u::r,h,v,hv=>by
  intro x hx;rcases List.mem_cons.1 hv with e|hm
  ·subst e;cases v with
   |box cells=>simp only[anyRefO,Bool.or_eq_false_iff]at h;exact anyRef_not h.1 x hx
   |bld T q=>simp only[anyRefO,Bool.or_eq_false_iff]at h;simp[objVs]at hx;subst hx;exact h.1
   |vec cells=>simp only[anyRefO,Bool.or_eq_false_iff]at h;exact anyRef_not h.1 x hx
   |_=>simp[objVs]at hx
  ·cases u<;>simp only[anyRefO,Bool.or_eq_false_iff]at h
   ·exact anyRefO_not h v hm x hx
   ·exact anyRefO_not h v hm x hx
   ·exact anyRefO_not h.2 v hm x hx
   ·exact anyRefO_not h v hm x hx
   ·exact anyRefO_not h.2 v hm x hx
   ·exact anyRefO_not h.2 v hm x hx
theorem CV.keep {loc':Where} {objs objs':List Obj} {v:V} {x:Value} (hty:loc'.ty=loc.ty) (hk:∀k∈keysV v,nth .none objs' k=nth .none objs k∧loc' k=loc k) (h:CV loc objs w F v x):CV loc' objs' w F v x:=by
 cases v with
 |box k off=>intro cells hc;rw[(hk k (by simp[keysV])).1]at hc;rw[(hk k (by simp[keysV])).2];exact h cells hc
 |arr k=>intro s es fz hc;rw[(hk k (by simp[keysV])).1]at hc;rw[(hk k (by simp[keysV])).2];exact h s es fz hc
 |elt k i off=>intro s es fz hc;rw[(hk k (by simp[keysV])).1]at hc;rw[(hk k (by simp[keysV])).2];exact h s es fz hc
 |sub k off len=>intro s es fz hc;rw[(hk k (by simp[keysV])).1]at hc;rw[(hk k (by simp[keysV])).2];exact h s es fz hc
 |arrAt k g c t=>intro s es fz hc;rw[(hk k (by simp[keysV])).1]at hc;rw[(hk k (by simp[keysV])).2,hty];exact h s es fz hc
 |boxAt k g=>intro o hc;rw[(hk k (by simp[keysV])).1]at hc;rw[(hk k (by simp[keysV])).2];exact h o hc
 |vec k n=>intro o hc;rw[(hk k (by simp[keysV])).1]at hc;rw[(hk k (by simp[keysV])).2];exact h o hc
 |tpo k as=>obtain⟨x,ys,rfl,h1,h2⟩:=h;refine⟨x,ys,rfl,fun s es fz hc=>?_,h2⟩;rw[(hk k (by simp[keysV])).1]at hc;rw[(hk k (by simp[keysV])).2];exact h1 s es fz hc
 |agv cs=>
  obtain⟨vs,rfl,h⟩:=h;refine⟨vs,rfl,h.mono_mem fun c hc y hy=>?_⟩;cases c with
  |arr k=>have hk:=hk k (keysC_iff.2 hc);refine⟨fun s es fz hc=>?_,hy.2⟩;rw[hk.1]at hc;rw[hk.2];exact hy.1 s es fz hc
  |_=>exact hy
 |_=>exact h
omit [Env] in
theorem Ref.keep {objs objs':List Obj} {v:V} (hk:∀k∈keysV v,nth .none objs' k=nth .none objs k) (h:Ref objs v):Ref objs' v:=by
 cases v with
 |box k off=>intro hc;rw[hk k (by simp[keysV])]at hc;exact h hc
 |arr k=>intro hc;rw[hk k (by simp[keysV])]at hc;exact h hc
 |elt k i off=>intro hc;rw[hk k (by simp[keysV])]at hc;exact h hc
 |sub k off len=>intro hc;rw[hk k (by simp[keysV])]at hc;exact h hc
 |arrAt k g c t=>intro hc;rw[hk k (by simp[keysV])]at hc;exact h hc
 |boxAt k g=>intro hc;rw[hk k (by simp[keysV])]at hc;exact h hc
 |vec k n=>intro hc;rw[hk k (by simp[keysV])]at hc;exact h hc
 |tpo k as=>intro hc;rw[hk k (by simp[keysV])]at hc;exact h hc
 |agv cs=>intro k hkk hc;rw[hk k hkk]at hc;exact h k hkk hc
 |_=>trivial
theorem CO.keep {loc':Where} {objs objs':List Obj} {k:Nat} {o:Obj} (hP:loc'.P=loc.P) (hkk:loc' k=loc k) (hty:loc'.ty=loc.ty) (hk:∀v∈objVs o,∀j∈keysV v,nth .none objs' j=nth .none objs j∧loc' j=loc j) (h:CO loc objs w F k o):CO loc' objs' w F k o:=by
 cases o with
 |none=>exact hkk.trans h
 |dead=>exact hkk.trans h
 |box cells=>obtain⟨b,c,cs,t,h1,h2,h3,h4,h5⟩:=h;exact⟨b,c,cs,t,by rw[hkk];exact h1,h2,h3,h4.mono_mem fun v hv x hx=>⟨CV.keep hty (hk v hv) hx.1,hx.2⟩,fun v hv=>Ref.keep (fun j hj=>(hk v hv j hj).1) (h5 v hv)⟩
 |bld T q=>obtain⟨b,c,p,v,h1,h2,h3,h4,h5,h6⟩:=h;have hq:=hk q (by simp[objVs]);exact⟨b,c,p,v,by rw[hkk];exact h1,h2,h3,h4,CV.keep hty hq h5,Ref.keep (fun j hj=>(hq j hj).1) h6.1,by rw[hty,hP];exact h6.2⟩
 |vec cells=>
  obtain⟨b,c,cs,t,h1,h2,h3,h4,h5,h7,h8,h9⟩:=h;exact⟨b,c,cs,t,by rw[hkk];exact h1,h2,h3,h4,h5,fun j hj=>by
   obtain⟨x,q1,q2,q3⟩:=h7 j hj;exact⟨x,q1,CV.keep hty (hk _ (mem_nth hj)) q2,q3⟩,fun v hv=>Ref.keep (fun j hj=>(hk v hv j hj).1) (h8 v hv),by rw[hP];exact h9.1,h9.2⟩
 |arr s es fz=>obtain⟨h1,h2,h3,h4⟩:=h;refine⟨h1,h2,h3,?_⟩;rw[hkk,hP,hty];exact h4
omit [Env] in
theorem nth_mem {α:Type} {d:α} {l:List α} {i:Nat} (h:nth d l i≠d):nth d l i∈l:=by
 by_cases hi:i<l.length
 ·rw[nth_of_lt _ hi];exact List.getElem_mem hi
 ·exact absurd (nth_big _ (Nat.not_lt.1 hi)) h
theorem Conc.forgets {ks:List Nat} {objs':List Obj} {d:List Nat} (h:Conc C B F0 w0 F loc st a w) (hin:∀k∈ks,nth .none objs' k= .none) (hout:∀k,k∉ks→nth .none objs' k=nth .none st.objs k) (ht:anyRef ks st.tmps=false)
 (ho:anyRefO ks objs'=false):∃loc',Conc C B F0 w0 F loc' ⟨st.tmps,objs',d⟩ a w:=by
 refine⟨⟨loc.P,fun k=>if k∈ks then none else loc k,loc.ty⟩,h.prog,h.below,h.hB,h.defers,?_,?_,?_,?_,?_,h.bound,h.fsub,h.fsup,h.inv⟩
 ·refine h.tmps.mono_mem fun v hv x hx=>?_
  refine CV.keep (loc:=loc) (objs:=st.objs) ?_ (fun k hk=>?_) hx
  ·rfl
  ·have hn:=refsV_not (anyRef_not ht v hv) k hk;exact⟨hout k hn,by simp[hn]⟩
 ·exact fun v hv=>Ref.keep (fun k hk=>hout k (refsV_not (anyRef_not ht v hv) k hk)) (h.refs v hv)
 ·intro k;by_cases hk:k∈ks
  ·change CO _ objs' w F k (nth .none objs' k);rw[hin k hk];show(if k∈ks then none else loc k)=none;simp[hk]
  ·change CO _ objs' w F k (nth .none objs' k);have hmem:∀u∈objVs (nth .none objs' k),refsV ks u=false:=fun u hu=>by
    have hne:nth .none objs' k≠ .none:=by intro e;rw[e]at hu;simp[objVs]at hu
    exact anyRefO_not ho _ (nth_mem hne) u hu
   have h0:=h.objs k;rw[←hout k hk]at h0;refine CO.keep (loc:=loc) (objs:=st.objs) rfl (by simp[hk]) rfl (fun v hv j hj=>?_) h0;have hn:=refsV_not (hmem v hv) j hj;exact⟨hout j hn,by simp[hn]⟩
 ·intro k k' b c c' h1 h2;by_cases hk:k∈ks
  ·simp[hk]at h1
  ·by_cases hk':k'∈ks
   ·simp[hk']at h2
   ·simp only[if_neg hk]at h1;simp only[if_neg hk']at h2;exact h.inj _ _ _ _ _ h1 h2
 ·intro k b c h1;by_cases hk:k∈ks
  ·simp[hk]at h1
  ·simp only[if_neg hk]at h1;exact h.fresh _ _ _ h1
theorem Conc.move {s k key sz:Nat} {es:List (List D)} {d:List Nat} (h:Conc C B F0 w0 F loc st a w) (hs:nth .any st.tmps s= .arr k) (hk:nth .none st.objs k= .arr sz es false) (hkey:nth .none st.objs key= .none) (hlt:key<st.objs.length):
 ∃loc',Conc C B F0 w0 F loc' ⟨upd st.tmps s (.arr key),upd (upd st.objs k .dead) key (.arr sz es false),d⟩ a w:=by
 have hne:k≠key:=fun e=>by subst e;rw[hk]at hkey;simp at hkey
 have hklt:k<st.objs.length:=by
  rcases Nat.lt_or_ge k st.objs.length with h|h
  ·exact h
  ·rw[nth_big _ h]at hk;simp at hk
 have hn:∀j,nth .none (upd (upd st.objs k .dead) key (.arr sz es false)) j=if j=key then .arr sz es false else if j=k then .dead else nth .none st.objs j:=fun j=>by
  by_cases h1:j=key
  ·subst h1;rw[nth_upd_same _ _ _ (by rw[upd_eq];simpa using hlt)];simp
  ·rw[nth_upd_ne _ _ _ (Ne.symm h1),if_neg h1];by_cases h2:j=k
   ·subst h2;rw[nth_upd_same _ _ _ hklt];simp
   ·rw[nth_upd_ne _ _ _ (Ne.symm h2),if_neg h2]
 generalize hob:upd (upd st.objs k .dead) key (.arr sz es false)=objs' at *
 let loc':Where:=⟨loc.P,fun j=>if j=key then loc k else if j=k then none else loc j,fun j=>if j=key then loc.ty k else loc.ty j⟩
 have hle:Le st.objs objs' loc loc':=by
  refine⟨rfl,fun j hj=>by
   have:j≠key:=fun e=>by subst e;exact hj hkey
   simp[loc',this],fun j hj=>?_,fun j o' hj hc hbx=>?_,fun j s' es' fz' hj hc=>?_⟩
  ·rw[hn];split
   ·simp
   ·split
    ·simp
    ·exact hj
  ·rw[hn]at hc;split at hc
   ·rw[←hc]at hbx;simp[isBox]at hbx
   ·split at hc
    ·rw[←hc]at hbx;simp[isBox]at hbx
    ·rename_i e1 e2;exact⟨by rw[hc];exact hbx,by simp[loc',e1,e2]⟩
  ·rw[hn]at hc;split at hc
   ·rename_i e;rw[e]at hj;exact absurd hkey hj
   ·split at hc
    ·simp at hc
    ·exact⟨⟨_,_,hc,rfl⟩,by simp[loc', *]⟩
 have hlk:loc key=none:=by have:=h.objs key;rw[hkey]at this;exact this
 have h1:Conc C B F0 w0 F loc' ⟨st.tmps,objs',d⟩ a w:=by
  refine h.relocate hle (fun j=>?_) ?_ ?_
  ·rw[hn];split
   ·rename_i e;have h0:=h.objs k;rw[hk]at h0;obtain⟨q1,q2,q3,q4⟩:=h0;refine⟨q1,q2,q3,?_⟩;simp only[loc',e,if_pos];exact q4
   ·split
    ·rename_i e;show loc' j=none;simp[loc',e,hne]
    ·rename_i e1 e2;exact CO.le (fun _ h=>h) (fun _ _=>rfl) hle (by simp[loc',e1,e2]) (by simp[loc',e1]) (fun _ _ _=>⟨rfl,fun h=>h⟩) (h.objs j)
  ·intro j j' b c c' g1 g2;simp only[loc']at g1 g2;split at g1<;>split at g2
   ·rw[‹j=key›,‹j'=key›]
   ·split at g2
    ·simp at g2
    ·exact absurd (h.inj _ _ _ _ _ g1 g2).symm ‹_›
   ·split at g1
    ·simp at g1
    ·exact absurd (h.inj _ _ _ _ _ g1 g2) ‹_›
   ·split at g1
    ·simp at g1
    ·split at g2
     ·simp at g2
     ·exact h.inj _ _ _ _ _ g1 g2
  ·intro j b c g1;simp only[loc']at g1;split at g1
   ·exact h.fresh _ _ _ g1
   ·split at g1
    ·simp at g1
    ·exact h.fresh _ _ _ g1
 refine⟨loc',?_⟩;have hfin:Conc C B F0 w0 F loc' ⟨upd st.tmps s (.arr key),objs',d⟩ a w:=by
  refine⟨h1.prog,h1.below,h1.hB,h1.defers,?_,fun u hu=>?_,h1.objs,h1.inj,h1.fresh,h1.bound,h1.fsub,h1.fsup,h1.inv⟩
  ·--slot s:read from the old state
   have hs0:s<st.tmps.length:=by
    rcases Nat.lt_or_ge s st.tmps.length with h|h
    ·exact h
    ·rw[nth_big _ h]at hs;simp at hs
   have hval:CV loc' objs' w F (.arr key) (nth undef a.tmps.toList s):=by
    have h0:=h.tmps.nth .any undef _ _ s hs0;rw[hs]at h0;intro s' es' fz' hc;rw[hn,if_pos rfl]at hc;simp only[Obj.arr.injEq]at hc;obtain⟨rfl,rfl,rfl⟩:=hc;have:=h0 sz es false hk
    simpa [loc']using this
   have hlen:=h.tmps.length;have:upd a.tmps.toList s (nth undef a.tmps.toList s)=a.tmps.toList:=upd_nth undef _ _ _ rfl;have h2:=All2.upd (i:=s) hval h1.tmps;rw[this]at h2;exact h2
  ·rcases mem_upd hu with hu|rfl
   ·exact h1.refs u hu
   ·show nth .none objs' key≠ .none;rw[hn];simp
 exact hfin
theorem Conc.moveN {s k key sz n:Nat} {es:List (List D)} {d:List Nat} (h:Conc C B F0 w0 F loc st a w) (hs:nth .any st.tmps s= .sub k 0 n) (hk:nth .none st.objs k= .arr sz es false) (hkey:nth .none st.objs key= .none) (hlt:key<st.objs.length):
 ∃loc',Conc C B F0 w0 F loc' ⟨upd st.tmps s (.arr key),upd (upd st.objs k .dead) key (.arr sz (es.take n) false),d⟩ a w:=by
 have hnl:n≤es.length:=by
  have hlt:s<st.tmps.length:=by
   rcases Nat.lt_or_ge s st.tmps.length with h1|h1
   ·exact h1
   ·rw[nth_big _ h1]at hs;simp at hs
  have hc:=h.tmps.nth .any default _ _ _ hlt;rw[hs]at hc;rcases hc _ _ _ hk with⟨b,c,q1,q2,q3⟩|⟨_,_,_,_,h0,_⟩|⟨_,h0,_⟩
  ·omega
  ·omega
  ·omega
 have hne:k≠key:=fun e=>by subst e;rw[hk]at hkey;simp at hkey
 have hklt:k<st.objs.length:=by
  rcases Nat.lt_or_ge k st.objs.length with h|h
  ·exact h
  ·rw[nth_big _ h]at hk;simp at hk
 have hn:∀j,nth .none (upd (upd st.objs k .dead) key (.arr sz (es.take n) false)) j=if j=key then .arr sz (es.take n) false else if j=k then .dead else nth .none st.objs j:=fun j=>by
  by_cases h1:j=key
  ·subst h1;rw[nth_upd_same _ _ _ (by rw[upd_eq];simpa using hlt)];simp
  ·rw[nth_upd_ne _ _ _ (Ne.symm h1),if_neg h1];by_cases h2:j=k
   ·subst h2;rw[nth_upd_same _ _ _ hklt];simp
   ·rw[nth_upd_ne _ _ _ (Ne.symm h2),if_neg h2]
 generalize hob:upd (upd st.objs k .dead) key (.arr sz (es.take n) false)=objs' at *
 let loc':Where:=⟨loc.P,fun j=>if j=key then loc k else if j=k then none else loc j,fun j=>if j=key then loc.ty k else loc.ty j⟩
 have hle:Le st.objs objs' loc loc':=by
  refine⟨rfl,fun j hj=>by
   have:j≠key:=fun e=>by subst e;exact hj hkey
   simp[loc',this],fun j hj=>?_,fun j o' hj hc hbx=>?_,fun j s' es' fz' hj hc=>?_⟩
  ·rw[hn];split
   ·simp
   ·split
    ·simp
    ·exact hj
  ·rw[hn]at hc;split at hc
   ·rw[←hc]at hbx;simp[isBox]at hbx
   ·split at hc
    ·rw[←hc]at hbx;simp[isBox]at hbx
    ·rename_i e1 e2;exact⟨by rw[hc];exact hbx,by simp[loc',e1,e2]⟩
  ·rw[hn]at hc;split at hc
   ·rename_i e;rw[e]at hj;exact absurd hkey hj
   ·split at hc
    ·simp at hc
    ·exact⟨⟨_,_,hc,rfl⟩,by simp[loc', *]⟩
 have hlk:loc key=none:=by have:=h.objs key;rw[hkey]at this;exact this
 have h1:Conc C B F0 w0 F loc' ⟨st.tmps,objs',d⟩ a w:=by
  refine h.relocate hle (fun j=>?_) ?_ ?_
  ·rw[hn];split
   ·rename_i e;have h0:=h.objs k;rw[hk]at h0;obtain⟨q1,q2,q3,q4⟩:=h0;have hln:(es.take n).length=n:=by rw[List.length_take];omega
    refine⟨q1.le (by omega),q2,fun e' he'=>q3 e' (List.mem_of_mem_take he'),?_⟩;simp only[loc',e,if_pos];rcases q4 with⟨q4,q5⟩|⟨b,c,cs,t,q4,q5,q6,q7,q8,q9,q10⟩
    ·exact .inl ⟨q4,by rw[q5];simp⟩
    ·refine .inr ⟨b,c,cs,t,q4,q5,q6,q7,by omega,fun j hj=>?_,q10⟩;rw[hln]at hj;have hj2:j<es.length*sz:=Nat.lt_of_lt_of_le hj (Nat.mul_le_mul_right sz hnl);obtain⟨v,r1,r2⟩:=q9 j hj2;refine⟨v,r1,?_⟩;have hfl:(es.take n).flatten.length=n*sz:=by rw[length_flatten (fun e' he'=>q3 e' (List.mem_of_mem_take he')),hln]
     have hsp:es.flatten=(es.take n).flatten++(es.drop n).flatten:=by rw[←List.flatten_append,List.take_append_drop]
     have:nth .undef (es.take n).flatten j=nth .undef es.flatten j:=by rw[hsp,nth_eq,nth_eq,List.getElem?_append_left (by omega)]
     rw[this];exact r2
   ·split
    ·rename_i e;show loc' j=none;simp[loc',e,hne]
    ·rename_i e1 e2;exact CO.le (fun _ h=>h) (fun _ _=>rfl) hle (by simp[loc',e1,e2]) (by simp[loc',e1]) (fun _ _ _=>⟨rfl,fun h=>h⟩) (h.objs j)
  ·intro j j' b c c' g1 g2;simp only[loc']at g1 g2;split at g1<;>split at g2
   ·rw[‹j=key›,‹j'=key›]
   ·split at g2
    ·simp at g2
    ·exact absurd (h.inj _ _ _ _ _ g1 g2).symm ‹_›
   ·split at g1
    ·simp at g1
    ·exact absurd (h.inj _ _ _ _ _ g1 g2) ‹_›
   ·split at g1
    ·simp at g1
    ·split at g2
     ·simp at g2
     ·exact h.inj _ _ _ _ _ g1 g2
  ·intro j b c g1;simp only[loc']at g1;split at g1
   ·exact h.fresh _ _ _ g1
   ·split at g1
    ·simp at g1
    ·exact h.fresh _ _ _ g1
 refine⟨loc',?_⟩;have hfin:Conc C B F0 w0 F loc' ⟨upd st.tmps s (.arr key),objs',d⟩ a w:=by
  refine⟨h1.prog,h1.below,h1.hB,h1.defers,?_,fun u hu=>?_,h1.objs,h1.inj,h1.fresh,h1.bound,h1.fsub,h1.fsup,h1.inv⟩
  ·--slot s:read from the old state
   have hs0:s<st.tmps.length:=by
    rcases Nat.lt_or_ge s st.tmps.length with h|h
    ·exact h
    ·rw[nth_big _ h]at hs;simp at hs
   have hval:CV loc' objs' w F (.arr key) (nth undef a.tmps.toList s):=by
    have h0:=h.tmps.nth .any undef _ _ s hs0;rw[hs]at h0;intro s' es' fz' hc;rw[hn,if_pos rfl]at hc;simp only[Obj.arr.injEq]at hc;obtain⟨rfl,rfl,rfl⟩:=hc;rcases h0 sz es false hk with⟨b,c,e1,e2,e3⟩|⟨_,e1,e2,_,_,e3⟩|⟨_,e1,_⟩
    ·refine .inl ⟨b,c,by simpa [loc']using e1,?_⟩;rw[e3];simp;omega
    ·refine .inr ⟨by simpa [loc']using e1,by rw[e2];simp,e3⟩
    ·omega
   have hlen:=h.tmps.length;have:upd a.tmps.toList s (nth undef a.tmps.toList s)=a.tmps.toList:=upd_nth undef _ _ _ rfl;have h2:=All2.upd (i:=s) hval h1.tmps;rw[this]at h2;exact h2
  ·rcases mem_upd hu with hu|rfl
   ·exact h1.refs u hu
   ·show nth .none objs' key≠ .none;rw[hn];simp
 exact hfin
theorem Conc.nilOwn {s key sz:Nat} {d:List Nat} (h:Conc C B F0 w0 F loc st a w) (hs:nth .any st.tmps s= .nilS) (hkey:nth .none st.objs key= .none) (hlt:key<st.objs.length) (hsz:0<sz):
 Conc C B F0 w0 F loc ⟨upd st.tmps s (.arr key),upd st.objs key (.arr sz [] false),d⟩ a w:=by
 have hlk:loc key=none:=by have:=h.objs key;rw[hkey]at this;exact this
 have hle:Le st.objs (upd st.objs key (.arr sz [] false)) loc loc:=by
  refine⟨rfl,fun _ _=>rfl,fun j hj=>?_,fun j o' hj hc hbx=>?_,fun j s' es' fz' hj hc=>?_⟩
  ·rw[nth_upd];split
   ·simp
   ·exact hj
  ·rw[nth_upd]at hc;split at hc
   ·rw[←hc]at hbx;simp[isBox]at hbx
   ·exact⟨by rw[hc];exact hbx,rfl⟩
  ·rw[nth_upd]at hc;split at hc
   ·rename_i e;rw[←e.1]at hj;exact absurd hkey hj
   ·exact⟨⟨_,_,hc,rfl⟩,rfl⟩
 have h1:Conc C B F0 w0 F loc ⟨st.tmps,upd st.objs key (.arr sz [] false),d⟩ a w:=by
  refine h.relocate hle (fun j=>?_) h.inj h.fresh;by_cases hj:key=j
  ·subst hj;rw[nth_upd_same _ _ _ hlt];exact⟨by simp[roomS],hsz,fun e he=>by simp at he,.inl ⟨hlk,rfl⟩⟩
  ·rw[nth_upd_ne _ _ _ hj];exact CO.le (fun _ h=>h) (fun _ _=>rfl) hle rfl rfl (fun _ _ _=>⟨rfl,fun h=>h⟩) (h.objs j)
 have h2:=h1.weakT (t:=s) (v:= .arr key) (d:=d) (fun x hx=>by
  have hx:CV loc (upd st.objs key (.arr sz [] false)) w F (nth .any st.tmps s) x:=hx;rw[hs]at hx;intro s' es' fz' hc;change nth .none (upd st.objs key (.arr sz [] false)) key=_ at hc;rw[nth_upd_same _ _ _ hlt]at hc;simp only[Obj.arr.injEq]at hc;obtain⟨_,rfl,_⟩:=hc;exact .inr ⟨hlk,rfl,hx⟩) (by
   show nth .none (upd st.objs key (.arr sz [] false)) key≠ .none;rw[nth_upd_same _ _ _ hlt];simp)
 exact h2
theorem Conc.moveM {k j key sz i0:Nat} {cells:List V} {es:List (List D)} {d:List Nat} (h:Conc C B F0 w0 F loc st a w) (hk:nth .none st.objs k= .box cells) (hi:nth .any cells i0= .arr j) (hj:nth .none st.objs j= .arr sz es false) (hkey:nth .none st.objs key= .none) (hlt:key<st.objs.length):
 ∃loc',Conc C B F0 w0 F loc' ⟨st.tmps,upd (upd (upd st.objs j .dead) key (.arr sz es false)) k (.box (upd cells i0 (.arr key))),d⟩ a w:=by
 have hne:j≠key:=fun e=>by subst e;rw[hj]at hkey;simp at hkey
 have hkk:k≠key:=fun e=>by subst e;rw[hk]at hkey;simp at hkey
 have hkj:k≠j:=fun e=>by subst e;rw[hk]at hj;simp at hj
 have hjlt:j<st.objs.length:=by
  rcases Nat.lt_or_ge j st.objs.length with h|h
  ·exact h
  ·rw[nth_big _ h]at hj;simp at hj
 have hklt:k<st.objs.length:=by
  rcases Nat.lt_or_ge k st.objs.length with h|h
  ·exact h
  ·rw[nth_big _ h]at hk;simp at hk
 have hn:∀i,nth .none (upd (upd (upd st.objs j .dead) key (.arr sz es false)) k (.box (upd cells i0 (.arr key)))) i=if i=k then .box (upd cells i0 (.arr key))else if i=key then .arr sz es false else if i=j then .dead else nth .none st.objs i:=fun i=>by
  by_cases h0:i=k
  ·subst h0;rw[nth_upd_same _ _ _ (by rw[length_upd,length_upd];exact hklt)];simp
  ·rw[nth_upd_ne _ _ _ (Ne.symm h0),if_neg h0];by_cases h1:i=key
   ·subst h1;rw[nth_upd_same _ _ _ (by rw[length_upd];exact hlt)];simp
   ·rw[nth_upd_ne _ _ _ (Ne.symm h1),if_neg h1];by_cases h2:i=j
    ·subst h2;rw[nth_upd_same _ _ _ hjlt];simp
    ·rw[nth_upd_ne _ _ _ (Ne.symm h2),if_neg h2]
 generalize hob:upd (upd (upd st.objs j .dead) key (.arr sz es false)) k (.box (upd cells i0 (.arr key)))=objs' at *
 let loc':Where:=⟨loc.P,fun i=>if i=key then loc j else if i=j then none else loc i,fun i=>if i=key then loc.ty j else loc.ty i⟩
 have hle:Le st.objs objs' loc loc':=by
  refine⟨rfl,fun i hi=>by
   have:i≠key:=fun e=>by subst e;exact hi hkey
   simp[loc',this],fun i hi=>?_,fun i o' hi hc hbx=>?_,fun i s' es' fz' hi hc=>?_⟩
  ·rw[hn];split
   ·simp
   ·split
    ·simp
    ·split
     ·simp
     ·exact hi
  ·rw[hn]at hc;split at hc
   ·rename_i e0;subst e0;exact⟨by rw[hk];rfl,by simp[loc',hkk,hkj]⟩
   ·split at hc
    ·rw[←hc]at hbx;simp[isBox]at hbx
    ·split at hc
     ·rw[←hc]at hbx;simp[isBox]at hbx
     ·rename_i e1 e2;exact⟨by rw[hc];exact hbx,by simp[loc',e1,e2]⟩
  ·rw[hn]at hc;split at hc
   ·simp at hc
   ·split at hc
    ·rename_i e;rw[e]at hi;exact absurd hkey hi
    ·split at hc
     ·simp at hc
     ·exact⟨⟨_,_,hc,rfl⟩,by simp[loc', *]⟩
 refine⟨loc',h.relocate hle (fun i=>?_) ?_ ?_⟩
 ·rw[hn];split
  ·rename_i e0;subst e0;have h0:=h.objs i;rw[hk]at h0;have hraw:=h0;have h0:=CO.le (F':=F) (w':=w) (fun _ h=>h) (fun _ _=>rfl) hle (show loc' i=loc i by simp[loc',hkk,hkj]) (show loc'.ty i=loc.ty i by simp[loc',hkk]) (fun _ _ _=>⟨rfl,fun h=>h⟩) h0;obtain⟨b0,c0,cs0,t0,r1,_,r3,r4,_⟩:=hraw;obtain⟨b,c,cs,t,h1,h2,h3,h4,h5⟩:=h0;have hbb:b0=b∧c0=c:=by
    have:loc' i=loc i:=by simp[loc',hkk,hkj]
    rw[this,r1]at h1
    simpa using h1
   obtain⟨rfl,rfl⟩:=hbb;rw[r3]at h3;simp only[Option.some.injEq,Go.Obj.cells.injEq]at h3;obtain⟨rfl,rfl,_⟩:=h3;refine⟨b0,c0,cs0,t0,h1,h2,r3,?_,?_⟩
   ·refine all2_updC .any i0 (fun x hx=>⟨?_,hx.2⟩) r4 h4;rw[hi]at hx;intro s' es' fz' hc;rw[hn,if_neg (Ne.symm hkk),if_pos rfl]at hc;simp only[Obj.arr.injEq]at hc;obtain⟨rfl,rfl,rfl⟩:=hc;have:=hx.1 _ _ _ hj
    simpa [loc']using this
   ·intro v hv;rcases mem_upd hv with hv|rfl
    ·exact h5 v hv
    ·show nth .none objs' key≠ .none;rw[hn,if_neg (Ne.symm hkk),if_pos rfl];simp
  ·rename_i e0;split
   ·rename_i e;have h0:=h.objs j;rw[hj]at h0;obtain⟨q1,q2,q3,q4⟩:=h0;refine⟨q1,q2,q3,?_⟩;simp only[loc',e,if_pos];exact q4
   ·split
    ·rename_i e;show loc' i=none;simp[loc',e,hne]
    ·rename_i e1 e2;exact CO.le (fun _ h=>h) (fun _ _=>rfl) hle (by simp[loc',e1,e2]) (by simp[loc',e1]) (fun _ _ _=>⟨rfl,fun h=>h⟩) (h.objs i)
 ·intro i i' b c c' g1 g2;simp only[loc']at g1 g2;split at g1<;>split at g2
  ·rw[‹i=key›,‹i'=key›]
  ·split at g2
   ·simp at g2
   ·exact absurd (h.inj _ _ _ _ _ g1 g2).symm ‹_›
  ·split at g1
   ·simp at g1
   ·exact absurd (h.inj _ _ _ _ _ g1 g2) ‹_›
  ·split at g1
   ·simp at g1
   ·split at g2
    ·simp at g2
    ·exact h.inj _ _ _ _ _ g1 g2
 ·intro i b c g1;simp only[loc']at g1;split at g1
  ·exact h.fresh _ _ _ g1
  ·split at g1
   ·simp at g1
   ·exact h.fresh _ _ _ g1
theorem Conc.nilM {k key sz i0:Nat} {cells:List V} {d:List Nat} (h:Conc C B F0 w0 F loc st a w) (hk:nth .none st.objs k= .box cells) (hi:nth .any cells i0= .nilS) (hkey:nth .none st.objs key= .none) (hlt:key<st.objs.length) (hsz:0<sz):
 Conc C B F0 w0 F loc ⟨st.tmps,upd (upd st.objs key (.arr sz [] false)) k (.box (upd cells i0 (.arr key))),d⟩ a w:=by
 have hkk:k≠key:=fun e=>by subst e;rw[hk]at hkey;simp at hkey
 have hklt:k<st.objs.length:=by
  rcases Nat.lt_or_ge k st.objs.length with h|h
  ·exact h
  ·rw[nth_big _ h]at hk;simp at hk
 have hlk:loc key=none:=by have:=h.objs key;rw[hkey]at this;exact this
 have hn:∀i,nth .none (upd (upd st.objs key (.arr sz [] false)) k (.box (upd cells i0 (.arr key)))) i=if i=k then .box (upd cells i0 (.arr key))else if i=key then .arr sz [] false else nth .none st.objs i:=fun i=>by
  by_cases h0:i=k
  ·subst h0;rw[nth_upd_same _ _ _ (by rw[length_upd];exact hklt)];simp
  ·rw[nth_upd_ne _ _ _ (Ne.symm h0),if_neg h0];by_cases h1:i=key
   ·subst h1;rw[nth_upd_same _ _ _ hlt];simp
   ·rw[nth_upd_ne _ _ _ (Ne.symm h1),if_neg h1]
 generalize hob:upd (upd st.objs key (.arr sz [] false)) k (.box (upd cells i0 (.arr key)))=objs' at *;have hle:Le st.objs objs' loc loc:=by
  refine⟨rfl,fun i hi=>rfl,fun i hi=>?_,fun i o' hi hc hbx=>?_,fun i s' es' fz' hi hc=>?_⟩
  ·rw[hn];split
   ·simp
   ·split
    ·simp
    ·exact hi
  ·rw[hn]at hc;split at hc
   ·rename_i e0;subst e0;exact⟨by rw[hk];rfl,rfl⟩
   ·split at hc
    ·rw[←hc]at hbx;simp[isBox]at hbx
    ·exact⟨by rw[hc];exact hbx,rfl⟩
  ·rw[hn]at hc;split at hc
   ·simp at hc
   ·split at hc
    ·rename_i e;rw[e]at hi;exact absurd hkey hi
    ·exact⟨⟨_,_,hc,rfl⟩,rfl⟩
 refine h.relocate hle (fun i=>?_) h.inj h.fresh;rw[hn];split
 ·rename_i e0;subst e0;have h0:=h.objs i;rw[hk]at h0;have hraw:=h0;have h0:=CO.le (F':=F) (w':=w) (fun _ h=>h) (fun _ _=>rfl) hle rfl rfl (fun _ _ _=>⟨rfl,fun h=>h⟩) h0;obtain⟨b0,c0,cs0,t0,r1,_,r3,r4,_⟩:=hraw;obtain⟨b,c,cs,t,h1,h2,h3,h4,h5⟩:=h0;have hbb:b0=b∧c0=c:=by
   rw[r1]at h1
   simpa using h1
  obtain⟨rfl,rfl⟩:=hbb;rw[r3]at h3;simp only[Option.some.injEq,Go.Obj.cells.injEq]at h3;obtain⟨rfl,rfl,_⟩:=h3;refine⟨b0,c0,cs0,t0,h1,h2,r3,?_,?_⟩
  ·refine all2_updC .any i0 (fun x hx=>⟨?_,hx.2⟩) r4 h4;rw[hi]at hx;intro s' es' fz' hc;rw[hn,if_neg (Ne.symm hkk),if_pos rfl]at hc;simp only[Obj.arr.injEq]at hc;obtain⟨rfl,rfl,rfl⟩:=hc;exact .inr ⟨hlk,rfl,hx.1⟩
  ·intro v hv;rcases mem_upd hv with hv|rfl
   ·exact h5 v hv
   ·show nth .none objs' key≠ .none;rw[hn,if_neg (Ne.symm hkk),if_pos rfl];simp
 ·split
  ·rename_i e;subst e;exact⟨by simp[roomS],hsz,fun e he=>by simp at he,.inl ⟨hlk,rfl⟩⟩
  ·exact CO.le (fun _ h=>h) (fun _ _=>rfl) hle rfl rfl (fun _ _ _=>⟨rfl,fun h=>h⟩) (h.objs i)
theorem Conc.dataM {k i0:Nat} {cells:List V} {d:List Nat} (h:Conc C B F0 w0 F loc st a w) (hk:nth .none st.objs k= .box cells) (hi:nth .any cells i0= .nilS):
 Conc C B F0 w0 F loc ⟨st.tmps,upd st.objs k (.box (upd cells i0 (.c (.sl [])))),d⟩ a w:=by
 have hklt:k<st.objs.length:=by
  rcases Nat.lt_or_ge k st.objs.length with h|h
  ·exact h
  ·rw[nth_big _ h]at hk;simp at hk
 have hn:∀i,nth .none (upd st.objs k (.box (upd cells i0 (.c (.sl []))))) i=if i=k then .box (upd cells i0 (.c (.sl [])))else nth .none st.objs i:=fun i=>by
  by_cases h0:i=k
  ·subst h0;rw[nth_upd_same _ _ _ hklt];simp
  ·rw[nth_upd_ne _ _ _ (Ne.symm h0),if_neg h0]
 generalize hob:upd st.objs k (.box (upd cells i0 (.c (.sl []))))=objs' at *;have hle:Le st.objs objs' loc loc:=by
  refine⟨rfl,fun i hi=>rfl,fun i hi=>?_,fun i o' hi hc hbx=>?_,fun i s' es' fz' hi hc=>?_⟩
  ·rw[hn];split
   ·simp
   ·exact hi
  ·rw[hn]at hc;split at hc
   ·rename_i e0;subst e0;exact⟨by rw[hk];rfl,rfl⟩
   ·exact⟨by rw[hc];exact hbx,rfl⟩
  ·rw[hn]at hc;split at hc
   ·simp at hc
   ·exact⟨⟨_,_,hc,rfl⟩,rfl⟩
 refine h.relocate hle (fun i=>?_) h.inj h.fresh;rw[hn];split
 ·rename_i e0;subst e0;have h0:=h.objs i;rw[hk]at h0;have hraw:=h0;have h0:=CO.le (F':=F) (w':=w) (fun _ h=>h) (fun _ _=>rfl) hle rfl rfl (fun _ _ _=>⟨rfl,fun h=>h⟩) h0;obtain⟨b0,c0,cs0,t0,r1,_,r3,r4,_⟩:=hraw;obtain⟨b,c,cs,t,h1,h2,h3,h4,h5⟩:=h0;have hbb:b0=b∧c0=c:=by
   rw[r1]at h1
   simpa using h1
  obtain⟨rfl,rfl⟩:=hbb;rw[r3]at h3;simp only[Option.some.injEq,Go.Obj.cells.injEq]at h3;obtain⟨rfl,rfl,_⟩:=h3;refine⟨b0,c0,cs0,t0,h1,h2,r3,?_,?_⟩
  ·refine all2_updC .any i0 (fun x hx=>⟨?_,hx.2⟩) r4 h4;rw[hi]at hx;have h2:x= .slice none 0 0:=hx.1;subst h2;exact CD.nil _ _
  ·intro v hv;rcases mem_upd hv with hv|rfl
   ·exact h5 v hv
   ·trivial
 ·exact CO.le (fun _ h=>h) (fun _ _=>rfl) hle rfl rfl (fun _ _ _=>⟨rfl,fun h=>h⟩) (h.objs i)
theorem Conc.moveB {k j key T sz:Nat} {es:List (List D)} {d:List Nat} (h:Conc C B F0 w0 F loc st a w) (hk:nth .none st.objs k= .bld T (.arr j)) (hj:nth .none st.objs j= .arr sz es false) (hkey:nth .none st.objs key= .none) (hlt:key<st.objs.length):
 ∃loc',Conc C B F0 w0 F loc' ⟨st.tmps,upd (upd (upd st.objs j .dead) key (.arr sz es false)) k (.bld T (.arr key)),d⟩ a w:=by
 have hne:j≠key:=fun e=>by subst e;rw[hj]at hkey;simp at hkey
 have hkk:k≠key:=fun e=>by subst e;rw[hk]at hkey;simp at hkey
 have hkj:k≠j:=fun e=>by subst e;rw[hk]at hj;simp at hj
 have hjlt:j<st.objs.length:=by
  rcases Nat.lt_or_ge j st.objs.length with h|h
  ·exact h
  ·rw[nth_big _ h]at hj;simp at hj
 have hklt:k<st.objs.length:=by
  rcases Nat.lt_or_ge k st.objs.length with h|h
  ·exact h
  ·rw[nth_big _ h]at hk;simp at hk
 have hn:∀i,nth .none (upd (upd (upd st.objs j .dead) key (.arr sz es false)) k (.bld T (.arr key))) i=if i=k then .bld T (.arr key)else if i=key then .arr sz es false else if i=j then .dead else nth .none st.objs i:=fun i=>by
  by_cases h0:i=k
  ·subst h0;rw[nth_upd_same _ _ _ (by rw[length_upd,length_upd];exact hklt)];simp
  ·rw[nth_upd_ne _ _ _ (Ne.symm h0),if_neg h0];by_cases h1:i=key
   ·subst h1;rw[nth_upd_same _ _ _ (by rw[length_upd];exact hlt)];simp
   ·rw[nth_upd_ne _ _ _ (Ne.symm h1),if_neg h1];by_cases h2:i=j
    ·subst h2;rw[nth_upd_same _ _ _ hjlt];simp
    ·rw[nth_upd_ne _ _ _ (Ne.symm h2),if_neg h2]
 generalize hob:upd (upd (upd st.objs j .dead) key (.arr sz es false)) k (.bld T (.arr key))=objs' at *
 let loc':Where:=⟨loc.P,fun i=>if i=key then loc j else if i=j then none else loc i,fun i=>if i=key then loc.ty j else loc.ty i⟩
 have hle:Le st.objs objs' loc loc':=by
  refine⟨rfl,fun i hi=>by
   have:i≠key:=fun e=>by subst e;exact hi hkey
   simp[loc',this],fun i hi=>?_,fun i o' hi hc hbx=>?_,fun i s' es' fz' hi hc=>?_⟩
  ·rw[hn];split
   ·simp
   ·split
    ·simp
    ·split
     ·simp
     ·exact hi
  ·rw[hn]at hc;split at hc
   ·rename_i e0;subst e0;exact⟨by rw[hk];rfl,by simp[loc',hkk,hkj]⟩
   ·split at hc
    ·rw[←hc]at hbx;simp[isBox]at hbx
    ·split at hc
     ·rw[←hc]at hbx;simp[isBox]at hbx
     ·rename_i e1 e2;exact⟨by rw[hc];exact hbx,by simp[loc',e1,e2]⟩
  ·rw[hn]at hc;split at hc
   ·simp at hc
   ·split at hc
    ·rename_i e;rw[e]at hi;exact absurd hkey hi
    ·split at hc
     ·simp at hc
     ·exact⟨⟨_,_,hc,rfl⟩,by simp[loc', *]⟩
 refine⟨loc',h.relocate hle (fun i=>?_) ?_ ?_⟩
 ·rw[hn];split
  ·rename_i e0;subst e0;have h0:=h.objs i;rw[hk]at h0;obtain⟨b,c,p,v,h1,h2,h3,h4,h5,h6,h7⟩:=h0;refine⟨b,c,p,v,by simp[loc',hkk,hkj,h1],h2,h3,h4,?_,?_,?_⟩
   ·intro s' es' fz' hc;rw[hn,if_neg (Ne.symm hkk),if_pos rfl]at hc;simp only[Obj.arr.injEq]at hc;obtain⟨rfl,rfl,rfl⟩:=hc;have:=h5 _ _ _ hj
    simpa [loc']using this
   ·show nth .none objs' key≠ .none;rw[hn,if_neg (Ne.symm hkk),if_pos rfl];simp
   ·intro j' e;simp only[V.arr.injEq]at e;subst e;simp only[loc',if_pos];exact h7 j rfl
  ·rename_i e0;split
   ·rename_i e;have h0:=h.objs j;rw[hj]at h0;obtain⟨q1,q2,q3,q4⟩:=h0;refine⟨q1,q2,q3,?_⟩;simp only[loc',e,if_pos];exact q4
   ·split
    ·rename_i e;show loc' i=none;simp[loc',e,hne]
    ·rename_i e1 e2;exact CO.le (fun _ h=>h) (fun _ _=>rfl) hle (by simp[loc',e1,e2]) (by simp[loc',e1]) (fun _ _ _=>⟨rfl,fun h=>h⟩) (h.objs i)
 ·intro i i' b c c' g1 g2;simp only[loc']at g1 g2;split at g1<;>split at g2
  ·rw[‹i=key›,‹i'=key›]
  ·split at g2
   ·simp at g2
   ·exact absurd (h.inj _ _ _ _ _ g1 g2).symm ‹_›
  ·split at g1
   ·simp at g1
   ·exact absurd (h.inj _ _ _ _ _ g1 g2) ‹_›
  ·split at g1
   ·simp at g1
   ·split at g2
    ·simp at g2
    ·exact h.inj _ _ _ _ _ g1 g2
 ·intro i b c g1;simp only[loc']at g1;split at g1
  ·exact h.fresh _ _ _ g1
  ·split at g1
   ·simp at g1
   ·exact h.fresh _ _ _ g1
theorem Conc.nilB {k key T:Nat} {d:List Nat} (h:Conc C B F0 w0 F loc st a w) (hk:nth .none st.objs k= .bld T .nilS) (hkey:nth .none st.objs key= .none) (hlt:key<st.objs.length):
 ∃loc',Conc C B F0 w0 F loc' ⟨st.tmps,upd (upd st.objs key (.arr 1 [] false)) k (.bld T (.arr key)),d⟩ a w:=by
 have hkk:k≠key:=fun e=>by subst e;rw[hk]at hkey;simp at hkey
 have hklt:k<st.objs.length:=by
  rcases Nat.lt_or_ge k st.objs.length with h|h
  ·exact h
  ·rw[nth_big _ h]at hk;simp at hk
 have hlk:loc key=none:=by have:=h.objs key;rw[hkey]at this;exact this
 have hn:∀i,nth .none (upd (upd st.objs key (.arr 1 [] false)) k (.bld T (.arr key))) i=if i=k then .bld T (.arr key)else if i=key then .arr 1 [] false else nth .none st.objs i:=fun i=>by
  by_cases h0:i=k
  ·subst h0;rw[nth_upd_same _ _ _ (by rw[length_upd];exact hklt)];simp
  ·rw[nth_upd_ne _ _ _ (Ne.symm h0),if_neg h0];by_cases h1:i=key
   ·subst h1;rw[nth_upd_same _ _ _ hlt];simp
   ·rw[nth_upd_ne _ _ _ (Ne.symm h1),if_neg h1]
 generalize hob:upd (upd st.objs key (.arr 1 [] false)) k (.bld T (.arr key))=objs' at *
 let loc':Where:=⟨loc.P,loc.at',fun i=>if i=key then bufElem loc.P T else loc.ty i⟩
 have hle:Le st.objs objs' loc loc':=by
  refine⟨rfl,fun i hi=>by
   have:i≠key:=fun e=>by subst e;exact hi hkey
   simp[loc',this],fun i hi=>?_,fun i o' hi hc hbx=>?_,fun i s' es' fz' hi hc=>?_⟩
  ·rw[hn];split
   ·simp
   ·split
    ·simp
    ·exact hi
  ·rw[hn]at hc;split at hc
   ·rename_i e0;subst e0;exact⟨by rw[hk];rfl,rfl⟩
   ·split at hc
    ·rw[←hc]at hbx;simp[isBox]at hbx
    ·exact⟨by rw[hc];exact hbx,rfl⟩
  ·rw[hn]at hc;split at hc
   ·simp at hc
   ·split at hc
    ·rename_i e;rw[e]at hi;exact absurd hkey hi
    ·exact⟨⟨_,_,hc,rfl⟩,rfl⟩
 refine⟨loc',h.relocate hle (fun i=>?_) h.inj h.fresh⟩;rw[hn];split
 ·rename_i e0;subst e0;have h0:=h.objs i;rw[hk]at h0;obtain⟨b,c,p,v,h1,h2,h3,h4,h5,h6,h7⟩:=h0;have h5:v= .slice none 0 0:=h5;refine⟨b,c,p,v,h1,h2,h3,h4,?_,?_,?_⟩
  ·intro s' es' fz' hc;rw[hn,if_neg (Ne.symm hkk),if_pos rfl]at hc;simp only[Obj.arr.injEq]at hc;obtain⟨rfl,rfl,rfl⟩:=hc;exact .inr ⟨hlk,rfl,h5⟩
  ·show nth .none objs' key≠ .none;rw[hn,if_neg (Ne.symm hkk),if_pos rfl];simp
  ·intro j' e;simp only[V.arr.injEq]at e;subst e;simp only[loc',if_pos]
 ·rename_i e0;split
  ·rename_i e;subst e;exact⟨by simp[roomS],by omega,fun e he=>by simp at he,.inl ⟨hlk,rfl⟩⟩
  ·rename_i e1;exact CO.le (fun _ h=>h) (fun _ _=>rfl) hle rfl (by simp[loc',e1]) (fun _ _ _=>⟨rfl,fun h=>h⟩) (h.objs i)
theorem dataCellsC_ok {loc:Where} {objs:List Obj}:∀{cells:List V} {ds:List D},dataCells cells=some ds→∀{cs:List Value},All2 (fun v x=>CV loc objs w F v x∧x.oneCell'=true) cells cs→All2 (fun v x=>CV loc objs w F v x∧x.oneCell'=true) (ds.map V.c) cs
 |[],ds,h,cs,hc=>by simp only[dataCells,Option.some.injEq]at h;subst h;exact hc
 |v::r,ds,h,[],hc=>hc.elim
 |v::r,ds,h,x::cs,hc=>by
  unfold dataCells at h;split at h
  ·simp_all
  ·rename_i d r' heq;simp only[List.cons.injEq]at heq;obtain⟨rfl,rfl⟩:=heq;rw[Option.map_eq_some_iff]at h;obtain⟨ds',h1,rfl⟩:=h;exact⟨hc.1,dataCellsC_ok h1 hc.2⟩
  ·rename_i r' heq;simp only[List.cons.injEq]at heq;obtain⟨rfl,rfl⟩:=heq;rw[Option.map_eq_some_iff]at h;obtain⟨ds',h1,rfl⟩:=h;refine⟨⟨?_,hc.1.2⟩,dataCellsC_ok h1 hc.2⟩;have h2:x= .slice none 0 0:=hc.1.1;subst h2;exact CD.nil _ _
  ·simp at h
theorem Conc.boxData {k:Nat} {cells:List V} {ds:List D} {d:List Nat} (h:Conc C B F0 w0 F loc st a w) (hk:nth .none st.objs k= .box cells) (hd:dataCells cells=some ds):
 Conc C B F0 w0 F loc ⟨st.tmps,upd st.objs k (.box (ds.map V.c)),d⟩ a w:=by
 have hlt:k<st.objs.length:=by
  rcases Nat.lt_or_ge k st.objs.length with h|h
  ·exact h
  ·rw[nth_big _ h]at hk;simp at hk
 have hle:Le st.objs (upd st.objs k (.box (ds.map V.c))) loc loc:=by
  refine⟨rfl,fun _ _=>rfl,fun j hj=>?_,fun j o' hj hc hbx=>?_,fun j s' es' fz' hj hc=>?_⟩
  ·rw[nth_upd];split
   ·simp
   ·exact hj
  ·rw[nth_upd]at hc;split at hc
   ·rename_i e;rw[←e.1];exact⟨by rw[hk];rfl,rfl⟩
   ·exact⟨by rw[hc];exact hbx,rfl⟩
  ·rw[nth_upd]at hc;split at hc
   ·simp at hc
   ·exact⟨⟨_,_,hc,rfl⟩,rfl⟩
 refine h.relocate hle (fun j=>?_) h.inj h.fresh;by_cases hj:k=j
 ·subst hj;rw[nth_upd_same _ _ _ hlt];have h0:=h.objs k;rw[hk]at h0;obtain⟨b,c,cs,t,h1,h2,h3,h4,h5⟩:=h0;refine⟨b,c,cs,t,h1,h2,h3,?_,fun v hv=>?_⟩
  ·exact(dataCellsC_ok hd h4).mono_mem fun v hv x hx=>⟨CV.le (fun _ h=>h) (fun _ _=>rfl) hle (by
    obtain⟨y,_,rfl⟩:=List.mem_map.1 hv;trivial) hx.1,hx.2⟩
  ·obtain⟨y,_,rfl⟩:=List.mem_map.1 hv;trivial
 ·rw[nth_upd_ne _ _ _ hj];exact CO.le (fun _ h=>h) (fun _ _=>rfl) hle rfl rfl (fun _ _ _=>⟨rfl,fun h=>h⟩) (h.objs j)
end
section
variable {C:Cx} {B:Bd} {F0:Nat→Prop} {w0:World} {a:Act} {w:World}
theorem has_forget:∀(l:List Nat) {st:St},St.has C B F0 w0 st a w→St.has C B F0 w0 ⟨forget st.tmps l,st.objs,st.dirty⟩ a w
 |[],st,h=>h
 |s::r,st,h=>by obtain⟨F,loc,h⟩:=h;exact has_forget r (st:=⟨upd st.tmps s .any,st.objs,st.dirty⟩) ⟨F,loc,h.weakT (fun _ _=>trivial) trivial⟩
theorem gone_ok {key:Nat} {st:St} (hg:gone key st=true) (h:St.has C B F0 w0 st a w):key<st.objs.length∧St.has C B F0 w0 ⟨st.tmps,upd st.objs key .none,st.dirty⟩ a w∧(∀k,nth .none st.objs k≠ .none→nth .none st.objs k≠ .dead→k≠key):=by
 simp only[gone,Bool.and_eq_true,Bool.not_eq_true',Nat.blt_eq]at hg;obtain⟨⟨⟨h1,h2⟩,h3⟩,h4⟩:=hg;refine⟨h1,?_,fun k hk hk' e=>?_⟩
 ·obtain⟨F,loc,h⟩:=h;obtain⟨loc',h'⟩:=h.forgets (ks:=[key]) (objs':=upd st.objs key .none) (d:=st.dirty) (fun k hk=>by
   simp only[List.mem_singleton]at hk;subst hk;exact nth_upd_same _ _ _ h1) (fun k hk=>by
   simp only[List.mem_singleton]at hk;exact nth_upd_ne _ _ _ (Ne.symm hk)) h3 (by
   have:∀(l:List Obj) (i:Nat),anyRefO [key] l=false→anyRefO [key] (upd l i .none)=false:=by
    intro l
    induction l with
    |nil=>intro i h;exact h
    |cons o l ih=>
     intro i h;cases i with
     |zero=>cases o<;>simp_all[anyRefO,upd]
     |succ i=>cases o<;>simp_all[anyRefO,upd]
   exact this _ _ h4)
  exact⟨F,loc',h'⟩
 ·subst e;revert h2;cases hn:nth .none st.objs k<;>simp_all[isGone]
structure Frame (mt:List Nat) (s s':St):Prop where
 lt:s'.tmps.length=s.tmps.length
 lo:s'.objs.length=s.objs.length
 tmps:∀t,t∉mt→nth .any s'.tmps t=nth .any s.tmps t
 objs:∀k,k∉s'.dirty→nth .none s'.objs k=nth .none s.objs k
 dirty:∀k,k∈s.dirty→k∈s'.dirty
omit [Env] in
theorem Frame.refl (mt:List Nat) (s:St):Frame mt s s:=⟨rfl,rfl,fun _ _=>rfl,fun _ _=>rfl,fun _ h=>h⟩
omit [Env] in
theorem Frame.trans {m m':List Nat} {s s' s'':St} (h:Frame m s s') (h':Frame m' s' s''):Frame (m++m') s s'':=
 ⟨h'.lt.trans h.lt,h'.lo.trans h.lo,fun t ht=>by
  simp only[List.mem_append,not_or]at ht;rw[h'.tmps t ht.2,h.tmps t ht.1],fun k hk=>by rw[h'.objs k hk,h.objs k fun hk'=>hk (h'.dirty k hk')],fun k hk=>h'.dirty k (h.dirty k hk)⟩
omit [Env] in
theorem Frame.mono {m m':List Nat} {s s':St} (h:Frame m s s') (hm:∀t∈m,t∈m'):Frame m' s s':=
 ⟨h.lt,h.lo,fun t ht=>h.tmps t fun h'=>ht (hm t h'),h.objs,h.dirty⟩
omit [Env] in
theorem Frame.trans' {m:List Nat} {s s' s'':St} (h:Frame m s s') (h':Frame m s' s''):Frame m s s'':=(h.trans h').mono fun t ht=>by simpa using ht
omit [Env] in
theorem forget_len:∀(l:List Nat) (tmps:List V),(forget tmps l).length=tmps.length
 |[],_=>rfl
 |s::r,tmps=>by simp only[forget];rw[forget_len r,length_upd]
omit [Env] in
theorem forget_out {t:Nat}:∀(l:List Nat) (tmps:List V),t∉l→nth .any (forget tmps l) t=nth .any tmps t
 |[],_,_=>rfl
 |s::r,tmps,h=>by simp only[forget];rw[forget_out r _ fun h'=>h (by simp[h']),nth_upd_ne _ _ _ fun e=>h (by simp[e])]
omit [Env] in
theorem forget_in {t:Nat}:∀(l:List Nat) (tmps:List V),t∈l∨nth .any tmps t= .any→nth .any (forget tmps l) t= .any
 |[],_,h=>by rcases h with h|h;exact absurd h (by simp);exact h
 |s::r,tmps,h=>by
  simp only[forget];refine forget_in r _ ?_;by_cases hs:s=t
  ·subst hs;refine .inr ?_;rw[nth_upd];split
   ·rfl
   ·rename_i hlt;rw[nth_big _ (by simpa using hlt)]
  ·rcases h with h|h
   ·rcases List.mem_cons.1 h with h|h
    ·exact absurd h.symm hs
    ·exact .inl h
   ·exact .inr (by rw[nth_upd_ne _ _ _ hs];exact h)
omit [Env] in
theorem forgetO_len:∀(l:List Nat) (objs:List Obj),(forgetO objs l).length=objs.length
 |[],_=>rfl
 |s::r,objs=>by simp only[forgetO];rw[forgetO_len r,length_upd]
omit [Env] in
theorem forgetO_out {t:Nat}:∀(l:List Nat) (objs:List Obj),t∉l→nth .none (forgetO objs l) t=nth .none objs t
 |[],_,_=>rfl
 |s::r,objs,h=>by simp only[forgetO];rw[forgetO_out r _ fun h'=>h (by simp[h']),nth_upd_ne _ _ _ fun e=>h (by simp[e])]
omit [Env] in
theorem forgetO_in {t:Nat}:∀(l:List Nat) (objs:List Obj),t∈l∨nth .none objs t= .none→nth .none (forgetO objs l) t= .none
 |[],_,h=>by rcases h with h|h;exact absurd h (by simp);exact h
 |s::r,objs,h=>by
  simp only[forgetO];refine forgetO_in r _ ?_;by_cases hs:s=t
  ·subst hs;refine .inr ?_;rw[nth_upd];split
   ·rfl
   ·rename_i hlt;rw[nth_big _ (by simpa using hlt)]
  ·rcases h with h|h
   ·rcases List.mem_cons.1 h with h|h
    ·exact absurd h.symm hs
    ·exact .inl h
   ·exact .inr (by rw[nth_upd_ne _ _ _ hs];exact h)
omit [Env] in
theorem ext_nth {α:Type} (d:α) {l l':List α} (hl:l.length=l'.length) (h:∀i,nth d l i=nth d l' i):l=l':=by
 apply List.ext_getElem hl;intro i h1 h2;have:=h i
 rwa [nth_of_lt _ h1,nth_of_lt _ h2]at this
omit [Env] in
theorem forgetF_len (l:List Nat):∀(i:Nat) (tmps:List V),(forgetF l i tmps).length=tmps.length
 |_,[]=>rfl
 |i,v::r=>by simp[forgetF,forgetF_len l (i+1) r]
omit [Env] in
theorem forgetF_nth (l:List Nat):∀(i:Nat) (tmps:List V) (t:Nat),nth .any (forgetF l i tmps) t=if i+t∈l then .any else nth .any tmps t
 |_,[],_=>by simp[forgetF,nth]
 |i,v::r,0=>by
  simp only[forgetF,nth,Nat.add_zero];split
  ·rename_i h;rw[if_pos (memN_iff.1 h)]
  ·rename_i h;rw[if_neg fun hm=>by rw[memN_iff.2 hm]at h;simp at h]
 |i,v::r,t+1=>by simp only[forgetF,nth];rw[forgetF_nth l (i+1) r t,show i+1+t=i+(t+1)by omega]
omit [Env] in
theorem forgetQ_eq (tmps:List V) (l:List Nat):forgetQ tmps l=forget tmps l:=by
 refine ext_nth .any ?_ fun t=>?_
 ·unfold forgetQ;rw[forgetF_len,forget_len]
 ·unfold forgetQ;rw[forgetF_nth,Nat.zero_add];by_cases h:t∈l
  ·rw[if_pos h,forget_in _ _ (.inl h)]
  ·rw[if_neg h,forget_out _ _ h]
omit [Env] in
theorem forgetOF_len (l:List Nat):∀(i:Nat) (objs:List Obj),(forgetOF l i objs).length=objs.length
 |_,[]=>rfl
 |i,v::r=>by simp[forgetOF,forgetOF_len l (i+1) r]
omit [Env] in
theorem forgetOF_nth (l:List Nat):∀(i:Nat) (objs:List Obj) (t:Nat),nth .none (forgetOF l i objs) t=if i+t∈l then .none else nth .none objs t
 |_,[],_=>by simp[forgetOF,nth]
 |i,v::r,0=>by
  simp only[forgetOF,nth,Nat.add_zero];split
  ·rename_i h;rw[if_pos (memN_iff.1 h)]
  ·rename_i h;rw[if_neg fun hm=>by rw[memN_iff.2 hm]at h;simp at h]
 |i,v::r,t+1=>by simp only[forgetOF,nth];rw[forgetOF_nth l (i+1) r t,show i+1+t=i+(t+1)by omega]
omit [Env] in
theorem forgetOQ_eq (objs:List Obj) (l:List Nat):forgetOQ objs l=forgetO objs l:=by
 refine ext_nth .none ?_ fun t=>?_
 ·unfold forgetOQ;rw[forgetOF_len,forgetO_len]
 ·unfold forgetOQ;rw[forgetOF_nth,Nat.zero_add];by_cases h:t∈l
  ·rw[if_pos h,forgetO_in _ _ (.inl h)]
  ·rw[if_neg h,forgetO_out _ _ h]
omit [Env] in
theorem mem_minus {t:Nat} {l:List Nat}:∀{m:List Nat},t∈minus m l↔t∈m∧t∉l
 |[]=>by simp[minus]
 |x::r=>by
  unfold minus;split
  ·rename_i h;have:=memN_iff.1 h;rw[mem_minus];constructor
   ·intro h;exact⟨by simp[h.1],h.2⟩
   ·rintro⟨h1,h2⟩;rcases List.mem_cons.1 h1 with rfl|h1
    ·exact absurd this h2
    ·exact⟨h1,h2⟩
  ·rename_i h;have hx:x∉l:=fun hm=>by rw[memN_iff.2 hm]at h;simp at h
   simp only[List.mem_cons];rw[mem_minus];constructor
   ·rintro(rfl|h)
    ·exact⟨.inl rfl,hx⟩
    ·exact⟨.inr h.1,h.2⟩
   ·rintro⟨rfl|h,h'⟩
    ·exact .inl rfl
    ·exact .inr ⟨h,h'⟩
theorem mixN_ok {k:Nat}:∀{ms:List MC} {i:Nat} {st m:St},mixN k ms i st=some m→k∈st.dirty→Frame [] st m∧(∀j∈mixKeys ms,j∈m.dirty)∧(St.has C B F0 w0 st a w→St.has C B F0 w0 m a w)
 |[],i,st,m,h,hd=>by simp only[mixN,Option.some.injEq]at h;subst h;exact⟨Frame.refl _ _,fun k hk=>by simp[mixKeys]at hk,fun h=>h⟩
 | .dat z::r,i,st,m,h,hd=>by
  simp only[mixN]at h;split at h
  ·rename_i cells hk;split at h
   ·rename_i hi;obtain⟨h1,h2,h3⟩:=mixN_ok h (by simp);refine⟨Frame.trans' (s':=⟨st.tmps,upd st.objs k (.box (upd cells i (.c (.sl [])))),k::st.dirty⟩) ⟨rfl,by simp only[length_upd],fun _ _=>rfl,fun j hj=>by
     simp only[List.mem_cons,not_or]at hj;exact nth_upd_ne _ _ _ (Ne.symm hj.1),fun j hj=>by simp[hj]⟩ h1,h2,fun hh=>h3 ?_⟩
    obtain⟨F,loc,hh⟩:=hh;exact⟨F,loc,hh.dataM hk hi⟩
   ·obtain⟨h1,h2,h3⟩:=mixN_ok h hd;exact⟨h1,h2,h3⟩
  ·simp at h
 | .own key size::r,i,st,m,h,hd=>by
  have hkeys:∀{m:St},key∈m.dirty→(∀k∈mixKeys r,k∈m.dirty)→∀j∈mixKeys (.own key size::r),j∈m.dirty:=fun h1 h3 j hj=>by
   simp only[mixKeys,List.mem_cons]at hj;rcases hj with rfl|hj
   ·exact h1
   ·exact h3 j hj
  simp only[mixN]at h;split at h
  ·rename_i cells hk;split at h
   ·rename_i hi;split at h
    ·rename_i hg;simp only[Bool.and_eq_true,Nat.blt_eq]at hg;obtain⟨h1,h2,h3⟩:=mixN_ok h (by simp);refine⟨Frame.trans' (s':=⟨st.tmps,upd (upd st.objs key (.arr size [] false)) k (.box (upd cells i (.arr key))),key::k::st.dirty⟩) ⟨rfl,by simp only[length_upd],fun _ _=>rfl,fun j hj=>by
      simp only[List.mem_cons,not_or]at hj;rw[nth_upd_ne _ _ _ (Ne.symm hj.2.1),nth_upd_ne _ _ _ (Ne.symm hj.1)],fun j hj=>by simp[hj]⟩ h1,hkeys (h1.dirty _ (by simp)) h2,fun hh=>h3 ?_⟩
     obtain⟨hlt,hh',hne⟩:=gone_ok hg.1 hh;obtain⟨F,loc,hh'⟩:=hh';have hkk:k≠key:=hne k (by rw[hk];simp) (by rw[hk];simp);have this:=hh'.nilM (k:=k) (key:=key) (sz:=size) (i0:=i) (cells:=cells) (d:=key::k::st.dirty) (by
      show nth .none (upd st.objs key .none) k=_;rw[nth_upd_ne _ _ _ (Ne.symm hkk)];exact hk) hi (nth_upd_same _ _ _ hlt) (by rw[length_upd];exact hlt) hg.2
     have he:upd (upd st.objs key .none) key (.arr size [] false)=upd st.objs key (.arr size [] false):=by simp[upd_eq]
     simp only[he]at this;exact⟨F,loc,this⟩
    ·simp at h
   ·rename_i j hi;split at h
    ·obtain⟨h1,h2,h3⟩:=mixN_ok h (by simp);exact⟨Frame.trans' (s':=⟨st.tmps,st.objs,key::k::st.dirty⟩) ⟨rfl,rfl,fun _ _=>rfl,fun _ _=>rfl,fun i hi=>by simp[hi]⟩ h1,hkeys (h1.dirty _ (by simp)) h2,fun hh=>h3 (has_same hh rfl rfl)⟩
    ·split at h
     ·rename_i sz es hj;split at h
      ·rename_i hg;obtain⟨h1,h2,h3⟩:=mixN_ok h (by simp);refine⟨Frame.trans' (s':=⟨st.tmps,upd (upd (upd st.objs j .dead) key (.arr sz es false)) k (.box (upd cells i (.arr key))),key::j::k::st.dirty⟩) ⟨rfl,by simp only[length_upd],fun _ _=>rfl,fun i hi=>by
        simp only[List.mem_cons,not_or]at hi;rw[nth_upd_ne _ _ _ (Ne.symm hi.2.2.1),nth_upd_ne _ _ _ (Ne.symm hi.1),nth_upd_ne _ _ _ (Ne.symm hi.2.1)],fun i hi=>by simp[hi]⟩ h1,
        hkeys (h1.dirty _ (by simp)) h2,fun hh=>h3 ?_⟩
       obtain⟨hlt,hh',hne⟩:=gone_ok hg hh;obtain⟨F,loc,hh'⟩:=hh';have hkk:k≠key:=hne k (by rw[hk];simp) (by rw[hk];simp);have hjk:j≠key:=hne j (by rw[hj];simp) (by rw[hj];simp);obtain⟨loc',this⟩:=hh'.moveM (k:=k) (j:=j) (key:=key) (sz:=sz) (es:=es) (i0:=i) (cells:=cells) (d:=key::j::k::st.dirty) (by
        show nth .none (upd st.objs key .none) k=_;rw[nth_upd_ne _ _ _ (Ne.symm hkk)];exact hk) hi (by
        show nth .none (upd st.objs key .none) j=_;rw[nth_upd_ne _ _ _ (Ne.symm hjk)];exact hj) (nth_upd_same _ _ _ hlt) (by rw[length_upd];exact hlt)
       have he:upd (upd (upd st.objs key .none) j .dead) key (.arr sz es false)=upd (upd st.objs j .dead) key (.arr sz es false):=by rw[upd_swap st.objs key j _ _ (.inl (Ne.symm hjk))];simp[upd_eq]
       simp only[he]at this;exact⟨F,loc',this⟩
      ·simp at h
     ·simp at h
   ·simp at h
  ·simp at h
theorem normL_ok:∀{locs:List Loc} {st m:St},normL locs st=some m→Frame (slotsOf locs) st m∧(∀k∈keysOf locs,k∈m.dirty)∧(St.has C B F0 w0 st a w→St.has C B F0 w0 m a w)
 |[],st,m,h=>by simp only[normL,Option.some.injEq]at h;subst h;exact⟨Frame.refl _ _,fun k hk=>by simp[keysOf]at hk,fun h=>h⟩
 | .slot s z::r,st,m,h=>by
  simp only[normL]at h;split at h
  ·rename_i hv;obtain⟨h1,h2,h3⟩:=normL_ok h;refine⟨Frame.trans' (s':=⟨upd st.tmps s (.c (.sl [])),st.objs,st.dirty⟩) ⟨length_upd _ _ _,rfl,fun t ht=>nth_upd_ne _ _ _ fun e=>ht (by simp[slotsOf,e]),fun _ _=>rfl,fun _ h=>h⟩ (h1.mono fun t ht=>by simp[slotsOf,ht]),h2,fun hh=>h3 ?_⟩;obtain⟨F,loc,hh⟩:=hh;exact⟨F,loc,hh.weakT (fun x hx=>by
    rw[hv]at hx;have hx:x= .slice none 0 0:=hx;subst hx;exact CD.nil _ _) trivial⟩
  ·rename_i k hv;split at h
   ·rename_i sz es fz hk;have hlt:k<st.objs.length:=by
     rcases Nat.lt_or_ge k st.objs.length with h1|h1
     ·exact h1
     ·rw[nth_big _ h1]at hk;simp at hk
    obtain⟨h1,h2,h3⟩:=normL_ok h;refine⟨Frame.trans' (s':=⟨upd st.tmps s (.c (.sl es)),upd st.objs k (.arr sz es true),k::st.dirty⟩) ⟨length_upd _ _ _,length_upd _ _ _,fun t ht=>nth_upd_ne _ _ _ fun e=>ht (by simp[slotsOf,e]),fun j hj=>nth_upd_ne _ _ _ fun e=>hj (by simp[e]),fun j hj=>by simp[hj]⟩ (h1.mono fun t ht=>by simp[slotsOf,ht]),h2,fun hh=>h3 ?_⟩;obtain⟨F,loc,hh⟩:=hh;have h4:=hh.freeze1 hk;refine⟨_,loc,h4.weakT (t:=s) (v:= .c (.sl es)) (fun x hx=>?_) trivial⟩;have hk2:nth .none (upd st.objs k (.arr sz es true)) k= .arr sz es true:=nth_upd_same _ _ _ hlt;have h0:=h4.objs k;simp only at h0 hx;rw[hk2]at h0;rw[hv]at hx;exact arr_CD hk2 h0 hx (fun _ h=>h) (fun b c hl=> .inr ⟨c,hl⟩)
   ·simp at h
  ·obtain⟨h1,h2,h3⟩:=normL_ok h;exact⟨h1.mono fun t ht=>by simp[slotsOf,ht],h2,h3⟩
 | .box k z::r,st,m,h=>by
  simp only[normL]at h;split at h
  ·rename_i cells hk;split at h
   ·rename_i ds hd;obtain⟨h1,h2,h3⟩:=normL_ok h;refine⟨Frame.trans' (s':=⟨st.tmps,upd st.objs k (.box (ds.map V.c)),k::st.dirty⟩) ⟨rfl,length_upd _ _ _,fun _ _=>rfl,fun j hj=>nth_upd_ne _ _ _ fun e=>hj (by simp[e]),fun j hj=>by simp[hj]⟩ h1,fun j hj=>?_,fun hh=>h3 ?_⟩
    ·simp only[keysOf,List.mem_cons]at hj;rcases hj with rfl|hj
     ·exact h1.dirty _ (by simp)
     ·exact h2 j hj
    ·obtain⟨F,loc,hh⟩:=hh;exact⟨F,loc,hh.boxData hk hd⟩
   ·simp at h
  ·simp at h
 | .own s key size::r,st,m,h=>by
  simp only[normL]at h;have hslot:∀t,t∈slotsOf r→t∈slotsOf (.own s key size::r):=fun t ht=>by simp[slotsOf,ht]
  have hkeys:∀{m:St},key∈m.dirty→(∀k∈keysOf r,k∈m.dirty)→∀k∈keysOf (.own s key size::r),k∈m.dirty:=fun h1 h2 k hk=>by
   simp only[keysOf,List.mem_cons]at hk;rcases hk with rfl|hk
   ·exact h1
   ·exact h2 k hk
  split at h
  ·rename_i hv;split at h
   ·rename_i hg;simp only[Bool.and_eq_true,Nat.blt_eq]at hg;obtain⟨h1,h2,h3⟩:=normL_ok h;refine⟨Frame.trans' (s':=⟨upd st.tmps s (.arr key),upd st.objs key (.arr size [] false),key::st.dirty⟩) ⟨length_upd _ _ _,length_upd _ _ _,fun t ht=>nth_upd_ne _ _ _ fun e=>ht (by simp[slotsOf,e]),fun j hj=>nth_upd_ne _ _ _ fun e=>hj (by simp[e]),fun j hj=>by simp[hj]⟩ (h1.mono hslot),
     hkeys (h1.dirty _ (by simp)) h2,fun hh=>h3 ?_⟩
    obtain⟨hlt,hh',_⟩:=gone_ok hg.1 hh;obtain⟨F,loc,hh'⟩:=hh';have:=hh'.nilOwn (s:=s) (key:=key) (sz:=size) (d:=key::st.dirty) hv (nth_upd_same _ _ _ hlt) (by rw[length_upd];exact hlt) hg.2;have he:upd (upd st.objs key .none) key (.arr size [] false)=upd st.objs key (.arr size [] false):=by simp[upd_eq]
    simp only[he]at this;exact⟨F,loc,this⟩
   ·simp at h
  ·rename_i k hv;split at h
   ·obtain⟨h1,h2,h3⟩:=normL_ok h;refine⟨Frame.trans' (s':=⟨st.tmps,st.objs,key::st.dirty⟩) ⟨rfl,rfl,fun _ _=>rfl,fun _ _=>rfl,fun j hj=>by simp[hj]⟩ (h1.mono hslot),hkeys (h1.dirty _ (by simp)) h2,fun hh=>h3 (has_same hh rfl rfl)⟩
   ·split at h
    ·rename_i sz es hk;split at h
     ·rename_i hg;obtain⟨h1,h2,h3⟩:=normL_ok h;refine⟨Frame.trans' (s':=⟨upd st.tmps s (.arr key),upd (upd st.objs k .dead) key (.arr sz es false),key::k::st.dirty⟩) ⟨length_upd _ _ _,by simp only[length_upd],fun t ht=>nth_upd_ne _ _ _ fun e=>ht (by simp[slotsOf,e]),
       fun j hj=>by
        simp only[List.mem_cons,not_or]at hj;rw[nth_upd_ne _ _ _ (Ne.symm hj.1),nth_upd_ne _ _ _ (Ne.symm hj.2.1)],fun j hj=>by simp[hj]⟩ (h1.mono hslot),hkeys (h1.dirty _ (by simp)) h2,fun hh=>h3 ?_⟩
      obtain⟨hlt,hh',hne⟩:=gone_ok hg hh;obtain⟨F,loc,hh'⟩:=hh';have hkk:k≠key:=hne k (by rw[hk];simp) (by rw[hk];simp);obtain⟨loc',this⟩:=hh'.move (s:=s) (k:=k) (key:=key) (sz:=sz) (es:=es) (d:=key::k::st.dirty) hv (by
       show nth .none (upd st.objs key .none) k=_;rw[nth_upd_ne _ _ _ (Ne.symm hkk)];exact hk) (nth_upd_same _ _ _ hlt) (by rw[length_upd];exact hlt)
      have he:upd (upd (upd st.objs key .none) k .dead) key (.arr sz es false)=upd (upd st.objs k .dead) key (.arr sz es false):=by rw[upd_swap st.objs key k _ _ (.inl (Ne.symm hkk))];simp[upd_eq]
      simp only[he]at this;exact⟨F,loc',this⟩
     ·simp at h
    ·simp at h
  ·rename_i k off len hv;split at h
   ·rename_i sz es hk;split at h
    ·rename_i hg;obtain⟨h1,h2,h3⟩:=normL_ok h;refine⟨Frame.trans' (s':=⟨upd st.tmps s (.arr key),upd (upd st.objs k .dead) key (.arr sz (es.take len) false),key::k::st.dirty⟩) ⟨length_upd _ _ _,by simp only[length_upd],fun t ht=>nth_upd_ne _ _ _ fun e=>ht (by simp[slotsOf,e]),
      fun j hj=>by
       simp only[List.mem_cons,not_or]at hj;rw[nth_upd_ne _ _ _ (Ne.symm hj.1),nth_upd_ne _ _ _ (Ne.symm hj.2.1)],fun j hj=>by simp[hj]⟩ (h1.mono hslot),hkeys (h1.dirty _ (by simp)) h2,fun hh=>h3 ?_⟩
     obtain⟨hlt,hh',hne⟩:=gone_ok hg hh;obtain⟨F,loc,hh'⟩:=hh';have hkk:k≠key:=hne k (by rw[hk];simp) (by rw[hk];simp);obtain⟨loc',this⟩:=hh'.moveN (s:=s) (k:=k) (key:=key) (sz:=sz) (es:=es) (n:=len) (d:=key::k::st.dirty) hv (by
      show nth .none (upd st.objs key .none) k=_;rw[nth_upd_ne _ _ _ (Ne.symm hkk)];exact hk) (nth_upd_same _ _ _ hlt) (by rw[length_upd];exact hlt)
     have he:upd (upd (upd st.objs key .none) k .dead) key (.arr sz (es.take len) false)=upd (upd st.objs k .dead) key (.arr sz (es.take len) false):=by rw[upd_swap st.objs key k _ _ (.inl (Ne.symm hkk))];simp[upd_eq]
     simp only[he]at this;exact⟨F,loc',this⟩
    ·simp at h
   ·simp at h
  ·simp at h
 | .bld k T key::r,st,m,h=>by
  simp only[normL]at h;have hkeys:∀{m:St},key∈m.dirty→k∈m.dirty→(∀k∈keysOf r,k∈m.dirty)→∀j∈keysOf (.bld k T key::r),j∈m.dirty:=fun h1 h2 h3 j hj=>by
   simp only[keysOf,List.mem_cons]at hj;rcases hj with rfl|rfl|hj
   ·exact h2
   ·exact h1
   ·exact h3 j hj
  split at h
  ·rename_i T' q hk;split at h
   ·split at h
    ·split at h
     ·rename_i hg;obtain⟨h1,h2,h3⟩:=normL_ok h;refine⟨Frame.trans' (s':=⟨st.tmps,upd (upd st.objs key (.arr 1 [] false)) k (.bld T' (.arr key)),key::k::st.dirty⟩) ⟨rfl,by simp only[length_upd],fun _ _=>rfl,fun i hi=>by
       simp only[List.mem_cons,not_or]at hi;rw[nth_upd_ne _ _ _ (Ne.symm hi.2.1),nth_upd_ne _ _ _ (Ne.symm hi.1)],fun i hi=>by simp[hi]⟩ h1,
       hkeys (h1.dirty _ (by simp)) (h1.dirty _ (by simp)) h2,fun hh=>h3 ?_⟩
      obtain⟨hlt,hh',hne⟩:=gone_ok hg hh;obtain⟨F,loc,hh'⟩:=hh';have hkk:k≠key:=hne k (by rw[hk];simp) (by rw[hk];simp);obtain⟨loc',this⟩:=hh'.nilB (k:=k) (key:=key) (T:=T') (d:=key::k::st.dirty) (by
       show nth .none (upd st.objs key .none) k=_;rw[nth_upd_ne _ _ _ (Ne.symm hkk)];exact hk) (nth_upd_same _ _ _ hlt) (by rw[length_upd];exact hlt)
      have he:upd (upd st.objs key .none) key (.arr 1 [] false)=upd st.objs key (.arr 1 [] false):=by simp[upd_eq]
      simp only[he]at this;exact⟨F,loc',this⟩
     ·simp at h
    ·rename_i j;split at h
     ·obtain⟨h1,h2,h3⟩:=normL_ok h;exact⟨Frame.trans' (s':=⟨st.tmps,st.objs,key::k::st.dirty⟩) ⟨rfl,rfl,fun _ _=>rfl,fun _ _=>rfl,fun i hi=>by simp[hi]⟩ h1,hkeys (h1.dirty _ (by simp)) (h1.dirty _ (by simp)) h2,fun hh=>h3 (has_same hh rfl rfl)⟩
     ·split at h
      ·rename_i sz es hj;split at h
       ·rename_i hg;simp only[Bool.and_eq_true]at hg;obtain⟨h1,h2,h3⟩:=normL_ok h;refine⟨Frame.trans' (s':=⟨st.tmps,upd (upd (upd st.objs j .dead) key (.arr sz es false)) k (.bld T' (.arr key)),key::j::k::st.dirty⟩) ⟨rfl,by simp only[length_upd],fun _ _=>rfl,fun i hi=>by
         simp only[List.mem_cons,not_or]at hi;rw[nth_upd_ne _ _ _ (Ne.symm hi.2.2.1),nth_upd_ne _ _ _ (Ne.symm hi.1),nth_upd_ne _ _ _ (Ne.symm hi.2.1)],fun i hi=>by simp[hi]⟩ h1,
         hkeys (h1.dirty _ (by simp)) (h1.dirty _ (by simp)) h2,fun hh=>h3 ?_⟩
        obtain⟨hlt,hh',hne⟩:=gone_ok hg.2 hh;obtain⟨F,loc,hh'⟩:=hh';have hkk:k≠key:=hne k (by rw[hk];simp) (by rw[hk];simp);have hjk:j≠key:=hne j (by rw[hj];simp) (by rw[hj];simp);obtain⟨loc',this⟩:=hh'.moveB (k:=k) (j:=j) (key:=key) (T:=T') (sz:=sz) (es:=es) (d:=key::j::k::st.dirty) (by
         show nth .none (upd st.objs key .none) k=_;rw[nth_upd_ne _ _ _ (Ne.symm hkk)];exact hk) (by
         show nth .none (upd st.objs key .none) j=_;rw[nth_upd_ne _ _ _ (Ne.symm hjk)];exact hj) (nth_upd_same _ _ _ hlt) (by rw[length_upd];exact hlt)
        have he:upd (upd (upd st.objs key .none) j .dead) key (.arr sz es false)=upd (upd st.objs j .dead) key (.arr sz es false):=by rw[upd_swap st.objs key j _ _ (.inl (Ne.symm hjk))];simp[upd_eq]
        simp only[he]at this;exact⟨F,loc',this⟩
       ·simp at h
      ·simp at h
    ·simp at h
   ·simp at h
  ·simp at h
 | .mix k ms::r,st,m,h=>by
  simp only[normL]at h;split at h
  ·rename_i st' hm;obtain⟨g1,g2,g3⟩:=mixN_ok (C:=C) (B:=B) (F0:=F0) (w0:=w0) (a:=a) (w:=w) hm (by simp);obtain⟨h1,h2,h3⟩:=normL_ok h;refine⟨Frame.trans' (Frame.trans' (s':=⟨st.tmps,st.objs,k::st.dirty⟩) ⟨rfl,rfl,fun _ _=>rfl,fun _ _=>rfl,fun i hi=>by simp[hi]⟩ (g1.mono fun t ht=>by simp at ht)) h1,fun j hj=>?_,fun hh=>h3 (g3 (has_same hh rfl rfl))⟩;simp only[keysOf,List.mem_cons,List.mem_append]at hj;rcases hj with rfl|hj|hj
   ·exact h1.dirty _ (g1.dirty _ (by simp))
   ·exact h1.dirty _ (g2 j hj)
   ·exact h2 j hj
  ·simp at h
structure Norm (mt ms:List Nat) (locs:List Loc) (st m:St):Prop where
 lt:m.tmps.length=st.tmps.length
 lo:m.objs.length=st.objs.length
 tin:∀t,t∈mt→t∉slotsOf locs→nth .any m.tmps t= .any
 tout:∀t,t∉mt→t∉slotsOf locs→nth .any m.tmps t=nth .any st.tmps t
 oin:∀k,k∈ms→nth .none m.objs k= .none
 oout:∀k,k∉m.dirty→nth .none m.objs k=nth .none st.objs k
 dirty:∀k,k∈st.dirty∨k∈keysOf locs→k∈m.dirty
 ok:normOk locs m=true
omit [Env] in
theorem normOk_dirty (d d':List Nat) (t:List V) (o:List Obj):∀(locs:List Loc),normOk locs ⟨t,o,d⟩=normOk locs ⟨t,o,d'⟩
 |[]=>rfl
 | .slot s z::r=>by simp only[normOk];rw[normOk_dirty d d' t o r]
 | .box k z::r=>by simp only[normOk];rw[normOk_dirty d d' t o r]
 | .own s key size::r=>by simp only[normOk];rw[normOk_dirty d d' t o r]
 | .bld k T key::r=>by simp only[normOk];rw[normOk_dirty d d' t o r]
 | .mix k ms::r=>by simp only[normOk];rw[normOk_dirty d d' t o r]
theorem norm_ok {mt ms:List Nat} {locs:List Loc} {st m:St} (h:norm mt ms locs st=some m):Norm mt ms locs st m∧(St.has C B F0 w0 st a w→St.has C B F0 w0 m a w):=by
 unfold norm at h;simp only[forgetQ_eq,forgetOQ_eq]at h;split at h
 ·simp at h
 ·rename_i s1 h1;split at h
  ·simp at h
  ·rename_i hc;simp only[Bool.or_eq_false_iff,Bool.not_eq_false']at hc;obtain⟨⟨hc1,hc2⟩,hc3⟩:=hc;simp only[Option.some.injEq]at h;subst h;obtain⟨f1,f2,f3⟩:=normL_ok (C:=C) (B:=B) (F0:=F0) (w0:=w0) (a:=a) (w:=w) h1;refine⟨⟨f1.lt.trans (forget_len _ _),(forgetO_len _ _).trans f1.lo,fun t ht hs=>?_,fun t ht hs=>?_,fun k hk=>forgetO_in _ _ (.inl hk),fun k hk=>?_,fun k hk=>?_,by rw[normOk_dirty _ []];exact hc3⟩,fun hh=>?_⟩
   ·rw[f1.tmps t hs];exact forget_in _ _ (.inl (mem_minus.2 ⟨ht,hs⟩))
   ·rw[f1.tmps t hs];exact forget_out _ _ fun h=>ht (mem_minus.1 h).1
   ·simp only[List.mem_append,not_or]at hk;show nth .none (forgetO s1.objs ms) k=_;rw[forgetO_out _ _ hk.1,f1.objs k hk.2]
   ·refine List.mem_append_right _ ?_;rcases hk with hk|hk
    ·exact f1.dirty k hk
    ·exact f2 k hk
   ·obtain⟨F,loc,hh'⟩:=f3 (has_forget _ hh);obtain⟨loc',hh'⟩:=hh'.forgets (ks:=ms) (objs':=forgetO s1.objs ms) (d:=ms++s1.dirty) (fun k hk=>forgetO_in _ _ (.inl hk)) (fun k hk=>forgetO_out _ _ hk) hc1 hc2;exact⟨F,loc',hh'⟩
end
end Eng
end
