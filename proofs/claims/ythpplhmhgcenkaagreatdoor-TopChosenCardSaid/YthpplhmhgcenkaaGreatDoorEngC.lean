import Derived.Test.YthpplhmhgcenkaaGreatDoorEngB
open Array renaming toList_append->Aw, getD->Bx, getElem?_eq_some_iff->Dd, getElem?_eq_getElem->Hu, ext'->Hv
open Bool renaming and_eq_true->Hx, or_eq_false_iff->Hy, or_eq_true->I0, not_eq_true'->I1
open Eng.CO renaming le->I2
open Eng.Obj.arr renaming injEq->I3
open Eng.St renaming has->J3, put->J4
open Go.Call renaming operands->Lm
open Go.Obj.cells renaming injEq->Lr
open Go.Op renaming operands->Ls
open Go.Region renaming binds->Lv, wanted->M0
open List renaming mem_singleton->M1, mem_cons->M2, mem_map->M3, mem_append_right->No, mem_append->Pl, mem_flatMap->P1, getElem?_cons_zero->Sz, getElem?_cons_succ->Tk, mem_cons_of_mem->Ts, getElem_mem->U0, map_congr_left->U3, rel_of_pairwise_cons->V1, getElem?_take_of_lt->W0, pairwise_append->W1, mem_of_mem_take->W2, mem_cons_self->ba, append_assoc->bb, not_mem_nil->bc, append_nil->bd, mem_range->be, set_comm->bh, map_nil->bm
open Nat renaming lt_or_ge->bv, eq_of_beq_eq_true->bw, zero_add->bx, not_lt->b7, add_assoc->b8, add_comm->b9, blt_eq->bF, testBit_or->cb, add_zero->cc
open Ne renaming symm->cg
open Option.some renaming injEq->cm, inj->cp
open Prod.mk renaming injEq->cv
section
namespace Eng
open Go Go.RowKit
variable [Env]
omit [Env] in
theorem Q1 {ρ:Operand->V}:∀(l:List Operand),VM ρ l=l.flatMap λx=>qk (ρ x)
 |[]=>rfl
 |x::r=>by simp only[VM,List.flatMap_cons];rw[Q1 r]
omit [Env] in
theorem yJ {ob:List Obj} {k:Nat}:∀{l:List Nat},k∈Ww ob l↔∃j∈l,k=j\/∃T q,nth .none ob j= .bld T q/\k∈qk q
 |[]=>by simp[Ww]
 |j::r=>by
  simp only[Ww,Pl];rw[yJ];constructor
  .rintro(h|⟨i,h1,h2⟩)
   .split at h
    .rename_i T q hq;rcases M2.1 h with rfl|h
     .exact⟨k,by simp,.inl rfl⟩
     .exact⟨j,by simp,.inr ⟨T,q,hq,h⟩⟩
    .simp only[M1]at h;exact⟨j,by simp,.inl h⟩
   .exact⟨i,by simp[h1],h2⟩
  .rintro⟨i,h1,h2⟩;rcases M2.1 h1 with rfl|h1
   .refine .inl ?_;rcases h2 with rfl|⟨T,q,hq,h2⟩
    .split<;>simp
    .rw[hq];simp[h2]
   .exact .inr ⟨i,h1,h2⟩
omit [Env] in
theorem kq {k:Nat}:∀{l:List V},k∈Ji l↔∃q∈l,k∈qk q
 |[]=>by simp[Ji]
 |v::r=>by
  simp only[Ji,Pl];rw[kq];constructor
  .rintro(h|⟨q,h1,h2⟩)
   .exact⟨v,by simp,h⟩
   .exact⟨q,by simp[h1],h2⟩
  .rintro⟨q,h1,h2⟩;rcases M2.1 h1 with rfl|h1
   .exact .inl h2
   .exact .inr ⟨q,h1,h2⟩
omit [Env] in
theorem qB {ob:List Obj} {k:Nat}:∀{l:List Nat},k∈wA ob l↔∃j∈l,k=j\/∃q,q∈qW (nth .none ob j)/\k∈qk q
 |[]=>by simp[wA]
 |j::r=>by
  simp only[wA,Pl];rw[qB];constructor
  .rintro(h|⟨i,h1,h2⟩)
   .split at h
    .rename_i T q hq;rcases M2.1 h with rfl|h
     .exact⟨k,by simp,.inl rfl⟩
     .exact⟨j,by simp,.inr ⟨q,by rw[hq];simp[qW],h⟩⟩
    .rename_i cs hq;rcases M2.1 h with rfl|h
     .exact⟨k,by simp,.inl rfl⟩
     .obtain⟨q,h1,h2⟩:=kq.1 h;exact⟨j,by simp,.inr ⟨q,by rw[hq];simpa [qW]using h1,h2⟩⟩
    .rename_i cs hq;rcases M2.1 h with rfl|h
     .exact⟨k,by simp,.inl rfl⟩
     .obtain⟨q,h1,h2⟩:=kq.1 h;exact⟨j,by simp,.inr ⟨q,by rw[hq];simpa [qW]using h1,h2⟩⟩
    .simp only[M1]at h;exact⟨j,by simp,.inl h⟩
   .exact⟨i,by simp[h1],h2⟩
  .rintro⟨i,h1,h2⟩;rcases M2.1 h1 with rfl|h1
   .refine .inl ?_;rcases h2 with rfl|⟨q,hq,h2⟩
    .split<;>simp
    .cases hi:nth .none ob i with
     |bld T q'=>rw[hi]at hq;simp only[qW,M1]at hq;subst hq;simp[h2]
     |box cs=>rw[hi]at hq;simp only[qW]at hq;exact Ts _ (kq.2 ⟨q,hq,h2⟩)
     |vec cs=>rw[hi]at hq;simp only[qW]at hq;exact Ts _ (kq.2 ⟨q,hq,h2⟩)
     |none=>rw[hi]at hq;simp[qW]at hq
     |dead=>rw[hi]at hq;simp[qW]at hq
     |arr _ _ _=>rw[hi]at hq;simp[qW]at hq
   .exact .inr ⟨i,h1,h2⟩
omit [Env] in
theorem yK {C:Cx} {o:Oper} {d:Nat} (h:o.dst=some d):d∈Tt C o:=by
 unfold Tt;rw[h]
 dsimp only
 split
 .split
  .split<;>simp
  .simp
 .simp
omit [Env] in
theorem WD {C:Cx} {dst:Option Nat} {f:Nat} {args:Array Operand} {ts:Array TypeId} {ty:TypeId} {pos:String} {after:Array Edge} {g:Option (Nat×Bool)} {k:Nat}:k∈Tt C ⟨dst,.call ⟨.value (.func f),args,ts⟩,ty,pos,after,g⟩↔Aq (C.wd f) dst k:=by
 unfold Tt Aq;cases dst with
 |none=>simp
 |some t=>
  dsimp only
  cases C.wd f with
  |true=>simp[eq_comm]
  |false=>simp[eq_comm]
omit [Env] in
theorem yi {o:Oper} {ρ:Operand->V} {ob:List Obj} {x:Operand} {k:Nat} (hx:x∈o.op.operands.toList) (hk:k∈qk (ρ x)):k∈opk o ρ ob:=by
 unfold opk;split
 .rw[qB,Q1];exact⟨k,P1.2 ⟨x,hx,hk⟩,.inl rfl⟩
 .rw[yJ,Q1];exact⟨k,P1.2 ⟨x,hx,hk⟩,.inl rfl⟩
def Ag (c:Nat) (x y:Obj):Prop:=x=y\/(c<=1/\∃s es fz fz',x= .arr s es fz/\y= .arr s es fz')
omit [Env] in
theorem Ag.symm {c:Nat} {x y:Obj} (h:Ag c x y):Ag c y x:=by
 rcases h with h|⟨h,s,es,fz,fz',h1,h2⟩
 .exact .inl h.symm
 .exact .inr ⟨h,s,es,fz',fz,h2,h1⟩
section
variable {C:Cx} {ob ob':List Obj}
omit [Env] in
theorem yL {c:Nat}:∀{cs:List VC},(∀k∈jG cs,Ag c (nth .none ob k) (nth .none ob' k))->dataC ob cs=dataC ob' cs
 |[],_=>rfl
 | .d d::r,h=>by simp only[dataC,VI];rw[yL (cs:=r) λk hk=>h k (by simpa [jG]using hk)]
 | .nil::r,h=>by simp only[dataC,VI];rw[yL (cs:=r) λk hk=>h k (by simpa [jG]using hk)]
 | .arr j::r,h=>by
  simp only[dataC,VI];rw[yL (cs:=r) λk hk=>h k (by simp[jG,hk])];rcases h j (by simp[jG])with h|⟨_,s,es,fz,fz',h1,h2⟩
  .simp only[h]
  .simp only[h1,h2]
omit [Env] in
theorem Uf {c:Nat} {v:V} (h:∀k∈qk v,Ag c (nth .none ob k) (nth .none ob' k)):cellsOf ob v=cellsOf ob' v:=by
 cases v<;>try rfl
 .rename_i k;rcases h k (by simp[qk])with h|⟨_,s,es,fz,fz',h1,h2⟩
  .simp only[cellsOf,h]
  .simp only[cellsOf,h1,h2]
 .rename_i cs;simp only[cellsOf];rw[yL (cs:=cs) λk hk=>h k hk]
omit [Env] in
theorem If {c:Nat} {v:V} (h:∀k∈qk v,Ag c (nth .none ob k) (nth .none ob' k)):toA ob v=toA ob' v:=by
 cases v<;>try rfl
 .rename_i k;rcases h k (by simp[qk])with h|⟨_,s,es,fz,fz',h1,h2⟩
  .simp only[toA,h]
  .simp only[toA,h1,h2]
 .rename_i cs;simp only[toA];rw[yL (cs:=cs) λk hk=>h k hk]
omit [Env] in
theorem Gh {c:Nat} {v:V} (h:∀k∈qk v,Ag c (nth .none ob k) (nth .none ob' k)):yb ob v=yb ob' v:=by
 cases v with
 |c d=>cases d<;>rfl
 |arr k=>?_
 |_=>rfl
 rcases h k (by simp[qk])with h|⟨_,s,es,fz,fz',h1,h2⟩
 .simp only[yb,h]
 .simp only[yb,h1,h2]
omit [Env] in
theorem TD {c:Nat} {v:V} (h:∀k∈qk v,Ag c (nth .none ob k) (nth .none ob' k)):vM ob v=vM ob' v:=by
 have he:=Gh h;cases v with
 |sub k o l=>?_
 |_=>simp only[vM,he]
 rcases h k (by simp[qk])with h|⟨_,s,es,fz,fz',h1,h2⟩
 .simp only[vM,h]
 .simp only[vM,h1,h2]
omit [Env] in
theorem jb {c:Nat}:∀{vs:List V},(∀v∈vs,∀k∈qk v,Ag c (nth .none ob k) (nth .none ob' k))->jV ob vs=jV ob' vs
 |[],_=>rfl
 |v::vs,h=>by simp only[jV];rw[If (h v (by simp)),jb λu hu=>h u (by simp[hu])]
omit [Env] in
theorem XQ {c:Nat} {ρ:Operand->V}:∀{ps:List (Nat×Operand)},(∀p∈ps,∀k∈qk (ρ p.2),Ag c (nth .none ob k) (nth .none ob' k))->zb ob ρ ps=zb ob' ρ ps
 |[],_=>rfl
 |(i,x)::ps,h=>by simp only[zb];rw[Uf (h (i,x) (by simp)),XQ λu hu=>h u (by simp[hu])]
omit [Env] in
theorem WE {ob:List Obj} {ts:Array TypeId} {v:V} (h:∀k o l,v≠ .sub k o l):X5 C ob ts v= .fail:=by
 unfold X5;split
 .split
  .split
   .exact absurd rfl (h _ _ _)
   .rfl
  .rfl
 .rfl
omit [Env] in
theorem TE:∀{vs:List V},(∀v∈vs,∀k∈qk v,Ag 2 (nth .none ob k) (nth .none ob' k))->VK ob vs=VK ob' vs
 |[],_=>rfl
 |v::vs,h=>by
  have ih:=TE (vs:=vs) λu hu=>h u (by simp[hu])
  cases v with
  |box k off=>
   cases off with
   |zero=>
    rcases h _ (ba ..) k (by simp[qk])with h1|⟨h1,_⟩
    .simp only[VK,h1,ih]
    .omega
   |succ n=>rfl
  |eref es i off=>
   unfold VK;split
   .rename_i h0;cases h0
   .rw[ih]
   .rfl
  |_=>rfl
theorem C5 [EffOk C] {o:Oper} {ρ:Operand->V} (hk:cls C o=0\/∀k∈opk o ρ ob,Ag (cls C o) (nth .none ob k) (nth .none ob' k)) (hd1:∀d,d∈Tt C o->qy ob d=qy ob' d):xp C o ρ ob=xp C o ρ ob':=by
 have hd:∀d,o.dst=some d->qy ob d=qy ob' d:=λd h=>hd1 d (yK h)
 obtain⟨a4,op,ty,a6,a2,g⟩:=o;have a1:∀{c:Nat} (x:Operand),x∈op.operands.toList->(c=0\/∀k∈opk ⟨a4,op,ty,a6,a2,g⟩ ρ ob,Ag c (nth .none ob k) (nth .none ob' k))->c≠0->∀k∈qk (ρ x),Ag c (nth .none ob k) (nth .none ob' k):=by
  intro c x hx h hc k hkx;rcases h with h|h
  .exact absurd h hc
  .exact h k (yi hx hkx)
 cases op with
 |move x=>rfl
 |assign x=>rfl
 |pick c x y=>rfl
 |binOp op t x y t2=>rfl
 |unOp op t x=>rfl
 |convert s t x=>rfl
 |field t x f=>rfl
 |index t x i=>rfl
 |extract x i=>rfl
 |alloc t=>
  cases a4 with
  |none=>rfl
  |some d=>simp only[xp];rw[hd d rfl]
 |box t x=>
  cases a4 with
  |none=>rfl
  |some d=>simp only[xp];rw[hd d rfl]
 |makeSlice t x y=>
  cases a4 with
  |none=>rfl
  |some d=>simp only[xp];rw[hd d rfl]
 |build t parts=>
  have h1:zb ob ρ parts.toList=zb ob' ρ parts.toList:=XQ λp hp=>a1 (c:=1) p.2 (by simp only[Ls];exact M3.2 ⟨p,hp,rfl⟩) hk (by simp)
  simp only[xp,h1]
 |buildSlice t len parts=>
  have h1:zb ob ρ parts.toList=zb ob' ρ parts.toList:=XQ λp hp=>a1 (c:=1) p.2 (by simp only[Ls];exact M3.2 ⟨p,hp,rfl⟩) hk (by simp)
  cases a4 with
  |none=>rfl
  |some d=>
   have h2:∀e,X6 C.P d ob e len (JU ρ parts.toList)=X6 C.P d ob' e len (JU ρ parts.toList):=λe=>by
    cases hv:JU ρ parts.toList<;>try rfl
    rename_i j;obtain⟨x,hp,hx⟩:=Ke hv (by simp);have h2:=a1 (c:=1) x (by simp only[Ls];exact M3.2 ⟨(0,x),by rw[hp];simp,rfl⟩) hk (by simp);rw[hx]at h2;rcases h2 j (by simp[qk])with h|⟨_,s,es,fz,a3,h3,h4⟩
    .simp only[X6,h]
    .simp only[X6,h3,h4]
   simp only[xp,h1,h2];rw[hd d rfl]
 |load t x=>
  have h1:=a1 (c:=1) x (by simp[Ls]) hk (by simp);simp only[xp,OH];cases hx:ρ x<;>try rfl
  .rename_i k a5;rw[hx]at h1;rcases h1 k (by simp[qk])with h|⟨_,s,es,fz,a3,h1,h2⟩
   .simp only[h]
   .simp only[h1,h2]
  .rename_i k i a5;rw[hx]at h1;rcases h1 k (by simp[qk])with h|⟨_,s,es,fz,a3,h1,h2⟩
   .simp only[h]
   .simp only[h1,h2]
 |nilCheck x=>
  have h1:=a1 (c:=1) x (by simp[Ls]) hk (by simp);simp only[xp];cases hx:ρ x<;>try rfl
  rename_i k a5;rw[hx]at h1;rcases h1 k (by simp[qk])with h|⟨_,s,es,fz,a3,h1,h2⟩
  .simp only[h]
  .simp only[h1,h2]
 |fieldAddr t x f=>
  have h1:=a1 (c:=1) x (by simp[Ls]) hk (by simp);simp only[xp];cases hx:ρ x<;>try rfl
  .rename_i k a5;rw[hx]at h1;rcases h1 k (by simp[qk])with h|⟨_,s,es,fz,a3,h1,h2⟩
   .simp only[h]
   .simp only[h1,h2]
  .rename_i k i a5;rw[hx]at h1;rcases h1 k (by simp[qk])with h|⟨_,s,es,fz,a3,h1,h2⟩
   .simp only[h]
   .simp only[h1,h2]
 |indexAddr t x i=>
  have h1:=a1 (c:=1) x (by simp[Ls]) hk (by simp);simp only[xp,vj];cases hx:ρ x with
  |c d=>cases d<;>rfl
  |box k a5=>?_
  |arr k=>?_
  |sub k o l=>?_
  |vec k l=>?_
  |gl g a5=>cases a5<;>rfl
  |_=>rfl
  .rw[hx]at h1;rcases h1 k (by simp[qk])with h|⟨_,s,es,fz,a3,h1,h2⟩
   .simp only[h]
   .simp only[h1,h2]
  .rw[hx]at h1;rcases h1 k (by simp[qk])with h|⟨_,s,es,fz,a3,h1,h2⟩
   .simp only[h]
   .simp only[h1,h2]
  .rw[hx]at h1;rcases h1 k (by simp[qk])with h|⟨_,s,es,fz,a3,h1,h2⟩
   .simp only[h]
   .simp only[h1,h2]
  .rw[hx]at h1;rcases h1 k (by simp[qk])with h|⟨_,s,es,fz,a3,h1,h2⟩
   .simp only[h]
   .simp only[h1,h2]
 |slice t x lo hi mx=>
  have h1:yb ob (ρ x)=yb ob' (ρ x):=Gh (a1 (c:=1) x (by simp[Ls]) hk (by simp));have h2:=a1 (c:=1) x (by simp[Ls]) hk (by simp);have h3:∀lo hi mx,VJ C.P t ob (ρ x) lo hi mx=VJ C.P t ob' (ρ x) lo hi mx:=by
   intro lo hi mx;unfold VJ;cases C.P.underlying t with
   |none=>rfl
   |some d=>cases d with
    |slice e=>
     dsimp only
     cases zQ C.P e with
     |none=>rfl
     |some z=>cases hx:ρ x with
      |arr k=>
       rw[hx]at h2
       dsimp only
       rcases h2 k (by simp[qk])with h|⟨_,s,es,fz,a3,h1,h2⟩
       .simp only[h]
       .simp only[h1,h2]
      |_=>rfl
    |_=>rfl
  simp only[xp,Wu,Wt,h1,h3]
 |store t p x=>
  have h1:=a1 (c:=2) p (by simp[Ls]) hk (by simp);have h2:=a1 (c:=2) x (by simp[Ls]) hk (by simp);have e1:∀k,k∈qk (ρ p)->nth .none ob k=nth .none ob' k:=λk hkk=>by
   rcases h1 k hkk with h|⟨h,_⟩
   .exact h
   .omega
  have e2:∀k,k∈qk (ρ x)->nth .none ob k=nth .none ob' k:=λk hkk=>by
   rcases h2 k hkk with h|⟨h,_⟩
   .exact h
   .omega
  simp only[xp,YV];cases hp:ρ p<;>try rfl
  .rename_i k a5;rw[hp]at e1
   dsimp only
   rw[e1 k (by simp[qk])];cases hx:ρ x<;>try rfl
   rename_i j;rw[hx]at e2
   dsimp only
   rw[e2 j (by simp[qk])]
  .rename_i k i a5;rw[hp]at e1
   dsimp only
   rw[e1 k (by simp[qk])]
 |makeFunc fn first captured=>
  simp only[xp];split
  .have h1:VK ob (captured.toList.map ρ)=VK ob' (captured.toList.map ρ):=TE λv hv=>by obtain⟨x,hx,rfl⟩:=M3.1 hv;exact a1 (c:=2) x (by simp[Ls];exact .inr (by simpa using hx)) hk (by simp)
   rw[h1]
  .rfl
 |call c=>
  obtain⟨a7,a0,ts⟩:=c;simp only[xp];split
  .rename_i f;cases he:C.eff f with
   |none=>
    have ad:cls C ⟨a4,.call ⟨.value (.func f),a0,ts⟩,ty,a6,a2,g⟩=1:=by simp[cls,he]
    rw[ad]at hk;have h1:jV ob (a0.toList.map ρ)=jV ob' (a0.toList.map ρ):=jb λv hv=>by obtain⟨x,hx,rfl⟩:=M3.1 hv;exact a1 (c:=1) x (by simp[Ls,Lm];exact .inr (by simpa using hx)) hk (by simp)
    simp only[kE,h1]
   |some e=>
    have ad:cls C ⟨a4,.call ⟨.value (.func f),a0,ts⟩,ty,a6,a2,g⟩=2:=by simp[cls,he]
    rw[ad]at hk;refine EffOk.ag he _ _ _ _ (λk hkk=>?_) (λd hd'=>hd1 d (WD.2 hd'));rcases hk with h|h
    .simp at h
    .have hin:k∈opk ⟨a4,.call ⟨.value (.func f),a0,ts⟩,ty,a6,a2,g⟩ ρ ob:=by show k∈wA ob _;rw[qB]at hkk ⊢;obtain⟨j,h1,h2⟩:=hkk;refine⟨j,?_,h2⟩;rw[Q1];obtain⟨v,hv,hj⟩:=P1.1 h1;obtain⟨x,hx,rfl⟩:=M3.1 hv;exact P1.2 ⟨x,by simp only[Ls,Lm,Aw];exact No _ hx,hj⟩
     rcases h k hin with h|⟨h,_⟩
     .exact h
     .omega
  .rename_i t;have h1:jV ob (a0.toList.map ρ)=jV ob' (a0.toList.map ρ):=jb λv hv=>by obtain⟨x,hx,rfl⟩:=M3.1 hv;exact a1 (c:=1) x (by simp[Ls,Lm];exact .inr (by simpa using hx)) hk (by simp)
   split
   .split
    .rfl
    .simp only[kE,h1]
   .rename_i f ps _;have h2:jV ob (a0.toList.map ρ++ps.map V.c)=jV ob' (a0.toList.map ρ++ps.map V.c):=jb (c:=1) λv hv=>by
     rcases Pl.1 hv with hv|hv
     .obtain⟨x,hx,rfl⟩:=M3.1 hv;exact a1 (c:=1) x (by simp[Ls,Lm];exact .inr (by simpa using hx)) hk (by simp)
     .obtain⟨d,_,rfl⟩:=M3.1 hv;intro k hk;simp[qk]at hk
    split
    .rfl
    .simp only[kE,h2]
   .rfl
  .split
   .rename_i x hx;have:a0= #[x]:=by apply Hv;simpa using hx
    subst this;have h1:=a1 (c:=1) x (by simp[Ls,Lm]) hk (by simp);simp only[AV];cases hx:ρ x with
    |c d=>cases d<;>rfl
    |arr k=>?_
    |sub k o l=>?_
    |vec k l=>?_
    |_=>rfl
    .rw[hx]at h1;rcases h1 k (by simp[qk])with h|⟨_,s,es,fz,a3,h1,h2⟩
     .simp only[h]
     .simp only[h1,h2]
    .rw[hx]at h1;rcases h1 k (by simp[qk])with h|⟨_,s,es,fz,a3,h1,h2⟩
     .simp only[h]
     .simp only[h1,h2]
    .rw[hx]at h1;rcases h1 k (by simp[qk])with h|⟨_,s,es,fz,a3,h1,h2⟩
     .simp only[h]
     .simp only[h1,h2]
   .rfl
  .split
   .rename_i x y hx;have:a0= #[x,y]:=by apply Hv;simpa using hx
    subst this;have h1:=a1 (c:=2) x (by simp[Ls,Lm]) hk (by simp);have h2:vM ob (ρ y)=vM ob' (ρ y):=TD (a1 (c:=2) y (by simp[Ls,Lm]) hk (by simp));cases a4 with
    |none=>rfl
    |some d=>
     have hl:∀v,(∀k∈qk v,Ag 2 (nth .none ob k) (nth .none ob' k))->Ck ob v=Ck ob' v:=λv h=>by
      cases v<;>try rfl
      rename_i k n;rcases h k (by simp[qk])with h|⟨h,_⟩
      .simp only[Ck,h]
      .omega
     have hw:∀e,yc C.P d ob e (ρ x) (ρ y)=yc C.P d ob' e (ρ x) (ρ y):=λe=>by unfold yc;rw[hl _ h1,hl _ (a1 (c:=2) y (by simp[Ls,Lm]) hk (by simp))]
     simp only[X4,h2,hw];rw[hd d rfl];cases hx:ρ x<;>try rfl
     all_goals
      rw[hx]at h1;rcases h1 _ (by simp[qk];rfl)with h|⟨h,_⟩
      .dsimp only
       rw[h]
      .omega
   .rfl
  .split
   .rename_i x hx;have:a0= #[x]:=by apply Hv;simpa using hx
    subst this;have h1:=a1 (c:=2) x (by simp[Ls,Lm]) hk (by simp);by_cases hs:∃k o l,ρ x= .sub k o l
    .obtain⟨k,o,l,hx⟩:=hs;rw[hx]at h1 ⊢;rcases h1 k (by simp[qk])with h|⟨h,_⟩
     .unfold X5;split
      .split
       .split
        .rename_i hv;simp only[V.sub.injEq]at hv;obtain⟨rfl,rfl,rfl⟩:=hv;rw[h]
        .rfl
       .rfl
      .rfl
     .omega
    .have al:∀k o l,ρ x≠ .sub k o l:=λk o l e=>hs ⟨k,o,l,e⟩
     rw[WE al,WE al]
   .rfl
  .rfl
  .rfl
  .rfl
 |_=>rfl
end
end Eng
end
section
namespace Eng
open Go Go.RowKit
variable [Env]
section
variable {C:Cx} {ob:List Obj}
omit [Env] in
theorem wO {ρ ρ':Operand->V}:∀{ps:List (Nat×Operand)},(∀p∈ps,ρ p.2=ρ' p.2)->zb ob ρ ps=zb ob ρ' ps
 |[],_=>rfl
 |(i,x)::ps,h=>by simp only[zb];rw[h (i,x) (by simp),wO λu hu=>h u (by simp[hu])]
omit [Env] in
theorem Ug {o:Oper} {ρ ρ':Operand->V} (h:∀x∈o.op.operands.toList,ρ x=ρ' x):xp C o ρ ob=xp C o ρ' ob:=by
 obtain⟨dst,op,ty,pos,a3,g⟩:=o;cases op with
 |alloc t=>rfl
 |move x|assign x|unOp op t x|convert s t x|field t x f|extract x i|box t x|load t x|nilCheck x|fieldAddr t x f=>simp only[xp];rw[h x (by simp[Ls])]
 |pick c x y=>simp only[xp];rw[h c (by simp[Ls]),h x (by simp[Ls]),h y (by simp[Ls])]
 |binOp op t x y t2=>simp only[xp];rw[h x (by simp[Ls]),h y (by simp[Ls])]
 |index t x y=>simp only[xp];rw[h x (by simp[Ls]),h y (by simp[Ls])]
 |indexAddr t x y=>simp only[xp];rw[h x (by simp[Ls]),h y (by simp[Ls])]
 |makeSlice t x y=>simp only[xp];rw[h x (by simp[Ls]),h y (by simp[Ls])]
 |store t x y=>simp only[xp];rw[h x (by simp[Ls]),h y (by simp[Ls])]
 |slice t x lo hi mx=>
  have ho:∀z:Option Operand,(∀x,z=some x->ρ x=ρ' x)->za ρ z=za ρ' z:=λz hz=>by
   cases z with
   |none=>rfl
   |some x=>simp only[za];rw[hz x rfl]
  simp only[xp];rw[h x (by simp[Ls]),ho lo (λy hy=>h y (by subst hy;simp[Ls])),ho hi (λy hy=>h y (by subst hy;simp[Ls])),ho mx (λy hy=>h y (by subst hy;simp[Ls]))]
 |build t parts=>
  have h1:zb ob ρ parts.toList=zb ob ρ' parts.toList:=wO λp hp=>h p.2 (by simp only[Ls];exact M3.2 ⟨p,hp,rfl⟩)
  simp only[xp,h1]
 |buildSlice t len parts=>
  have h1:zb ob ρ parts.toList=zb ob ρ' parts.toList:=wO λp hp=>h p.2 (by simp only[Ls];exact M3.2 ⟨p,hp,rfl⟩)
  have h2:JU ρ parts.toList=JU ρ' parts.toList:=by
   unfold JU;split
   .rename_i x hx;exact h x (by simp only[Ls];exact M3.2 ⟨(0,x),by rw[hx];simp,rfl⟩)
   .rfl
  simp only[xp,h1,h2]
 |makeFunc fn first captured=>
  have hc:captured.toList.map ρ=captured.toList.map ρ':=U3 λx hx=>h x (by simp only[Ls,Aw];exact No _ hx)
  simp only[xp];rw[hc]
 |call c=>
  obtain⟨a2,a1,ts⟩:=c;have a0:∀x∈a1.toList,ρ x=ρ' x:=λx hx=>h x (by
   simp only[Ls,Lm,Aw];exact No _ hx)
  simp only[xp];split
  .rw[U3 a0]
  .rename_i t;rw[U3 a0,h (.tmp t) (by simp[Ls,Lm])]
  .split
   .rename_i x hx;rw[a0 x (by rw[hx];simp)]
   .rfl
  .split
   .rename_i x y hx;rw[a0 x (by rw[hx];simp),a0 y (by rw[hx];simp)]
   .rfl
  .split
   .rename_i x hx;rw[a0 x (by rw[hx];simp)]
   .rfl
  .split
   .rename_i x y hx;rw[a0 x (by rw[hx];simp),a0 y (by rw[hx];simp)]
   .rfl
  .split
   .rename_i x y hx;rw[a0 x (by rw[hx];simp),a0 y (by rw[hx];simp)]
   .rfl
  .rfl
 |_=>rfl
def UOk (C:Cx) (o:Oper) (ρ:Operand->V) (ob:List Obj) (up:List (Nat×Obj)) (p:Nat×Obj):Prop:=
 ((p.1∈Tt C o/\qy ob p.1=true)\/(p.1∈opk o ρ ob/\cls C o≠0/\nth .none ob p.1≠ .none/\(cls C o<=1->∃s es fz,nth .none ob p.1= .arr s es fz/\p.2= .arr s es true)))/\
 p.2≠ .none/\∀u∈qW p.2,VOk ob up u
def GoodR (C:Cx) (o:Oper) (ρ:Operand->V) (ob:List Obj):R->Prop
 | .fail=>True
 | .ok v up=>(∀p∈up,UOk C o ρ ob up p)/\VOk ob up v
 | .cond (dc:=_) _ v up=>(∀p∈up,UOk C o ρ ob up p)/\VOk ob up v
 | .look .. =>True
 | .call _ _ _ up=>∀p∈up,UOk C o ρ ob up p
omit [Env] in
theorem Js (v:Value):qk (vL v)=[]:=by
 unfold vL;split<;>try rfl
 split<;>rfl
def FzOk (vs:List V) (ob:List Obj) (us:List (Nat×Obj)):Prop:=∀p∈us,(∃v∈vs,p.1∈qk v)/\∃s es fz,nth .none ob p.1= .arr s es fz/\p.2= .arr s es true
omit [Env] in
theorem Kh:∀{cs:List VC} {ds:List D} {us:List (Nat×Obj)},dataC ob cs=some (ds,us)->∀p∈us,p.1∈jG cs/\∃s es fz,nth .none ob p.1= .arr s es fz/\p.2= .arr s es true
 |[],ds,us,h,p,hp=>by simp only[dataC,cm,cv]at h;obtain⟨_,rfl⟩:=h;simp at hp
 |c::r,ds,us,h,p,hp=>by
  simp only[dataC]at h;split at h
  .rename_i d u ds' us' h1 h2;simp only[cm,cv]at h;obtain⟨_,rfl⟩:=h;rcases Pl.1 hp with hp|hp
   .unfold VI at h1;split at h1
    .simp only[cm,cv]at h1;obtain⟨_,rfl⟩:=h1;simp at hp
    .simp only[cm,cv]at h1;obtain⟨_,rfl⟩:=h1;simp at hp
    .split at h1
     .rename_i k _ s es fz hk;simp only[cm,cv]at h1;obtain⟨_,rfl⟩:=h1;simp only[M1]at hp;subst hp;exact⟨by simp[jG],_,_,_,hk,rfl⟩
     .simp at h1
   .obtain⟨q1,q2⟩:=Kh h2 p hp;exact⟨xC.2 (Ts _ (xC.1 q1)),q2⟩
  .simp at h
omit [Env] in
theorem Uh {v:V} {ds:List D} {us:List (Nat×Obj)} (h:cellsOf ob v=some (ds,us)):FzOk [v] ob us:=by
 unfold cellsOf at h;split at h<;>try (simp only[cm,cv]at h;obtain⟨_,rfl⟩:=h;exact λ_ hp=>absurd hp (by simp))
 .split at h
  .rename_i k _ s es fz hk;simp only[cm,cv]at h;obtain⟨_,rfl⟩:=h;intro p hp;simp only[M1]at hp;subst hp;exact⟨⟨.arr k,by simp,by simp[qk]⟩,_,_,_,hk,rfl⟩
  .simp at h
 .rename_i cs;intro p hp;obtain⟨q1,q2⟩:=Kh h p hp;exact⟨⟨_,M1.2 rfl,q1⟩,q2⟩
 .simp at h
omit [Env] in
theorem Ig {v:V} {d:A} {us:List (Nat×Obj)} (h:toA ob v=some (d,us)):FzOk [v] ob us:=by
 unfold toA at h;split at h<;>try (simp only[cm,cv]at h;obtain⟨_,rfl⟩:=h;exact λ_ hp=>absurd hp (by simp))
 .split at h
  .rename_i k _ s es fz hk;simp only[cm,cv]at h;obtain⟨_,rfl⟩:=h;intro p hp;simp only[M1]at hp;subst hp;exact⟨⟨.arr k,by simp,by simp[qk]⟩,_,_,_,hk,rfl⟩
  .simp at h
 .split at h
  .rename_i cs ds' us' h2;simp only[cm,cv]at h;obtain⟨_,rfl⟩:=h;intro p hp;obtain⟨q1,q2⟩:=Kh h2 p hp;exact⟨⟨_,M1.2 rfl,q1⟩,q2⟩
  .simp at h
 .simp at h
omit [Env] in
theorem Pg {v:V} {d:List (List D)} {us:List (Nat×Obj)} (h:yb ob v=some (d,us)):FzOk [v] ob us:=by
 unfold yb at h;split at h<;>try (simp only[cm,cv]at h;obtain⟨_,rfl⟩:=h;exact λ_ hp=>absurd hp (by simp))
 .split at h
  .rename_i k _ s es fz hk;simp only[cm,cv]at h;obtain⟨_,rfl⟩:=h;intro p hp;simp only[M1]at hp;subst hp;exact⟨⟨.arr k,by simp,by simp[qk]⟩,_,_,_,hk,rfl⟩
  .simp at h
 .simp at h
omit [Env] in
theorem FzOk.mono {vs vs':List V} {us:List (Nat×Obj)} (h:FzOk vs ob us) (hs:∀v∈vs,v∈vs'):FzOk vs' ob us:=λp hp=>by
 obtain⟨⟨v,h1,h2⟩,h3⟩:=h p hp;exact⟨⟨v,hs v h1,h2⟩,h3⟩
omit [Env] in
theorem FzOk.append {vs:List V} {us us':List (Nat×Obj)} (h:FzOk vs ob us) (h':FzOk vs ob us'):FzOk vs ob (us++us'):=λp hp=>by
 rcases Pl.1 hp with hp|hp
 .exact h p hp
 .exact h' p hp
omit [Env] in
theorem ke:∀{vs:List V} {ds:List A} {us:List (Nat×Obj)},jV ob vs=some (ds,us)->FzOk vs ob us
 |[],ds,us,h=>by simp only[jV,cm,cv]at h;obtain⟨_,rfl⟩:=h;exact λ_ hp=>absurd hp (by simp)
 |v::vs,ds,us,h=>by
  simp only[jV]at h;split at h
  .rename_i d u as us' h1 h2;simp only[cm,cv]at h;obtain⟨_,rfl⟩:=h;exact((Ig h1).mono (by simp)).append ((ke h2).mono λv hv=>by simp[hv])
  .simp at h
omit [Env] in
theorem yM {ρ:Operand->V}:∀{ps:List (Nat×Operand)} {qs:List (Nat×List D)} {us:List (Nat×Obj)},zb ob ρ ps=some (qs,us)->FzOk (ps.map λp=>ρ p.2) ob us
 |[],ds,us,h=>by simp only[zb,cm,cv]at h;obtain⟨_,rfl⟩:=h;exact λ_ hp=>absurd hp (by simp)
 |(i,x)::vs,ds,us,h=>by
  simp only[zb]at h;split at h
  .rename_i d u as us' h1 h2;simp only[cm,cv]at h;obtain⟨_,rfl⟩:=h;exact((Uh h1).mono (by simp)).append ((yM h2).mono λv hv=>by simp only[List.map_cons,M2];exact .inr hv)
  .simp at h
omit [Env] in
theorem FzOk.up {o:Oper} {ρ:Operand->V} {vs:List V} {us:List (Nat×Obj)} (h:FzOk vs ob us) (hv:∀v∈vs,∃x∈o.op.operands.toList,ρ x=v) (hc:cls C o≠0) (up:List (Nat×Obj)):∀p∈us,UOk C o ρ ob up p:=λp hp=>by
 obtain⟨⟨v,h1,h2⟩,s,es,fz,h3,h4⟩:=h p hp;obtain⟨x,hx,rfl⟩:=hv v h1;exact⟨.inr ⟨yi hx h2,hc,by rw[h3];simp,λ_=>⟨s,es,fz,h3,h4⟩⟩,by rw[h4];simp,λu hu=>by rw[h4]at hu;simp[qW]at hu⟩
omit [Env] in
theorem GoodR.data {o:Oper} {ρ:Operand->V} {v:V} (hv:qk v=[]):GoodR C o ρ ob (.ok v []):=⟨λ_ h=>absurd h (by simp),λk hk=>by rw[hv]at hk;simp at hk⟩
omit [Env] in
theorem GoodR.dataC {o:Oper} {ρ:Operand->V} {c:Prop} [Decidable c] {v:V} (hv:qk v=[]):GoodR C o ρ ob (.cond c v []):=⟨λ_ h=>absurd h (by simp),λk hk=>by rw[hv]at hk;simp at hk⟩
omit [Env] in
theorem GoodR.same {o:Oper} {ρ:Operand->V} {v:V} (hv:∀k∈qk v,nth .none ob k≠ .none):GoodR C o ρ ob (.ok v []):=⟨λ_ h=>absurd h (by simp),λk hk=> .inl (hv k hk)⟩
omit [Env] in
theorem GoodR.sameC {o:Oper} {ρ:Operand->V} {c:Prop} [Decidable c] {v:V} (hv:∀k∈qk v,nth .none ob k≠ .none):GoodR C o ρ ob (.cond c v []):=⟨λ_ h=>absurd h (by simp),λk hk=> .inl (hv k hk)⟩
omit [Env] in
theorem GoodR.new {o:Oper} {ρ:Operand->V} {d:Nat} {x:Obj} {us:List (Nat×Obj)} {v:V} (hd:o.dst=some d) (hf:qy ob d=true) (hx:x≠ .none) (hc:∀u∈qW x,qk u=[]) (hu:∀p∈us,UOk C o ρ ob (us++[(d,x)]) p)
 (hv:∀k∈qk v,k=d):(∀p∈us++[(d,x)],UOk C o ρ ob (us++[(d,x)]) p)/\VOk ob (us++[(d,x)]) v:=by
 refine⟨λp hp=>?_,λk hk=> .inr ?_⟩
 .rcases Pl.1 hp with hp|hp
  .exact hu p hp
  .simp only[M1]at hp;subst hp;exact⟨.inl ⟨yK hd,hf⟩,hx,λu hu j hj=>by rw[hc u hu]at hj;simp at hj⟩
 .rw[hv k hk];exact⟨hf,x,by simp⟩
omit [Env] in
theorem GoodR.new2 {o:Oper} {ρ:Operand->V} {d:Nat} {x:Obj} {us:List (Nat×Obj)} {v:V} (hd:o.dst=some d) (hf:qy ob d=true) (hx:x≠ .none) (hc:∀u∈qW x,∀k∈qk u,nth .none ob k≠ .none) (hu:∀p∈us,UOk C o ρ ob (us++[(d,x)]) p)
 (hv:∀k∈qk v,k=d):(∀p∈us++[(d,x)],UOk C o ρ ob (us++[(d,x)]) p)/\VOk ob (us++[(d,x)]) v:=by
 refine⟨λp hp=>?_,λk hk=> .inr ?_⟩
 .rcases Pl.1 hp with hp|hp
  .exact hu p hp
  .simp only[M1]at hp;subst hp;exact⟨.inl ⟨yK hd,hf⟩,hx,λu hu j hj=> .inl (hc u hu j hj)⟩
 .rw[hv k hk];exact⟨hf,x,by simp⟩
omit [Env] in
theorem TF {o:Oper} {ρ:Operand->V} {P:Program} {op:BinOp} {t:TypeId} {x y:V}:GoodR C o ρ ob (eqV P op t x y):=by
 have hb:GoodR C o ρ ob (An op x y):=by
  unfold An;split
  .split
   .unfold shV;split<;>first|trivial|exact GoodR.data rfl|exact GoodR.dataC rfl
   split
   .trivial
   .split<;>first|trivial|exact GoodR.data rfl|exact GoodR.dataC rfl
  .split<;>first|trivial|exact GoodR.data rfl|exact GoodR.dataC rfl
  .trivial
 unfold eqV;split
 .split
  .split<;>first|trivial|exact GoodR.data rfl
  .trivial
 .unfold Ap;split
  .split
   .split<;>first|trivial|exact GoodR.dataC rfl
   .trivial
  .trivial
 .exact hb
omit [Env] in
theorem TG {o:Oper} {ρ:Operand->V} {P:Program} {op:BinOp} {t:TypeId} {xo yo:Operand} {x y:V}:GoodR C o ρ ob (Cj P op t xo yo x y):=by
 unfold Cj;split
 .split
  .split
   .split<;>first|trivial|exact GoodR.data rfl
   .trivial
  .trivial
 .split
  .split<;>first|trivial|exact GoodR.dataC rfl
  .trivial
 .exact TF
omit [Env] in
theorem Gi {o:Oper} {ρ:Operand->V} {big:Bool} {x y:V}:GoodR C o ρ ob (mxV big x y):=by
 unfold mxV;split
 .split
  .split<;>exact GoodR.data rfl
  .trivial
 .trivial
omit [Env] in
theorem Yb:∀{vs:List V} {ps:List D} {us:List (Nat×Obj)},VK ob vs=some (ps,us)->∀p∈us,(∃v∈vs,p.1∈qk v)/\(∃cells,nth .none ob p.1= .box cells)/\p.2= .dead
 |[],ps,us,h=>by simp only[VK,cm,cv]at h;obtain⟨_,rfl⟩:=h;exact λ_ hp=>absurd hp (by simp)
 |v::vs,ps,us,h=>by
  unfold VK at h;split at h
  .rename_i k;split at h
   .rename_i cells hk;split at h
    .rename_i ds ps' us' hds hr;simp only[cm,cv]at h;obtain⟨_,rfl⟩:=h;intro p hp;rcases M2.1 hp with rfl|hp
     .exact⟨⟨_,ba ..,by simp[qk]⟩,⟨_,hk⟩,rfl⟩
     .obtain⟨⟨u,q2,q3⟩,q4⟩:=Yb hr p hp;exact⟨⟨u,Ts _ q2,q3⟩,q4⟩
    .simp at h
   .simp at h
  .split at h
   .rename_i ps' us' hr;simp only[cm,cv]at h;obtain⟨_,rfl⟩:=h;intro p hp;obtain⟨⟨u,q2,q3⟩,q4⟩:=Yb hr p hp;exact⟨⟨u,Ts _ q2,q3⟩,q4⟩
   .simp at h
  .simp at h
omit [Env] in
theorem TH (f:Nat) (ps:List D):qk (funV f ps)=[]:=by cases ps<;>rfl
theorem TI [EffOk C] {o:Oper} {ρ:Operand->V} (hρ:∀x,∀k∈qk (ρ x),nth .none ob k≠ .none) (hb:∀k,∀u∈qW (nth .none ob k),∀j∈qk u,nth .none ob j≠ .none):GoodR C o ρ ob (xp C o ρ ob):=by
 obtain⟨a5,op,ty,ag,a0,g⟩:=o;cases op with
 |move x=>exact GoodR.same (hρ x)
 |assign x=>exact GoodR.same (hρ x)
 |pick c x y=>
  simp only[xp];split
  .split
   .exact GoodR.same (hρ x)
   .exact GoodR.same (hρ y)
  .trivial
 |binOp op t x y t2=>exact TG
 |unOp op t x=>simp only[xp,unV];split<;>first|trivial|exact GoodR.data rfl
 |convert s t x=>
  simp only[xp];split
  .split<;>first|trivial|exact GoodR.dataC rfl
  .split
   .unfold OG;split<;>first|trivial|exact GoodR.data rfl|exact GoodR.dataC rfl
   .trivial
 |field t x f=>
  simp only[xp]
  repeat' split
  all_goals first|trivial|exact GoodR.data rfl
 |index t x i=>simp only[xp];split<;>first|trivial|exact GoodR.dataC rfl
 |extract x i=>
  simp only[xp];split
  .repeat' split
   all_goals first|trivial|exact GoodR.data rfl
  .rename_i k as hv;split
   .exact GoodR.same λj hj=>hρ x j (by rw[hv];exact hj)
   .repeat' split
    all_goals first|trivial|exact GoodR.data rfl
  .trivial
 |alloc t=>
  simp only[xp];split
  .rename_i d;split
   .rename_i z hd hz;split
    .refine GoodR.new (us:=[]) (x:= .box (z.map vL)) rfl hd (by simp) (λv hv=>?_) (λ_ h=>absurd h (by simp)) (λk hk=>by simpa [qk]using hk);obtain⟨y,_,rfl⟩:=M3.1 hv;exact Js y
    .split
     .refine GoodR.new (us:=[]) (x:= .bld t .nilS) rfl hd (by simp) (λv hv=>?_) (λ_ h=>absurd h (by simp)) (λk hk=>by simpa [qk]using hk);simp[qW]at hv;subst hv;rfl
     .trivial
   .trivial
  .trivial
 |box t x=>
  simp only[xp];split
  .rename_i d;split
   .rename_i hd;split
    .exact GoodR.new (us:=[]) rfl hd (by simp) (λv hv=>by
      obtain⟨y,_,rfl⟩:=M3.1 hv;rfl) (λ_ h=>absurd h (by simp)) (λk hk=>by simpa [qk]using hk)
    .split
     .rename_i hkc;exact GoodR.new (us:=[]) rfl hd (by simp) (λv hv=>by
       obtain⟨c,hc,rfl⟩:=M3.1 hv;cases c with
       |arr k=>have:=xC.2 hc;rw[hkc]at this;simp at this
       |_=>rfl) (λ_ h=>absurd h (by simp)) (λk hk=>by simpa [qk]using hk)
     .trivial
    .exact GoodR.new (us:=[]) rfl hd (by simp) (λv hv=>by
      simp[qW]at hv;subst hv;rfl) (λ_ h=>absurd h (by simp)) (λk hk=>by simpa [qk]using hk)
    .exact GoodR.new (us:=[]) rfl hd (by simp) (λv hv=>by
      simp[qW]at hv;subst hv;rfl) (λ_ h=>absurd h (by simp)) (λk hk=>by simpa [qk]using hk)
    .trivial
   .trivial
  .trivial
 |makeSlice t x y=>
  simp only[xp];split
  .rename_i d;split
   .rename_i e hd he;split
    .split
     .split
      .exact GoodR.new (us:=[]) rfl hd (by simp) (λu hu=>by simp[qW]at hu) (λ_ h=>absurd h (by simp)) (λk hk=>by simpa [qk]using hk)
      .split
       .exact GoodR.new (us:=[]) rfl hd (by simp) (λu hu=>by rw[List.eq_of_mem_replicate (show u∈List.replicate _ V.nilS from hu)];rfl) (λ_ h=>absurd h (by simp)) (λk hk=>by simpa [qk]using hk)
       .trivial
     .trivial
    .trivial
   .trivial
  .trivial
 |build t parts=>
  simp only[xp];split
  .split
   .rename_i qs us hp;split
    .split
     .refine⟨(yM hp).up (λv hv=>?_) (by simp[cls]) _,λk hk=>by simp[qk]at hk⟩;obtain⟨p,hp,rfl⟩:=M3.1 hv;exact⟨p.2,by simp only[Ls];exact M3.2 ⟨p,hp,rfl⟩,rfl⟩
     .trivial
    .split
     .rename_i z _ _ _ _ hb;refine⟨(yM hp).up (λv hv=>?_) (by simp[cls]) _,λk hk=>?_⟩
      .obtain⟨p,hp,rfl⟩:=M3.1 hv;exact⟨p.2,by simp only[Ls];exact M3.2 ⟨p,hp,rfl⟩,rfl⟩
      .have hk:k∈jG _:=hk;rw[XN _ _ _ hb (kQ _)]at hk;simp at hk
     .trivial
   .trivial
  .trivial
 |buildSlice t len parts=>
  simp only[xp];split
  .rename_i d;split
   .rename_i e hd he;split
    .unfold X6;split
     .rename_i j hpv;split
      .split
       .obtain⟨x,_,hx⟩:=Ke hpv (by simp);exact GoodR.new2 (us:=[]) rfl hd (by simp) (λu hu k hk=>by
         have hu:u= .arr j:=by simpa [qW]using hu
         subst hu;exact hρ x k (by rw[hx];exact hk)) (λ_ h=>absurd h (by simp)) (λk hk=>by simpa [qk]using hk)
       .trivial
      .trivial
     .trivial
    split
    .rename_i z qs us hz hp;split
     .split
      .refine GoodR.new rfl hd (by simp) (λu hu=>by simp[qW]at hu) ((yM hp).up (λv hv=>?_) (by simp[cls]) _) (λk hk=>by simpa [qk]using hk);obtain⟨p,hp,rfl⟩:=M3.1 hv;exact⟨p.2,by simp only[Ls];exact M3.2 ⟨p,hp,rfl⟩,rfl⟩
      .trivial
     .trivial
    .trivial
   .trivial
  .trivial
 |load t x=>
  have hx:=hρ x;simp only[xp,OH];split
  .trivial
  .split
   .split
    .rename_i k a6 hv _ a1 hk;split
     .split
      .rename_i b4;split
       .exact GoodR.data rfl
       .split
        .rename_i vcs hvc;refine GoodR.same λk' hk'=>?_
         have hv2:=yg hvc;have a4:=of_decide_eq_true b4;have hm:V.arr k'∈vcs.map VC.v:=M3.2 ⟨_,xC.1 hk',rfl⟩;rw[<-hv2]at hm;rw[XF]at hm;obtain⟨j,_,hj,e⟩:=JY hm;refine hb k (.arr k') ?_ k' (by simp[qk]);rw[hk,<-e];show nth .any a1 j∈a1;rw[qm _ (by omega)];exact U0 _
        .trivial
      .trivial
     .split
      .rename_i b0;have b0:a6<a1.length:=by simpa using b0
       refine GoodR.same (hb k _ ?_);rw[hk,qm _ b0];exact U0 b0
      .trivial
    .rename_i k a6 hv _ a1 hk;split
     .trivial
     .split
      .rename_i b0;have b0:a6<a1.length:=by simpa using b0
       refine GoodR.same (hb k _ ?_);rw[hk];exact kc b0
      .trivial
    .trivial
   .trivial
   .split<;>trivial
   .trivial
 |nilCheck x=>
  have hx:=hρ x;simp only[xp];split
  .rename_i k a6 hv;rw[hv]at hx;split
   .exact GoodR.same hx
   .trivial
  .trivial
 |fieldAddr t x f=>
  have hx:=hρ x;simp only[xp];split
  .split
   .trivial
   .split
    .rename_i k a6 hv;rw[hv]at hx;split
     .exact GoodR.same hx
     .trivial
    .rename_i k i a6 hv;rw[hv]at hx;split
     .exact GoodR.same hx
     .trivial
    .exact GoodR.data rfl
    .trivial
  .trivial
 |indexAddr t x i=>
  have hx:=hρ x;simp only[xp,vj];split
  .split
   .split
    .split
     .exact GoodR.dataC rfl
     .trivial
    .rename_i k hv;rw[hv]at hx;split
     .split
      .exact GoodR.sameC hx
      .trivial
     .trivial
    .rename_i k o l hv;rw[hv]at hx;split
     .split
      .exact GoodR.sameC hx
      .trivial
     .trivial
    .rename_i k l hv;rw[hv]at hx;split
     .split
      .exact GoodR.sameC hx
      .trivial
     .trivial
    .trivial
   .split
    .rename_i k a6 hv;rw[hv]at hx;split
     .split
      .split
       .exact GoodR.same hx
       .trivial
      .trivial
     .trivial
    .split
     .exact GoodR.dataC rfl
     .trivial
    .split
     .split
      .exact GoodR.data rfl
      .trivial
     .trivial
    .trivial
   .trivial
  .trivial
 |slice t x lo hi mx=>
  have hx:=hρ x;simp only[xp];split
  .unfold Tq
   repeat' split
   all_goals first|trivial|exact GoodR.data rfl
  simp only[Wu,Wt,VJ];split
  rotate_left
  .split
   .split
    .rename_i hv;rw[hv]at hx
     repeat' split
     all_goals first|trivial|exact GoodR.same hx
    .trivial
   .trivial
  split
  rotate_left
  .repeat' split
   all_goals first|trivial|exact GoodR.dataC rfl
  split
  .repeat' split
   all_goals first|trivial|exact GoodR.dataC rfl
  .split
   .rename_i z es us hz hel;have hu:=(Pg hel).up (C:=C) (o:=⟨a5,.slice t x lo hi mx,ty,ag,a0,g⟩) (ρ:=ρ) (λv hv=>⟨x,by simp[Ls],by simp at hv;exact hv.symm⟩) (by simp[cls]) us
    repeat' split
    all_goals first|trivial|exact⟨hu,λk hk=>by simp[qk]at hk⟩
   .trivial
  .trivial
 |store t p x=>
  have hp:=hρ p;have hx:=hρ x;simp only[xp,YV];have a7:∀k∈qk (ρ p),k∈opk ⟨a5,.store t p x,ty,ag,a0,g⟩ ρ ob:=λk hk=>yi (x:=p) (by simp[Ls]) hk
  have a3:cls C ⟨a5,.store t p x,ty,ag,a0,g⟩=2:=rfl;split
  .trivial
  .split
   .rename_i k a6 hv;rw[hv]at hp a7;split
    .rename_i a1 hk;have b1:∀ad:List V,(∀v∈ad,v∈a1\/v=ρ x\/qk v=[])->GoodR C ⟨a5,.store t p x,ty,ag,a0,g⟩ ρ ob (.ok .any [(k,.box ad)]):=by
      intro ad hcs;refine⟨λq hq=>?_,λk hk=>by simp[qk]at hk⟩;simp only[M1]at hq;subst hq;refine⟨.inr ⟨a7 k (by simp[qk]),by rw[a3];simp,by rw[hk];simp,λa4=>by rw[a3]at a4;omega⟩,by simp,λv hv j hj=> .inl ?_⟩;rcases hcs v hv with h1|h1|h1
      .exact hb k v (by rw[hk];exact h1) j hj
      .subst h1;exact hx j hj
      .rw[h1]at hj;simp at hj
     have al:∀(ds:List D) (a1:List V) (a6:Nat) (v:V),v∈Tl a1 a6 ds->v∈a1\/qk v=[]:=by
      intro ds
      induction ds with
      |nil=>intro a1 a6 v hv;exact .inl hv
      |cons d ds ih=>
       intro a1 a6 v hv;rcases ih _ _ _ hv with hv|hv
       .rcases xL hv with hv|rfl
        .exact .inl hv
        .exact .inr rfl
       .exact .inr hv
     split
     .split
      .split
       .exact b1 _ λv hv=>by
         rcases al _ _ _ _ hv with h1|h1
         .exact .inl h1
         .exact .inr (.inr h1)
       .trivial
      .rename_i ds hds;split
       .refine⟨λq hq=>?_,λk hk=>by simp[qk]at hk⟩;simp only[M1]at hq;subst hq;refine⟨.inr ⟨a7 k (by simp[qk]),by rw[a3];simp,by rw[hk];simp,λa4=>by rw[a3]at a4;omega⟩,by simp,λv hv j hj=> .inl ?_⟩;have hm:∀(l:List VC) (cs:List V) (a6:Nat) (v:V),v∈Wr cs a6 l->v∈cs\/∃c∈l,v=c.v:=by
         intro l
         induction l with
         |nil=>intro cs a6 v hv;exact .inl hv
         |cons d l ih=>
          intro cs a6 v hv;rcases ih _ _ _ hv with hv|⟨c,hc,e⟩
          .rcases xL hv with hv|rfl
           .exact .inl hv
           .exact .inr ⟨d,by simp,rfl⟩
          .exact .inr ⟨c,by simp[hc],e⟩
        rcases hm _ _ _ _ hv with h1|⟨c,hc,rfl⟩
        .exact hb k v (by rw[hk];exact h1) j hj
        .rw[hds]at hx;refine hx j ?_;cases c with
         |arr k2=>simp[VC.v,qk]at hj;subst hj;exact xC.2 hc
         |d d=>simp[VC.v,qk]at hj
         |nil=>simp[VC.v,qk]at hj
       .trivial
      .trivial
     .split
      .split
       .exact b1 _ λv hv=>by
         rcases xL hv with h1|rfl
         .exact .inl h1
         .exact .inr (.inr rfl)
       .trivial
      .split
       .exact b1 _ λv hv=>by
         rcases xL hv with h1|rfl
         .exact .inl h1
         .exact .inr (.inr rfl)
       .trivial
      .rename_i j hj;split
       .split
        .exact b1 _ λv hv=>by
          rcases xL hv with h1|rfl
          .exact .inl h1
          .exact .inr (.inl hj.symm)
        .trivial
       .trivial
      .trivial
    .rename_i a1 hk;split
     .rename_i j hj;split
      .split
       .refine⟨λq hq=>?_,λk hk=>by simp[qk]at hk⟩;simp only[M1]at hq;subst hq;refine⟨.inr ⟨a7 k (by simp[qk]),by rw[a3];simp,by rw[hk];simp,λa4=>by rw[a3]at a4;omega⟩,by simp,λv hv i hi=> .inl ?_⟩;rcases xL hv with h1|rfl
        .exact hb k v (by rw[hk];exact h1) i hi
        .exact hx i (by rw[hj];exact hi)
       .trivial
      .trivial
     .trivial
    .trivial
   .rename_i k i a6 hv;rw[hv]at hp a7;split
    .rename_i s es hk;have b1:∀(c:Prop) [Decidable c] (b5:List (List D)),GoodR C ⟨a5,.store t p x,ty,ag,a0,g⟩ ρ ob (.cond c .any [(k,.arr s b5 false)]):=by intro c _ b5;refine⟨λq hq=>?_,λk hk=>by simp[qk]at hk⟩;simp only[M1]at hq;subst hq;exact⟨.inr ⟨a7 k (by simp[qk]),by rw[a3];simp,by rw[hk];simp,λa4=>by rw[a3]at a4;omega⟩,by simp,λu hu=>by simp[qW]at hu⟩
     split
     .split
      .exact b1 _ _
      .trivial
     .split
      .exact b1 _ _
      .trivial
     .trivial
    .trivial
   .trivial
 |makeFunc fn first captured=>
  simp only[xp];split
  .split
   .rename_i ps us hc;refine⟨λp hp=>?_,λk hk=>by rw[TH]at hk;simp at hk⟩;obtain⟨⟨v,hv,hk⟩,⟨a1,hb2⟩,h3⟩:=Yb hc p hp;obtain⟨x,hx,rfl⟩:=M3.1 hv;refine⟨.inr ⟨yi (x:=x) (by simp only[Ls,Aw];exact No _ hx) hk,by simp[cls],by rw[hb2];simp,λa4=>by simp[cls]at a4⟩,by rw[h3];simp,λu hu=>by rw[h3]at hu;simp[qW]at hu⟩
   .trivial
  .trivial
 |call c=>
  obtain⟨b3,a2,ts⟩:=c;simp only[xp];have ap:∀(f:Nat) (b2:Operand) (ps:List D),cls C ⟨a5,.call ⟨.value b2,a2,ts⟩,ty,ag,a0,g⟩≠0->GoodR C ⟨a5,.call ⟨.value b2,a2,ts⟩,ty,ag,a0,g⟩ ρ ob (kE C ob f (a2.toList.map ρ++ps.map V.c)):=by
   intro f b2 ps a3;unfold kE;split
   .trivial
   .split
    .trivial
    .split
     .rename_i as us sh hto hsh;have hu:∀p∈us,UOk C ⟨a5,.call ⟨.value b2,a2,ts⟩,ty,ag,a0,g⟩ ρ ob us p:=λp hp=>by
       obtain⟨⟨v,h1,h2⟩,s,es,fz,h3,h4⟩:=ke hto p hp;rcases Pl.1 h1 with h1|h1
       .obtain⟨x,hx,rfl⟩:=M3.1 h1;exact⟨.inr ⟨yi (x:=x) (by simp only[Ls,Lm,Aw];exact No _ hx) h2,a3,by rw[h3];simp,λ_=>⟨s,es,fz,h3,h4⟩⟩,by rw[h4];simp,λu hu=>by rw[h4]at hu;simp[qW]at hu⟩
       .obtain⟨d,_,rfl⟩:=M3.1 h1;simp[qk]at h2
      split
      .exact hu
      .exact λ_ h=>absurd h (by simp)
     .trivial
  split
  .rename_i f;split
   .rename_i e he;have a3:cls C ⟨a5,.call ⟨.value (.func f),a2,ts⟩,ty,ag,a0,g⟩=2:=by simp[cls,he]
    have hg:=EffOk.good he a5 (a2.toList.map ρ) ob (λv hv=>by obtain⟨x,_,rfl⟩:=M3.1 hv;exact hρ x) hb;have hin:∀k,k∈wA ob ((a2.toList.map ρ).flatMap qk)->k∈opk ⟨a5,.call ⟨.value (.func f),a2,ts⟩,ty,ag,a0,g⟩ ρ ob:=λk hkk=>by show k∈wA ob _;rw[qB]at hkk ⊢;obtain⟨j,h1,h2⟩:=hkk;refine⟨j,?_,h2⟩;rw[Q1];obtain⟨v,hv,hj⟩:=P1.1 h1;obtain⟨x,hx,rfl⟩:=M3.1 hv;exact P1.2 ⟨x,by simp only[Ls,Lm,Aw];exact No _ hx,hj⟩
    have b6:∀{up:List (Nat×Obj)} {p:Nat×Obj},((Aq (C.wd f) a5 p.1/\qy ob p.1=true)\/(p.1∈wA ob ((a2.toList.map ρ).flatMap qk)/\nth .none ob p.1≠ .none))/\p.2≠ .none/\(∀u∈qW p.2,VOk ob up u)->UOk C ⟨a5,.call ⟨.value (.func f),a2,ts⟩,ty,ag,a0,g⟩ ρ ob up p:=λ{up p} h=>by
     refine⟨?_,h.2⟩;rcases h.1 with h1|⟨h1,h2⟩
     .exact .inl ⟨WD.2 h1.1,h1.2⟩
     .exact .inr ⟨hin _ h1,by rw[a3];simp,h2,λa4=>by rw[a3]at a4;omega⟩
    generalize e a5 (a2.toList.map ρ) ob=r at *;cases r with
    |fail=>trivial
    |ok v up=>exact⟨λp hp=>b6 (hg.1 p hp),hg.2⟩
    |cond c v up=>exact⟨λp hp=>b6 (hg.1 p hp),hg.2⟩
    |look _ _ _ _=>trivial
    |call _ _ _ _=>exact hg.elim
   .rename_i he;have:=ap f (.func f) [] (by simp[cls,he]);rw[bm,bd]at this;exact this
  .rename_i t0;split
   .rename_i f _;split
    .trivial
    .have:=ap f (.tmp t0) [] (by simp[cls]);rw[bm,bd]at this;exact this
   .split
    .trivial
    .exact ap _ _ _ (by simp[cls])
   .trivial
  .split
   .unfold AV
    repeat' split
    all_goals first|trivial|exact GoodR.data rfl
   .trivial
  .split
   .rename_i x y an;have hx:=hρ x;have a3:cls C ⟨a5,.call ⟨.builtin .append,a2,ts⟩,ty,ag,a0,g⟩=2:=rfl;have a7:∀k∈qk (ρ x),k∈opk ⟨a5,.call ⟨.builtin .append,a2,ts⟩,ty,ag,a0,g⟩ ρ ob:=λk hk=>yi (x:=x) (by
     simp only[Ls,Lm,Aw];exact No _ (by rw[an];simp)) hk
    unfold X4;split
    .trivial
    .rename_i d;split
     .trivial
     .rename_i hd;split
      .split
       .split
        .unfold yc;split
         .rename_i xs up v u2 hxs hys hz;split
          .have hy:=hρ y;have hv:∀k∈qk v,nth .none ob k≠ .none:=by
            rcases Kg hys with⟨_,h1,_⟩|⟨k,_,h1,_⟩
            .simp at h1
            .exact hb k v (by rw[h1];simp[qW])
           rcases Kg hxs with⟨_,rfl,rfl⟩|⟨k,hvx,hk,rfl⟩
           .exact GoodR.new2 (us:=[]) rfl hd (by simp) (λu hu=>by
             have hu:u=v:=by simpa [qW]using hu
             rw[hu];exact hv) (λ_ h=>absurd h (by simp)) (λk hk=>by simpa [qk]using hk)
           .rw[hvx]at a7;exact GoodR.new2 (us:=[(k,.dead)]) rfl hd (by simp) (λu hu=>by
             rcases Pl.1 (show u∈xs++[v]from hu)with hu|hu
             .exact hb k u (by rw[hk];exact hu)
             .rw[M1.1 hu];exact hv) (λq hq=>by
              simp only[M1]at hq;subst hq;exact⟨.inr ⟨a7 k (by simp[qk]),by rw[a3];simp,by rw[hk];simp,λa4=>by rw[a3]at a4;omega⟩,by simp,λu hu=>by simp[qW]at hu⟩) (λk hk=>by simpa [qk]using hk)
          .trivial
         .trivial
        split
        .split
         .split
          .exact GoodR.new (us:=[]) rfl hd (by simp) (λu hu=>by simp[qW]at hu) (λ_ h=>absurd h (by simp)) (λk hk=>by simpa [qk]using hk)
          .rename_i k hv;rw[hv]at hx a7;split
           .rename_i s es hk;split
            .exact GoodR.new (us:=[(k,.dead)]) rfl hd (by simp) (λu hu=>by simp[qW]at hu) (λq hq=>by
              simp only[M1]at hq;subst hq;exact⟨.inr ⟨a7 k (by simp[qk]),by rw[a3];simp,by rw[hk];simp,λa4=>by rw[a3]at a4;omega⟩,by simp,λu hu=>by simp[qW]at hu⟩) (λk hk=>by simpa [qk]using hk)
            .trivial
           .trivial
          .rename_i k o n hv;rw[hv]at hx a7;split
           .rename_i s es ho hk;split
            .exact GoodR.new (us:=[(k,.dead)]) rfl hd (by simp) (λu hu=>by simp[qW]at hu) (λq hq=>by
              simp only[M1]at hq;subst hq;exact⟨.inr ⟨a7 k (by simp[qk]),by rw[a3];simp,by rw[hk];simp,λa4=>by rw[a3]at a4;omega⟩,by simp,λu hu=>by simp[qW]at hu⟩) (λk hk=>by simpa [qk]using hk)
            .trivial
           .trivial
          .trivial
         .trivial
        .trivial
       .trivial
      .trivial
   .trivial
  .split
   .rename_i x an;have a7:∀k∈qk (ρ x),k∈opk ⟨a5,.call ⟨.builtin .clear,a2,ts⟩,ty,ag,a0,g⟩ ρ ob:=λk hk=>yi (x:=x) (by
     simp only[Ls,Lm,Aw];exact No _ (by rw[an];simp)) hk
    unfold X5;split
    .split
     .split
      .rename_i z k o l hz hv;rw[hv]at a7;split
       .rename_i s es hk;split
        .refine⟨λp hp=>?_,λk hk=>by simp[qk]at hk⟩;simp only[M1]at hp;subst hp;exact⟨.inr ⟨a7 k (by simp[qk]),by simp[cls],by rw[hk];simp,λa4=>by simp[cls]at a4⟩,by simp,λu hu=>by simp[qW]at hu⟩
        .trivial
       .trivial
      .trivial
     .trivial
    .trivial
   .trivial
  .split
   .exact Gi
   .trivial
  .split
   .exact Gi
   .trivial
  .trivial
 |_=>trivial
end
end Eng
end
section
namespace Eng
open Go Go.RowKit
variable [Env]
omit [Env] in
theorem vp {α:Type} (l:List α) (i j:Nat) (x y:α) (h:i≠j\/x=y):upd (upd l i x) j y=upd (upd l j y) i x:=by
 simp only[xn];rcases h with h|rfl
 .exact bh _ _ h
 .by_cases hij:i=j
  .subst hij;rfl
  .exact bh _ _ hij
omit [Env] in
theorem Gj (k:Nat) (x:Obj):∀(b:List (Nat×Obj)) (ob:List Obj),(∀q∈b,q.1=k->q.2=x)->upds (upd ob k x) b=upd (upds ob b) k x
 |[],_,_=>rfl
 |(j,y)::b,ob,h=>by
  simp only[upds];rw[vp ob k j x y (by
   by_cases hk:k=j
   .exact .inr (h (j,y) (by simp) hk.symm).symm
   .exact .inl hk),Gj k x b _ λq hq=>h q (by simp[hq])]
omit [Env] in
theorem WG:∀(a b:List (Nat×Obj)) (ob:List Obj),(∀p∈a,∀q∈b,q.1=p.1->q.2=p.2)->upds (upds ob a) b=upds (upds ob b) a
 |[],_,_,_=>rfl
 |(k,x)::a,b,ob,h=>by simp only[upds];rw[WG a b _ λp hp=>h p (by simp[hp]),Gj k x b ob λq hq hk=>h (k,x) (by simp) q hq hk]
omit [Env] in
theorem yN (d:Nat):∀(b:List (Nat×Obj)) (ob:List Obj),nth .none (upds ob b) d=nth .none ob d\/(nth .none (upds ob b) d= .none/\nth .none ob d= .none)\/∃p∈b,p.1=d/\nth .none (upds ob b) d=p.2
 |[],_=> .inl rfl
 |(k,x)::b,ob=>by
  simp only[upds];rcases yN d b (upd ob k x)with h|⟨h1,h2⟩|⟨p,hp,h1,h2⟩
  .rw[xW]at h;split at h
   .rename_i hk;exact .inr (.inr ⟨(k,x),by simp,hk.1,h⟩)
   .exact .inl h
  .by_cases hk:k=d/\k<ob.length
   .rw[xW,if_pos hk]at h2;exact .inr (.inr ⟨(k,x),by simp,hk.1,by rw[h1];exact h2.symm⟩)
   .rw[xW,if_neg hk]at h2;exact .inr (.inl ⟨h1,h2⟩)
  .exact .inr (.inr ⟨p,by simp[hp],h1,h2⟩)
omit [Env] in
theorem jL:∀(b:List (Nat×Obj)) (ob:List Obj),(upds ob b).length=ob.length
 |[],_=>rfl
 |(k,x)::b,ob=>by simp only[upds];rw[jL b,xn];simp
omit [Env] in
theorem zg {d:Nat}:∀(b:List (Nat×Obj)) (ob:List Obj),(∀p∈b,p.1≠d)->nth .none (upds ob b) d=nth .none ob d
 |[],_,_=>rfl
 |(k,x)::b,ob,h=>by simp only[upds];rw[zg b _ λp hp=>h p (by simp[hp]),qa _ _ _ (h (k,x) (by simp))]
omit [Env] in
theorem zo {d:Nat} {b:List (Nat×Obj)} {ob:List Obj} (h:∀p∈b,p.2≠ .none) (hd:nth .none ob d≠ .none):nth .none (upds ob b) d≠ .none:=by
 rcases yN d b ob with h1|⟨_,h1⟩|⟨p,hp,_,h2⟩
 .rw[h1];exact hd
 .exact absurd h1 hd
 .rw[h2];exact h p hp
omit [Env] in
theorem XR {d:Nat}:∀{b:List (Nat×Obj)} {ob:List Obj},(∀p∈b,p.2≠ .none)->d<ob.length->(∃x,(d,x)∈b)->nth .none (upds ob b) d≠ .none
 |[],_,_,_,h=>by obtain⟨x,hx⟩:=h;exact absurd hx (by simp)
 |(k,x)::b,ob,h,hd,hx=>by
  simp only[upds];by_cases hk:k=d
  .subst hk;exact zo (λp hp=>h p (by simp[hp])) (by rw[qb _ _ _ hd];exact h (k,x) (by simp))
  .obtain⟨y,hy⟩:=hx;refine XR (λp hp=>h p (by simp[hp])) (by rw[xn];simpa using hd) ⟨y,?_⟩;rcases M2.1 hy with hy|hy
   .simp only[cv]at hy;exact absurd hy.1.symm hk
   .exact hy
section
variable {C:Cx} {Gv:Nat->List A->List A->Prop} {ops:Array Oper}
def Out (Gv:Nat->List A->List A->Prop):R->V->List (Nat×Obj)->Prop
 | .fail,_,_=>False
 | .ok v up,v',up'=>v'=v/\up'=up
 | .cond (dc:=_) c v up,v',up'=>c/\v'=v/\up'=up
 | .look z row off ag,v',up'=>∃ds,cut row off z.length ds/\v'=(match ag with|true=> .ag ds|false=> .c (nth .undef ds 0))/\up'=[]
 | .call f as sh up,v',up'=>∃rs,Gv f as rs/\(zi sh=false->∀r∈rs,ZT r=true)/\v'=JR rs/\up'=up
def yO (ops:Array Oper) (o:Oper) (tmps:List V) (b:Bool):Prop:=
 match o.guard with
 |none=>b=true
 |some (j,want)=>∃t,vQ ops j=some t/\((∃c,nth .any tmps t= .c (.bool c)/\b=(c==want))\/(nth .any tmps t= .no/\b=false))
def Stp (C:Cx) (Gv:Nat->List A->List A->Prop) (ops:Array Oper) (o:Oper) (s:St) (v:V) (up:List (Nat×Obj)):Prop:=
 ∃b,yO ops o s.tmps b/\if b then Out Gv (xp C o (ev s) s.objs) v up else v= .no/\up=[]
structure RecOk (C:Cx) (o:Oper) (s:St) (up:List (Nat×Obj)) (rc:Rec):Prop where
 reads:cls C o≠0->∀k∈opk o (ev s) s.objs,k∈rc.1
 ups:∀p∈up,p.1∈rc.2
def Tr (C:Cx) (Gv:Nat->List A->List A->Prop) (ops:Array Oper) (rc:Nat->Rec):List Nat->St->St->Prop
 |[],s,s'=>s.tmps=s'.tmps/\s.objs=s'.objs
 |i::r,s,s'=>∃o,ops[i]? =some o/\∃v up,Stp C Gv ops o s v up/\RecOk C o s up (rc i)/\Tr C Gv ops rc r (s.put o.dst v up) s'
omit [Env] in
theorem TJ {s s':St} (h:s.tmps=s'.tmps):ev s=ev s':=by
 funext x;cases x with
 |tmp t=>simp only[ev,h]
 |_=>rfl
omit [Env] in
theorem Stp.same {o:Oper} {s s':St} {v:V} {up:List (Nat×Obj)} (h:Stp C Gv ops o s v up) (h1:s.tmps=s'.tmps) (h2:s.objs=s'.objs):Stp C Gv ops o s' v up:=by
 unfold Stp at *;rw[<-h1,<-h2,<-TJ h1];exact h
omit [Env] in
theorem RecOk.same {o:Oper} {s s':St} {up:List (Nat×Obj)} {rc:Rec} (h:RecOk C o s up rc) (h1:s.tmps=s'.tmps) (h2:s.objs=s'.objs):RecOk C o s' up rc:=⟨by rw[<-TJ h1,<-h2];exact h.reads,h.ups⟩
omit [Env] in
theorem Tr.same {rc:Nat->Rec}:∀{l:List Nat} {s s' e:St},Tr C Gv ops rc l s e->s.tmps=s'.tmps->s.objs=s'.objs->Tr C Gv ops rc l s' e
 |[],_,_,_,h,h1,h2=>⟨h1.symm.trans h.1,h2.symm.trans h.2⟩
 |i::r,s,s',e,h,h1,h2=>by obtain⟨o,ho,v,up,hs,hr,ht⟩:=h;exact⟨o,ho,v,up,hs.same h1 h2,hr.same h1 h2,ht.same (by simp only[J4,h1]) (by simp only[J4,h2])⟩
omit [Env] in
theorem Tr.recs {rc rc':Nat->Rec}:∀{l:List Nat} {s e:St},Tr C Gv ops rc l s e->(∀i∈l,rc i=rc' i)->Tr C Gv ops rc' l s e
 |[],_,_,h,_=>h
 |i::r,s,e,h,he=>by obtain⟨o,ho,v,up,hs,hr,ht⟩:=h;exact⟨o,ho,v,up,hs,by rw[<-he i (by simp)];exact hr,ht.recs λj hj=>he j (by simp[hj])⟩
omit [Env] in
theorem Yc {o:Oper} {s:St} {K:St->Prop} (h:opW C Gv o s K):∃v up,Out Gv (xp C o (ev s) s.objs) v up/\K (s.put o.dst v up):=by
 unfold opW at h;generalize xp C o (ev s) s.objs=r at *;cases r with
 |fail=>exact h.elim
 |ok v up=>exact⟨v,up,⟨rfl,rfl⟩,h⟩
 |cond c v up=>exact⟨v,up,⟨h.1,rfl,rfl⟩,h.2⟩
 |look z row off ag=>obtain⟨ds,h1,_⟩:=wL h;exact⟨_,[],⟨ds,h1.1,rfl,rfl⟩,h1.2⟩
 |call f as sh up=>obtain⟨rs,h1,h2⟩:=Q0 h;exact⟨_,up,⟨rs,h1.1,h2,rfl,rfl⟩,h1.2⟩
omit [Env] in
theorem Yd {α:Type} (d:α) (l:List α) (i:Nat) (x:α) (h:nth d l i=x):upd l i x=l:=by
 rw[xn];apply List.ext_getElem?;intro j;rw[List.getElem?_set];split
 .rename_i hij;subst hij;split
  .rename_i a0;rw[qm _ a0]at h;rw[List.getElem?_eq_getElem a0,h]
  .rename_i a0;rw[List.getElem?_eq_none (b7.1 a0)]
 .rfl
omit [Env] in
theorem WH {o:Oper} {s:St} {K:St->Prop} (h:OJ C Gv ops o s K):∃v up,Stp C Gv ops o s v up/\K (s.put o.dst v up):=by
 unfold OJ at h;split at h
 .rename_i hg;obtain⟨v,up,h1,h2⟩:=Yc h;exact⟨v,up,⟨true,by unfold yO;rw[hg],by rw[if_pos rfl];exact h1⟩,h2⟩
 .rename_i j a0 hg;split at h
  .exact h.elim
  .rename_i t ht;split at h
   .rename_i d hd;have hb:∃c,d= .bool c:=by
     cases d with
     |bool c=>exact⟨c,rfl⟩
     |_=>exact h.elim
    obtain⟨c,rfl⟩:=hb;have hw:∀b,b=(c==a0)->yO ops o s.tmps b:=λb hb=>by unfold yO;rw[hg];exact⟨t,ht,.inl ⟨c,hd,hb⟩⟩
    have hs:(⟨upd s.tmps t (.c (.bool c)),s.objs,s.dirty⟩:St)=s:=by rw[Yd _ _ _ _ hd]
    cases c<;>cases a0<;>simp only[cnd,isB,br,toB]at h<;>rw[hs]at h
    .obtain⟨v,up,h1,h2⟩:=Yc h;exact⟨v,up,⟨true,hw _ rfl,by rw[if_pos rfl];exact h1⟩,h2⟩
    .exact⟨.no,[],⟨false,hw _ rfl,by simp⟩,h⟩
    .exact⟨.no,[],⟨false,hw _ rfl,by simp⟩,h⟩
    .obtain⟨v,up,h1,h2⟩:=Yc h;exact⟨v,up,⟨true,hw _ rfl,by rw[if_pos rfl];exact h1⟩,h2⟩
   .rename_i hd;exact⟨.no,[],⟨false,by unfold yO;rw[hg];exact⟨t,ht,.inr ⟨hd,rfl⟩⟩,by simp⟩,h⟩
   .exact h.elim
structure WF (s:St):Prop where
 tmps:∀v∈s.tmps,∀k∈qk v,nth .none s.objs k≠ .none
 objs:∀k,∀u∈qW (nth .none s.objs k),∀j∈qk u,nth .none s.objs j≠ .none
omit [Env] in
theorem C6 (v:V):qk (un v)=qk v:=by cases v<;>rfl
omit [Env] in
theorem WF.ev {s:St} (h:WF s) (x:Operand):∀k∈qk (ev s x),nth .none s.objs k≠ .none:=by
 cases x with
 |tmp t=>
  simp only[Eng.ev];by_cases ht:t<s.tmps.length
  .rw[qm _ ht,C6];exact h.tmps _ (U0 ht)
  .rw[qF _ (b7.1 ht)];intro k hk;simp[qk,un]at hk
 |const v=>intro k hk;simp only[Eng.ev,Js]at hk;simp at hk
 |global g=>intro k hk;simp[Eng.ev,qk]at hk
 |func f=>intro k hk;simp[Eng.ev,qk]at hk
omit [Env] in
theorem wP (rs:List A):qk (JR rs)=[]:=by
 unfold JR;split<;>first|rfl|(split<;>rfl)
theorem Stp.good [EffOk C] {o:Oper} {s:St} {v:V} {up:List (Nat×Obj)} (hs:WF s) (h:Stp C Gv ops o s v up):(∀p∈up,UOk C o (Eng.ev s) s.objs up p)/\VOk s.objs up v:=by
 obtain⟨b,_,h⟩:=h;cases b with
 |false=>obtain⟨rfl,rfl⟩:=h;exact⟨λ_ h=>absurd h (by simp),λk hk=>by simp[qk]at hk⟩
 |true=>
  rw[if_pos rfl]at h;have hg:=TI (C:=C) (o:=o) (ρ:=Eng.ev s) (ob:=s.objs) hs.ev hs.objs;generalize xp C o (Eng.ev s) s.objs=r at *;cases r with
  |fail=>exact h.elim
  |ok v up=>obtain⟨rfl,rfl⟩:=h;exact hg
  |cond c v up=>obtain⟨_,rfl,rfl⟩:=h;exact hg
  |look z row off ag=>obtain⟨ds,_,rfl,rfl⟩:=h;exact⟨λ_ h=>absurd h (by simp),λk hk=>by cases ag<;>simp[qk]at hk⟩
  |call f as sh up=>obtain⟨rs,_,_,rfl,rfl⟩:=h;exact⟨hg,λk hk=>by rw[wP]at hk;simp at hk⟩
theorem WF.put [EffOk C] {o:Oper} {s:St} {v:V} {up:List (Nat×Obj)} (hs:WF s) (h:Stp C Gv ops o s v up):WF (s.put o.dst v up):=by
 obtain⟨hu,hv⟩:=h.good hs;have a1:∀p∈up,p.2≠ .none:=λp hp=>(hu p hp).2.1
 have a2:∀v,VOk s.objs up v->∀k∈qk v,nth .none (upds s.objs up) k≠ .none:=λv hv k hk=>by
  rcases hv k hk with h1|⟨h1,h2⟩
  .exact zo a1 h1
  .exact XR a1 (qH h1).2 h2
 have hvk:=a2 v hv;refine⟨λu hu' k hk=>?_,λk u hu' j hj=>?_⟩
 .have a0:u∈s.tmps->nth .none (upds s.objs up) k≠ .none:=λh1=>zo a1 (hs.tmps u h1 k hk)
  simp only[J4]at hu';cases hd:o.dst with
  |none=>rw[hd]at hu';exact a0 hu'
  |some t=>
   rw[hd]at hu';rcases xL hu' with h1|rfl
   .exact a0 h1
   .exact hvk k hk
 .change nth .none (upds s.objs up) j≠ .none;change u∈qW (nth .none (upds s.objs up) k)at hu';rcases yN k up s.objs with h1|⟨h1,_⟩|⟨p,hp,_,h2⟩
  .rw[h1]at hu';exact zo a1 (hs.objs k u hu' j hj)
  .rw[h1]at hu';simp[qW]at hu'
  .rw[h2]at hu';exact a2 u ((hu p hp).2.2 u hu') j hj
omit [Env] in
theorem xK {n:Nat}:∀{l:List Nat},Qy n l=true↔n∈l
 |[]=>by simp[Qy]
 |m::r=>by
  unfold Qy;split
  .rename_i h;have:=bw h;simp[this]
  .rename_i h;have:n≠m:=λe=>by subst e;simp at h
   rw[xK];simp[this]
omit [Env] in
theorem jY {a l:List Nat} (h:OK a l=true):∀x∈a,x∉l:=by
 induction a with
 |nil=>intro x hx;simp at hx
 |cons y r ih=>
  simp only[OK,Hx,I1]at h;intro x hx;rcases M2.1 hx with rfl|hx
  .intro hm;rw[xK.2 hm]at h;simp at h
  .exact ih h.2 x hx
def Ih (ra rb:Rec):Prop:=(∀k∈ra.2,k∉rb.1)/\(∀k∈rb.2,k∉ra.1)/\(∀k∈ra.2,k∉rb.2)
structure Free (C:Cx) (ops:Array Oper) (a b:Oper) (ra rb:Rec):Prop where
 dd:∀d,d∈Tt C a->d∉Tt C b
 al:∀d,a.dst=some d-> .tmp d∉b.op.operands.toList
 ag:∀d,a.dst=some d->∀j w,b.guard=some (j,w)->vQ ops j≠some d
 bl:∀d,b.dst=some d-> .tmp d∉a.op.operands.toList
 bg:∀d,b.dst=some d->∀j w,a.guard=some (j,w)->vQ ops j≠some d
 cl:(cls C a=0\/cls C b=0\/(cls C a=1/\cls C b=1))\/Ih ra rb
omit [Env] in
theorem Free.symm {a b:Oper} {ra rb:Rec} (h:Free C ops a b ra rb):Free C ops b a rb ra:=
 ⟨λd h1 h2=>h.dd d h2 h1,h.bl,h.bg,h.al,h.ag,by
  rcases h.cl with(h|h|h)|h
  .exact .inl (.inr (.inl h))
  .exact .inl (.inl h)
  .exact .inl (.inr (.inr ⟨h.2,h.1⟩))
  .exact .inr ⟨h.2.1,h.1,λk hk hk'=>h.2.2 k hk' hk⟩⟩
omit [Env] in
theorem Gk {a b:Oper} {ra rb:Rec} (h:OL C ops.toList a b=true) (hc:(cls C a=0\/cls C b=0\/(cls C a=1/\cls C b=1))\/Ih ra rb):Free C ops a b ra rb:=by
 simp only[OL,Hx]at h;obtain⟨⟨h1,h2⟩,h3⟩:=h;have dl:∀{o:Oper} {d:Nat},o.dst=some d->d∈ee o:=λ{o} {d} h=>by simp[ee,h]
 have lo:∀{o:Oper} {d:Nat},.tmp d∈o.op.operands.toList->d∈looks ops.toList o:=λ{o} {d} h=>
  List.mem_append_left _ (P1.2 ⟨_,h,by simp[SS]⟩)
 have lg:∀{o:Oper} {d:Nat} {j:Nat} {w:Bool},o.guard=some (j,w)->vQ ops j=some d->d∈looks ops.toList o:=λ{o} {d} {j} {w} h hg=>by
  refine No _ ?_;rw[h];unfold vQ at hg;split at hg
  .rename_i g hj;have:nth default ops.toList j=g:=by rw[qu];simp[hj]
   dsimp only
   rw[this,hg];simp
  .simp at hg
 exact⟨λd ha hb=>jY h1 d ha hb,λd ha hb=>jY h2 d (dl ha) (lo hb),λd ha j w hg ht=>jY h2 d (dl ha) (lg hg ht),λd hb ha=>jY h3 d (dl hb) (lo ha),
  λd hb j w hg ht=>jY h3 d (dl hb) (lg hg ht),hc⟩
omit [Env] in
theorem Gl {a b:Oper} (h:OM C a b=true):cls C a=0\/cls C b=0\/(cls C a=1/\cls C b=1):=by
 simp only[OM,I0,Hx]at h;rcases h with(h4|h4)|h4
 .exact .inl (bw h4)
 .exact .inr (.inl (bw h4))
 .exact .inr (.inr ⟨bw h4.1,bw h4.2⟩)
omit [Env] in
theorem Ph {a b:Oper} {ra rb:Rec} (h:Cm C ops.toList a b=true):Free C ops a b ra rb:=by
 simp only[Cm,Hx]at h;exact Gk h.1 (.inl (Gl h.2))
omit [Env] in
theorem TK {a b:Oper} {ra rb:Rec} (h:Tu C ops.toList a b ra rb=true):Free C ops a b ra rb:=by
 simp only[Tu,Hx,I0]at h;refine Gk h.1 ?_;rcases h.2 with h|h
 .exact .inl (Gl h)
 .simp only[AW,Hx]at h;exact .inr ⟨jY h.1.1,jY h.1.2,jY h.2⟩
omit [Env] in
theorem Ba {s:St} {dst:Option Nat} {v:V} {up:List (Nat×Obj)} {x:Operand} (h:∀d,dst=some d->x≠ .tmp d):ev (s.put dst v up) x=ev s x:=by
 cases x with
 |tmp t=>
  simp only[ev,J4];cases dst with
  |none=>rfl
  |some d=>exact congrArg un (qa _ _ _ λe=>h d rfl (by rw[e]))
 |_=>rfl
omit [Env] in
theorem Gm {a b:Oper} {ra rb:Rec} {s:St} {va:V} {ua:List (Nat×Obj)} (hf:Free C ops a b ra rb):VM (ev (s.put a.dst va ua)) b.op.operands.toList=VM (ev s) b.op.operands.toList:=by
 have hev:∀x∈b.op.operands.toList,ev (s.put a.dst va ua) x=ev s x:=λx hx=>Ba λd hd hxd=>hf.al d hd (hxd▸hx)
 have:∀l:List Operand,(∀x∈l,ev (s.put a.dst va ua) x=ev s x)->VM (ev (s.put a.dst va ua)) l=VM (ev s) l:=by
  intro l
  induction l with
  |nil=>intro _;rfl
  |cons x l ih=>intro h;simp only[VM];rw[h x (by simp),ih λy hy=>h y (by simp[hy])]
 exact this _ hev
omit [Env] in
theorem Q2 {b:Oper} {s:St} (hs:WF s):∀k∈VM (ev s) b.op.operands.toList,nth .none s.objs k≠ .none:=λk hk=>by
 rw[Q1]at hk;obtain⟨x,_,hx⟩:=P1.1 hk;exact hs.ev x k hx
omit [Env] in
theorem XS {ob ob':List Obj}:∀{l:List Nat},(∀k∈l,nth .none ob k=nth .none ob' k\/∃s es fz s' es' fz',nth .none ob k= .arr s es fz/\nth .none ob' k= .arr s' es' fz')->Ww ob l=Ww ob' l
 |[],_=>rfl
 |k::r,h=>by
  simp only[Ww];rw[XS λj hj=>h j (by simp[hj])];rcases h k (by simp)with h1|⟨s,es,fz,s',es',fz',h1,h2⟩
  .rw[h1]
  .rw[h1,h2]
omit [Env] in
theorem XT {ob ob':List Obj}:∀{l:List Nat},(∀k∈l,nth .none ob k=nth .none ob' k\/∃s es fz s' es' fz',nth .none ob k= .arr s es fz/\nth .none ob' k= .arr s' es' fz')->wA ob l=wA ob' l
 |[],_=>rfl
 |k::r,h=>by
  simp only[wA];rw[XT λj hj=>h j (by simp[hj])];rcases h k (by simp)with h1|⟨s,es,fz,s',es',fz',h1,h2⟩
  .rw[h1]
  .rw[h1,h2]
omit [Env] in
theorem TM {o:Oper} {ρ:Operand->V} {ob:List Obj}:∀k∈VM ρ o.op.operands.toList,k∈opk o ρ ob:=λk hk=>by
 unfold opk;split
 .exact qB.2 ⟨k,hk,.inl rfl⟩
 .exact yJ.2 ⟨k,hk,.inl rfl⟩
theorem TN [EffOk C] {a b:Oper} {ra rb:Rec} {s:St} {va:V} {ua:List (Nat×Obj)} (hs:WF s) (hf:Free C ops a b ra rb) (ha:Stp C Gv ops a s va ua) (hra:∀p∈ua,p.1∈ra.2) (hb0:cls C b≠0) (hrl:∀k∈VM (ev s) b.op.operands.toList,k∈rb.1):
 opk b (ev (s.put a.dst va ua)) (s.put a.dst va ua).objs=opk b (ev s) s.objs:=by
 have a1:∀k∈VM (ev s) b.op.operands.toList,nth .none (upds s.objs ua) k=nth .none s.objs k\/∃sz es fz s' es' fz',nth .none (upds s.objs ua) k= .arr sz es fz/\nth .none s.objs k= .arr s' es' fz':=?_
 .unfold opk;rw[Gm hf];split
  .exact XT a1
  .exact XS a1
 obtain⟨hu,_⟩:=ha.good hs;intro k hk;have a0:=Q2 hs k hk;change nth .none (upds s.objs ua) k=_\/_;rcases yN k ua s.objs with h1|⟨_,h1⟩|⟨p,hp,rfl,h2⟩
 .exact .inl h1
 .exact absurd h1 a0
 .rcases(hu p hp).1 with⟨_,h3⟩|⟨_,h3,_,h4⟩
  .exact absurd (qH h3).1 a0
  .rcases hf.cl with(h|h|h)|h
   .exact absurd h h3
   .exact absurd h hb0
   .obtain⟨sz,es,fz,h5,h6⟩:=h4 (by omega);exact .inr ⟨_,_,_,_,_,_,h2.trans h6,h5⟩
   .exact absurd (hrl _ hk) (h.1 _ (hra p hp))
theorem Stp.indep [EffOk C] {a b:Oper} {ra rb:Rec} {s:St} {va vb:V} {ua ub:List (Nat×Obj)} (hs:WF s) (hf:Free C ops a b ra rb) (ha:Stp C Gv ops a s va ua) (hra:∀p∈ua,p.1∈ra.2) (hrb:cls C b≠0->∀k∈opk b (ev s) s.objs,k∈rb.1):
 Stp C Gv ops b (s.put a.dst va ua) vb ub↔Stp C Gv ops b s vb ub:=by
 obtain⟨hu,_⟩:=ha.good hs;have hev:∀x∈b.op.operands.toList,ev (s.put a.dst va ua) x=ev s x:=λx hx=>Ba λd hd hxd=>hf.al d hd (hxd▸hx)
 have hw:∀c,yO ops b (s.put a.dst va ua).tmps c↔yO ops b s.tmps c:=λc=>by
  unfold yO;split
  .exact Iff.rfl
  .rename_i j a1 hg;have:∀t,vQ ops j=some t->nth .any (s.put a.dst va ua).tmps t=nth .any s.tmps t:=λt ht=>by
    simp only[J4];cases hd:a.dst with
    |none=>rfl
    |some d=>exact qa _ _ _ λe=>hf.ag d hd j a1 hg (by rw[ht,e])
   constructor
   .rintro⟨t,h1,h2⟩;exact⟨t,h1,by rw[<-this t h1];exact h2⟩
   .rintro⟨t,h1,h2⟩;exact⟨t,h1,by rw[this t h1];exact h2⟩
 have hop:xp C b (ev (s.put a.dst va ua)) (s.put a.dst va ua).objs=xp C b (ev s) s.objs:=by
  rw[Ug hev];refine Eq.symm (C5 ?_ λd hd=>?_)
  .by_cases hb:cls C b=0
   .exact .inl hb
   .refine .inr λk hk=>?_
    have a0:nth .none s.objs k≠ .none:=by
     unfold opk at hk;split at hk
     .obtain⟨j,h1,h2⟩:=qB.1 hk;rcases h2 with rfl|⟨q,hq,h2⟩
      .exact Q2 hs k h1
      .exact hs.objs j q hq k h2
     .obtain⟨j,h1,h2⟩:=yJ.1 hk;rcases h2 with rfl|⟨T,q,hq,h2⟩
      .exact Q2 hs k h1
      .exact hs.objs j q (by rw[hq];simp[qW]) k h2
    refine Ag.symm ?_;change Ag _ (nth .none (upds s.objs ua) k) _;rcases yN k ua s.objs with h1|⟨_,h1⟩|⟨p,hp,rfl,h2⟩
    .exact .inl h1
    .exact absurd h1 a0
    .rcases(hu p hp).1 with⟨_,h3⟩|⟨_,h3,_,h4⟩
     .exact absurd (qH h3).1 a0
     .have hca:cls C a=1/\cls C b=1:=by
       rcases hf.cl with(h|h|h)|h
       .exact absurd h h3
       .exact absurd h hb
       .exact h
       .exact absurd (hrb hb _ hk) (h.1 _ (hra p hp))
      obtain⟨sz,es,fz,h5,h6⟩:=h4 (by omega);exact .inr ⟨by omega,sz,es,true,fz,by rw[h2,h6],h5⟩
  .refine Eq.symm ?_;have hne:∀p∈ua,p.2≠ .none:=λp hp=>(hu p hp).2.1
   change qy (upds s.objs ua) d=_;by_cases hex:∃p∈ua,p.1=d
   .obtain⟨p,hp,rfl⟩:=hex;rcases(hu p hp).1 with⟨h3,_⟩|⟨_,_,h3,_⟩
    .exact absurd hd (hf.dd _ h3)
    .have h4:=zo hne h3;have a2:∀{ob:List Obj} {d:Nat},nth .none ob d≠ .none->qy ob d=false:=λ{ob} {d} h=>by
      cases hfk:qy ob d
      .rfl
      .exact absurd (qH hfk).1 h
     rw[a2 h3,a2 h4]
   .have:nth .none (upds s.objs ua) d=nth .none s.objs d:=zg _ _ λp hp e=>hex ⟨p,hp,e⟩
    have hl:=jL ua s.objs;unfold qy;by_cases hlt:d<s.objs.length
    .rw[qm _ hlt,qm _ (by rw[hl];exact hlt)];rw[qm _ hlt,qm _ (by rw[hl];exact hlt)]at this;rw[this]
    .rw[qF (l:=upds s.objs ua) _ (by rw[hl];exact b7.1 hlt),qF (l:=s.objs) _ (b7.1 hlt)]
 unfold Stp;rw[hop];constructor
 .rintro⟨c,h1,h2⟩;exact⟨c,(hw c).1 h1,h2⟩
 .rintro⟨c,h1,h2⟩;exact⟨c,(hw c).2 h1,h2⟩
theorem Stp.swap [EffOk C] {a b:Oper} {ra rb:Rec} {s:St} {va vb:V} {ua ub:List (Nat×Obj)} (hs:WF s) (hf:Free C ops a b ra rb) (ha:Stp C Gv ops a s va ua) (hra:RecOk C a s ua ra) (hb:Stp C Gv ops b (s.put a.dst va ua) vb ub) (hrb:RecOk C b (s.put a.dst va ua) ub rb):
 (Stp C Gv ops b s vb ub/\RecOk C b s ub rb)/\(Stp C Gv ops a (s.put b.dst vb ub) va ua/\RecOk C a (s.put b.dst vb ub) ua ra)/\((s.put a.dst va ua).put b.dst vb ub).tmps=((s.put b.dst vb ub).put a.dst va ua).tmps/\
  ((s.put a.dst va ua).put b.dst vb ub).objs=((s.put b.dst vb ub).put a.dst va ua).objs:=by
 have a0:RecOk C b s ub rb:=⟨λhb0=>by
  have hl:∀k∈VM (ev s) b.op.operands.toList,k∈rb.1:=λk hk=>hrb.reads hb0 k (by
   exact TM k (by rw[Gm hf];exact hk))
  rw[<-TN hs hf ha hra.ups hb0 hl];exact hrb.reads hb0,hrb.ups⟩
 have a1:=(ha.indep hs hf hra.ups a0.reads).1 hb;refine⟨⟨a1,a0⟩,⟨(a1.indep hs hf.symm hrb.ups hra.reads).2 ha,λha0=>by
  rw[TN hs hf.symm a1 hrb.ups ha0 λk hk=>hra.reads ha0 k (TM k hk)];exact hra.reads ha0,hra.ups⟩,?_,?_⟩
 .simp only[J4];cases hda:a.dst with
  |none=>rfl
  |some d=>
   cases hdb:b.dst with
   |none=>rfl
   |some e=>exact vp _ _ _ _ _ (.inl λhe=>hf.dd d (yK hda) (yK (by rw[hdb,he])))
 .simp only[J4];refine WG _ _ _ λp hp q hq hpq=>?_
  have hp':=((ha.good hs).1 p hp).1;have a2:=((a1.good hs).1 q hq).1;rcases hp' with⟨h1,h2⟩|⟨_,h1,h2,h3⟩
  .rcases a2 with⟨h4,h5⟩|⟨_,_,h4,_⟩
   .exact absurd (hpq▸h4) (hf.dd _ h1)
   .rw[hpq]at h4;exact absurd (qH h2).1 h4
  .rcases a2 with⟨h4,h5⟩|⟨_,h4,_,h6⟩
   .rw[hpq]at h5;exact absurd (qH h5).1 h2
   .have hca:cls C a=1/\cls C b=1:=by
     rcases hf.cl with(h|h|h)|h
     .exact absurd h h1
     .exact absurd h h4
     .exact h
     .exact absurd (hpq▸hrb.ups q hq) (h.2.2 _ (hra.ups p hp))
    obtain⟨sz,es,fz,h7,h8⟩:=h3 (by omega);obtain⟨sz',es',fz',h9,h10⟩:=h6 (by omega);rw[hpq,h7]at h9;simp only[I3]at h9;obtain⟨rfl,rfl,_⟩:=h9;rw[h8,h10]
theorem Tr.front [EffOk C] {rc:Nat->Rec} {i:Nat} {o:Oper} (ho:ops[i]? =some o):∀{pre post:List Nat} {s e:St},WF s->(∀j∈pre,∀b,ops[j]? =some b->Free C ops b o (rc j) (rc i))->Tr C Gv ops rc (pre++i::post) s e->Tr C Gv ops rc (i::(pre++post)) s e
 |[],post,s,e,_,_,h=>h
 |j::pre,post,s,e,hs,hf,h=>by
  obtain⟨b,hb,vb,ub,h1,hr1,h2⟩:=h;obtain⟨o',ho',v,up,h3,hr3,h4⟩:=Tr.front ho (hs.put h1) (λj' hj'=>hf j' (by simp[hj'])) h2;obtain rfl:o=o':=by rw[ho]at ho';exact cp ho'
  obtain⟨h5,h6,h7,h8⟩:=h1.swap hs (hf j (by simp) b hb) hr1 h3 hr3;exact⟨o,ho,v,up,h5.1,h5.2,b,hb,vb,ub,h6.1,h6.2,h4.same h7 h8⟩
end
end Eng
end
section
namespace Eng
open Go Go.RowKit
variable [Env]
section
variable {C:Cx} {B:Bd} {F0:Nat->Prop} {w0:World} {ops:Array Oper} {Q:Exit->Act->World->Prop}
theorem xi {s s':St} {a:Act} {w:World} (h:J3 C B F0 w0 s a w) (h1:s.tmps=s'.tmps) (h2:s.objs=s'.objs):J3 C B F0 w0 s' a w:=by
 obtain⟨F,loc,h⟩:=h;obtain⟨t,o,d⟩:=s;obtain⟨t',o',d'⟩:=s';subst h1 h2;exact⟨F,loc,h.redirty⟩
theorem TO {o:Oper} {s:St} {a:Act} {w:World} {F:Nat->Prop} {loc:Where} {b:Bool} (h:Conc C B F0 w0 F loc s a w) (hw:yO ops o s.tmps b):M0 o (yielded ops a.tmps)=b:=by
 unfold yO at hw;unfold M0;split at hw
 .rename_i hg;rw[hg];exact hw.symm
 .rename_i j a2 hg;obtain⟨t,h1,hw⟩:=hw;rw[hg];rcases hw with⟨c,h2,rfl⟩|⟨h2,rfl⟩
  rotate_left
  .have ht:t<s.tmps.length:=by
    rcases bv t s.tmps.length with h|h
    .exact h
    .rw[qF _ h]at h2;simp at h2
   have hv:=h.tmps.nth .any undef _ _ t ht;rw[h2,Xj]at hv;have a0:a.tmps.getD t undef=undef:=hv;have a1:t<a.tmps.size:=by have:=h.tmps.length;simpa [this]using ht
   have hy:yielded ops a.tmps j=none:=by
    unfold yielded;unfold vQ at h1;split at h1
    .rename_i g hj;have:a.tmps[t]? =some undef:=by rw[Hu a1];simp[Bx,a1]at a0;rw[a0]
     simp[hj,h1,this,undef]
    .simp at h1
   dsimp only
   rw[hy];cases a2<;>rfl
  have ht:t<s.tmps.length:=by
   rcases bv t s.tmps.length with h|h
   .exact h
   .rw[qF _ h]at h2;simp at h2
  have hv:=h.tmps.nth .any undef _ _ t ht;rw[h2,Xj]at hv;have a0:a.tmps.getD t undef= .bool c:=(λ(x:Value) (hx:CD w F (.bool c) x)=>(by cases hx;rfl:x= .bool c)) _ hv;have a1:t<a.tmps.size:=by have:=h.tmps.length;simpa [this]using ht
  have hy:yielded ops a.tmps j=some c:=by
   unfold yielded;unfold vQ at h1;split at h1
   .rename_i g hj;have:a.tmps[t]? =some (.bool c):=by rw[Hu a1];simp[Bx,a1]at a0;rw[a0]
    simp[hj,h1,this]
   .simp at h1
  dsimp only
  rw[hy];cases c<;>cases a2<;>rfl
theorem Stp.wp [EffOk C] {o:Oper} {i:Nat} {s:St} {a:Act} {w:World} {v:V} {up:List (Nat×Obj)} {K:Act->World->Prop} (ho:ops[i]? =some o) (h:J3 C B F0 w0 s a w) (hs:Stp C (Gives C) ops o s v up)
 (hK:∀a' w',J3 C B F0 w0 (s.put o.dst v up) a' w'->K a' w'):wpOp C.P ops Q i K a w:=by
 obtain⟨F,loc,h⟩:=h;obtain⟨b,hw,hs⟩:=hs;unfold wpOp;rw[ho]
 dsimp only
 rw[TO h hw];cases b with
 |false=>obtain⟨rfl,rfl⟩:=hs;rw[if_neg (by simp)];exact hK _ _ ⟨F,loc,h.pure (v:= .no) rfl trivial⟩
 |true=>
  rw[if_pos rfl]at hs ⊢;refine .inl ?_;have hr:=gG (o:=o) h;generalize xp C o (ev s) s.objs=r at *;cases r with
  |fail=>exact hs.elim
  |ok v up=>obtain⟨rfl,rfl⟩:=hs;exact hr K Q hK
  |cond c v up=>obtain⟨hc,rfl,rfl⟩:=hs;exact hr hc K Q hK
  |look z row off ag=>obtain⟨ds,hc,rfl,rfl⟩:=hs;exact hr ds hc K Q hK
  |call f as sh up=>obtain⟨rs,h1,h2,rfl,rfl⟩:=hs;exact hr rs h1 h2 K Q hK
theorem Ii {s:St} {a:Act} {w:World} (h:J3 C B F0 w0 s a w):WF s:=by
 obtain⟨F,loc,h⟩:=h;have hk:∀v,Ref s.objs v->∀k∈qk v,nth .none s.objs k≠ .none:=λv hv k hk=>by
  cases v<;>simp only[qk,M1,bc]at hk<;>first|(subst hk;exact hv)|exact hv k hk
 refine⟨λv hv=>hk v (h.refs v hv),λk u hu=>hk u ?_⟩;have:=h.objs k;cases hc:nth .none s.objs k with
 |box cells=>rw[hc]at this hu;obtain⟨_,_,_,_,_,_,_,_,h5⟩:=this;exact h5 u hu
 |vec cells=>rw[hc]at this hu;obtain⟨_,_,_,_,_,_,_,_,_,_,h5,_⟩:=this;exact h5 u hu
 |bld T q=>rw[hc]at this hu;obtain⟨_,_,_,_,_,_,_,_,_,h5⟩:=this;simp[qW]at hu;subst hu;exact h5.1
 |_=>rw[hc]at hu;simp[qW]at hu
theorem Gn [EffOk C] {rc:Nat->Rec}:∀{l:List Nat} {s e:St} {a:Act} {w:World},Tr C (Gives C) ops rc l s e->J3 C B F0 w0 s a w->(∀a w,J3 C B F0 w0 e a w->Q .normal a w)->wpOps C.P ops Q l a w
 |[],s,e,a,w,ht,h,hQ=>hQ a w (xi h ht.1 ht.2)
 |i::l,s,e,a,w,ht,h,hQ=>by obtain⟨o,ho,v,up,h1,_,h2⟩:=ht;rw[wpOps_cons];exact h1.wp ho h λa' w' h'=>Gn h2 h' hQ
omit [Env] in
theorem XU (m j:Nat):YW m j=m.testBit j:=by
 unfold YW;rw[Bool.eq_iff_iff,Nat.beq_eq];show(m>>>j)&&&1=1↔_;rw[Nat.testBit,Nat.and_comm,Nat.one_and_eq_mod_two,bne_iff_ne];omega
omit [Env] in
theorem Bb:∀(l:List Oper) (acc:List Nat),∃ext,anc l acc=acc++ext/\ext.length=l.length/\∀i o,l[i]? =some o->nth 0 ext i=vS o.after.toList (acc++ext.take i)
 |[],acc=>⟨[],by simp[anc],rfl,λi o h=>by simp at h⟩
 |o::l,acc=>by
  obtain⟨ext,h1,h2,h3⟩:=Bb l (acc++[vS o.after.toList acc]);refine⟨vS o.after.toList acc::ext,by simp only[anc];rw[h1,bb];rfl,by simp[h2],λi p hi=>?_⟩;cases i with
  |zero=>simp only[Sz,cm]at hi;subst hi;simp[nth]
  |succ i=>simp only[Tk]at hi;have:=h3 i p hi;simp only[nth,List.take_succ_cons];rw[this,bb];rfl
omit [Env] in
theorem XV {acc:List Nat} {j:Nat}:∀{es:List Edge},YW (vS es acc) j=true->∃e∈es,Lv .any e=true/\(j=e.on\/YW (nth 0 acc e.on) j=true)
 |[],h=>by rw[XU]at h;simp[vS]at h
 |e::r,h=>by
  simp only[vS]at h;split at h
  .rename_i hb;have h:YW ((2^e.on|||nth 0 acc e.on)|||vS r acc) j=true:=h;rw[XU,cb,cb,Nat.testBit_two_pow,I0,I0,decide_eq_true_eq,<-XU,<-XU]at h;rcases h with(h|h)|h
   .exact⟨e,by simp,hb,.inl h.symm⟩
   .exact⟨e,by simp,hb,.inr h⟩
   .obtain⟨e',h1,h2,h3⟩:=XV h;exact⟨e',by simp[h1],h2,h3⟩
  .obtain⟨e',h1,h2,h3⟩:=XV h;exact⟨e',by simp[h1],h2,h3⟩
omit [Env] in
theorem Ij {i j:Nat} {o:Oper} {l:List Oper} (ho:l[i]? =some o) (h:YW (nth 0 (anc l []) i) j=true):∃e∈o.after.toList,Lv .any e=true/\(j=e.on\/YW (nth 0 (anc l []) e.on) j=true):=by
 obtain⟨ext,h1,h2,h3⟩:=Bb l [];simp only[List.nil_append]at h1 h3;rw[h1]at h ⊢;rw[h3 i o ho]at h;obtain⟨e,h4,h5,h6⟩:=XV h;refine⟨e,h4,h5,h6.imp_right λh6=>?_⟩;by_cases he:e.on<(ext.take i).length
 .rw[qm _ he]at h6;have hlt:e.on<ext.length:=by simp at he;omega
  rw[qm _ hlt]
  simpa using h6
 .rw[qF _ (b7.1 he),XU]at h6;simp at h6
structure ROk (C:Cx) (ops:Array Oper) (rc:Nat->Rec):Prop where
 free:∀i o,ops[i]? =some o->∀j b,j<i->ops[j]? =some b->YW (nth 0 (anc ops.toList []) i) j=true\/Free C ops b o (rc j) (rc i)
 back:∀i o,ops[i]? =some o->∀e∈o.after.toList,Lv .any e=true->e.on<i
omit [Env] in
theorem Ki {i:Nat}:∀{es:List Edge},VL es i=true->∀e∈es,Lv .any e=true->e.on<i
 |[],_,e,he,_=>by simp at he
 |e'::r,h,e,he,hb=>by
  simp only[VL,Hx]at h;rcases M2.1 he with rfl|he
  .have:=h.1;rw[hb]at this
   simpa [bF]using this
  .exact Ki h.2 e he hb
omit [Env] in
theorem Jt {o:Oper} {an:Nat}:∀{l:List Oper} {j:Nat},X7 C ops.toList o an l j=true->∀k b,l[k]? =some b->YW an (j+k)=true\/∀rb ro,Free C ops b o rb ro
 |[],_,_,k,b,hb=>by simp at hb
 |b'::r,j,h,k,b,hb=>by
  simp only[X7,Hx,I0]at h;cases k with
  |zero=>
   simp only[Sz,cm]at hb;subst hb;rcases h.1 with h1|h1
   .exact .inl h1
   .exact .inr λrb ro=>Ph h1
  |succ k=>
   simp only[Tk]at hb;have:=Jt h.2 k b hb
   rwa [b8,b9 1 k]at this
omit [Env] in
theorem XW {an:List Nat} {all:List Oper}:∀{l:List Oper} {k:Nat},vk C all an l k=true->∀i o,l[i]? =some o->X7 C all o (nth 0 an (k+i)) (all.take (k+i)) 0=true/\VL o.after.toList (k+i)=true
 |[],_,_,i,o,h=>by simp at h
 |o'::r,k,h,i,o,ho=>by
  simp only[vk,Hx]at h;cases i with
  |zero=>simp only[Sz,cm]at ho;subst ho;exact h.1
  |succ i=>
   simp only[Tk]at ho;have:=XW h.2 i o ho
   rwa [b8,b9 1 i]at this
omit [Env] in
theorem XX (rc:Nat->Rec) (h:vm C ops.toList=true):ROk C ops rc:=by
 have hg:=λi o (ho:ops[i]? =some o)=>XW (k:=0) h i o (by simpa using ho)
 simp only[bx]at hg;refine⟨λi o ho j b hj hb=>?_,λi o ho=>Ki (hg i o ho).2⟩;have:=Jt (hg i o ho).1 j b (by rw[W0 hj];simpa using hb);rw[bx]at this;exact this.imp_right λh=>h _ _
omit [Env] in
theorem XY {o:Oper} {ro:Rec} {an:Nat}:∀{l:List Oper} {rs:List Rec} {j:Nat},y9 C ops.toList o ro an l rs j=true->∀k b,l[k]? =some b->YW an (j+k)=true\/Free C ops b o (nth ([],[]) rs k) ro
 |[],_,_,_,k,b,hb=>by simp at hb
 |b'::r,rs,j,h,k,b,hb=>by
  simp only[y9,Hx,I0]at h;cases k with
  |zero=>
   simp only[Sz,cm]at hb;subst hb;rcases h.1 with h1|h1
   .exact .inl h1
   .exact .inr (TK h1)
  |succ k=>
   simp only[Tk]at hb;have:=XY h.2 k b hb;rw[b8,b9 1 k]at this;refine this.imp_right λh=>?_
   have e:nth ([],[]) (rs.drop 1) k=nth ([],[]) rs (k+1):=by rw[qu,qu];simp
   rwa [e]at h
omit [Env] in
theorem QO {an:List Nat} {all:List Oper} {recs:List Rec}:∀{l:List Oper} {k:Nat},kG C all recs an l k=true->∀i o,l[i]? =some o->y9 C all o (nth ([],[]) recs (k+i)) (nth 0 an (k+i)) (all.take (k+i)) recs 0=true/\VL o.after.toList (k+i)=true
 |[],_,_,i,o,h=>by simp at h
 |o'::r,k,h,i,o,ho=>by
  simp only[kG,Hx]at h;cases i with
  |zero=>simp only[Sz,cm]at ho;subst ho;exact h.1
  |succ i=>
   simp only[Tk]at ho;have:=QO h.2 i o ho
   rwa [b8,b9 1 i]at this
omit [Env] in
theorem QP {recs:List Rec} (h:wH C ops.toList recs=true):ROk C ops (λi=>nth ([],[]) recs i):=by
 have hg:=λi o (ho:ops[i]? =some o)=>QO (k:=0) h i o (by simpa using ho)
 simp only[bx]at hg;refine⟨λi o ho j b hj hb=>?_,λi o ho=>Ki (hg i o ho).2⟩;have:=XY (hg i o ho).1 j b (by rw[W0 hj];simpa using hb)
 rwa [bx]at this
theorem Pi [EffOk C] {rc:Nat->Rec} (hr:ROk C ops rc):∀{rem:List Nat} {listed:Array Bool} {s e:St} {a:Act} {w:World},Tr C (Gives C) ops rc rem s e->J3 C B F0 w0 s a w->(∀a w,J3 C B F0 w0 e a w->Q .normal a w)->
 rem.Pairwise (· < ·)->listed.size=ops.size->(∀i,i∈rem↔i<ops.size/\listed.getD i true=false)->(∀i,i<ops.size->listed.getD i true=true->∀j,YW (nth 0 (anc ops.toList []) i) j=true->listed.getD j false=true)->
 wpAny C.P .any ops Q rem.length listed a w:=by
 intro rem;generalize hn:rem.length=n
 induction n generalizing rem with
 |zero=>intro listed s e a w ht h hQ a2 b4 a0 ap;have a4:rem=[]:=List.eq_nil_of_length_eq_zero hn;subst a4;refine⟨?_,hQ a w (xi h ht.1 ht.2)⟩;apply List.eq_nil_iff_forall_not_mem.2;intro i hi;obtain⟨h0,o,ho,_⟩:=mem_ready.1 hi;have:=(a0 i).2 ⟨(Dd.1 ho).1,h0⟩;simp at this
 |succ n ih=>
  intro listed s e a w ht h hQ a2 b4 a0 ap;have a1:∀j,j<listed.size->listed.getD j true=listed.getD j false:=λj hj=>by simp[Bx,hj]
  refine⟨λa4=>?_,λi hi=>?_⟩
  .cases rem with
   |nil=>simp at hn
   |cons i r=>
    exfalso;have hi:=(a0 i).1 (by simp);obtain⟨o,ho,_⟩:=ht;have:i∈Region.ready .any ops listed:=by
     refine mem_ready.2 ⟨hi.2,o,ho,λe he hb=>?_⟩;have b0:=hr.back i o ho e (by simpa using he) hb;cases hl:listed.getD e.on true with
     |true=>rw[<-a1 _ (by omega)];exact hl
     |false=>
      have:=(a0 e.on).2 ⟨by omega,hl⟩;rcases M2.1 this with h1|h1
      .omega
      .have:=V1 a2 h1;omega
    rw[a4]at this;simp at this
  .obtain⟨h0,o,ho,an⟩:=mem_ready.1 hi;have ad:i<ops.size:=(Dd.1 ho).1;have him:i∈rem:=(a0 i).2 ⟨ad,h0⟩;obtain⟨al,a3,rfl⟩:=List.append_of_mem him;have a6:∀j,YW (nth 0 (anc ops.toList []) i) j=true->listed.getD j false=true:=λj hj=>by
    obtain⟨e,h1,h2,h3⟩:=Ij (by simpa using ho) hj;have he:=an e (by simpa using h1) h2;rcases h3 with rfl|h3
    .exact he
    .have b0:=hr.back i o ho e h1 h2;exact ap e.on (by omega) (by rw[a1 _ (by omega)];exact he) j h3
   have a5:=W1.1 a2;have a7:∀j∈al,∀b,ops[j]? =some b->Free C ops b o (rc j) (rc i):=λj hj b hb=>by
    have b0:j<i:=a5.2.2 j hj i (by simp);rcases hr.free i o ho j b b0 hb with h1|h1
    .have h2:=a6 j h1;have h3:=((a0 j).1 (by simp[hj])).2;rw[a1 j (by omega),h2]at h3;simp at h3
    .exact h1
   obtain⟨o',b5,v,up,h1,_,h2⟩:=Tr.front ho (Ii h) a7 ht;obtain rfl:o=o':=by rw[ho]at b5;exact cp b5
   refine h1.wp ho h λa' w' h'=>?_
   have b1:∀j,j∈al++a3↔j∈al++i::a3/\j≠i:=λj=>by
    have b2:∀j∈al,j≠i:=λj hj he=>by have:=a5.2.2 j hj i (by simp);omega
    have ag:∀j∈a3,j≠i:=λj hj he=>by have:=V1 a5.2.1 hj;omega
    simp only[Pl,M2];constructor
    .rintro(h|h)
     .exact⟨.inl h,b2 j h⟩
     .exact⟨.inr (.inr h),ag j h⟩
    .rintro⟨h|h|h,h'⟩
     .exact .inl h
     .exact absurd h h'
     .exact .inr h
   have b3:∀j,(listed.setIfInBounds i true).getD j true=false↔listed.getD j true=false/\j≠i:=λj=>by
    by_cases hij:i=j
    .subst hij;simp[b4,ad]
    .rw[getD_set_ne true hij];exact⟨λh=>⟨h,λe=>hij e.symm⟩,λh=>h.1⟩
   refine ih (rem:=al++a3) (by simp at hn ⊢;omega) h2 h' hQ ?_ (by simp[b4]) (λj=>?_) (λk hk hlk j hj=>?_)
   .exact W1.2 ⟨a5.1,(List.pairwise_cons.1 a5.2.1).2,λx hx y hy=>a5.2.2 x hx y (by simp[hy])⟩
   .rw[b1,a0,b3];exact⟨λh=>⟨h.1.1,h.1.2,h.2⟩,λh=>⟨⟨h.1,h.2.1⟩,h.2.2⟩⟩
   .by_cases hki:i=k
    .subst hki;exact getD_set_true (a6 j hj)
    .rw[getD_set_ne true hki]at hlk;exact getD_set_true (ap k hk hlk j hj)
theorem yP [EffOk C] {rc:Nat->Rec} {id:Nat} {draw:Bool} {s e:St} {a:Act} {w:World} (hm:C.P.follows .mixedOrders=true) (hr:draw=true->ROk C ops rc) (ht:Tr C (Gives C) ops rc (List.range ops.size) s e) (h:J3 C B F0 w0 s a w)
 (hQ:∀a w,J3 C B F0 w0 e a w->Q .normal a w):(Code.region id ops draw).wp C.P Q a w:=by
 cases draw with
 |false=>exact wp_region (Gn ht h hQ)
 |true=>
  refine wp_region_any hm ?_;have hd:J3 C B F0 w0 s a {w with drawn:=w.drawn+1}:=by obtain⟨F,loc,h⟩:=h;exact⟨F,loc,h.drew⟩
  have:=Pi (hr rfl) (listed:=Array.replicate ops.size false) ht hd hQ List.pairwise_lt_range (by simp) (λi=>by
   constructor
   .intro h;exact⟨by simpa using h,by simp[Bx,be.1 h]⟩
   .intro h;exact be.2 h.1) (λi hi h=>by simp[Bx,hi]at h)
  rwa [List.length_range]at this
end
end Eng
end
section
namespace Eng
open Go Go.RowKit
variable [Env]
section
variable {C:Cx} {B:Bd} {F0:Nat->Prop} {w0:World} {F:Nat->Prop} {loc:Where} {st:St} {a:Act} {w:World}
omit [Env] in
theorem WI {α β:Type} {R:α->β->Prop} (d:α) {y:α}:∀{as:List α} {bs:List β} (i:Nat),(∀b,R (nth d as i) b->R y b)->All2 R as bs->All2 R (upd as i y) bs
 |[],[],_,_,_=>trivial
 |_::_,b::_,0,h,h'=>⟨h b h'.1,h'.2⟩
 |_::as,_::bs,i+1,h,h'=>⟨h'.1,WI (as:=as) (bs:=bs) d i h h'.2⟩
 |[],_::_,_,_,h=>h.elim
 |_::_,[],_,_,h=>h.elim
omit [Env] in
theorem yQ {α β:Type} {R R':α->β->Prop} (d:α) {y:α}:∀{as:List α} {bs:List β} (i:Nat),(∀b,R (nth d as i) b->R' y b)->All2 R as bs->All2 R' as bs->All2 R' (upd as i y) bs
 |[],[],_,_,_,_=>trivial
 |_::_,b::_,0,h,h',h''=>⟨h b h'.1,h''.2⟩
 |_::as,_::bs,i+1,h,h',h''=>⟨h''.1,yQ (as:=as) (bs:=bs) d i h h'.2 h''.2⟩
 |[],_::_,_,_,h,_=>h.elim
 |_::_,[],_,_,h,_=>h.elim
theorem Conc.weakT {t:Nat} {v:V} {d:List Nat} (h:Conc C B F0 w0 F loc st a w) (hv:∀x,CV loc st.objs w F (nth .any st.tmps t) x->CV loc st.objs w F v x) (hr:Ref st.objs v):Conc C B F0 w0 F loc ⟨upd st.tmps t v,st.objs,d⟩ a w:=
 ⟨h.prog,h.below,h.hB,h.defers,WI .any t hv h.tmps,λu hu=>by
  rcases xL hu with hu|rfl
  .exact h.refs u hu
  .exact hr,h.objs,h.inj,h.fresh,h.bound,h.fsub,h.fsup,h.inv⟩
theorem Conc.relocate {objs':List Obj} {loc':Where} {d:List Nat} (h:Conc C B F0 w0 F loc st a w) (hl:Le st.objs objs' loc loc') (hobjs:∀k,CO loc' objs' w F k (nth .none objs' k)) (hinj:∀k k' b c c',loc' k=some (b,c)->loc' k'=some (b,c')->k=k')
 (hfresh:∀k b c,loc' k=some (b,c)->Own B b/\b<w.heap.size):Conc C B F0 w0 F loc' ⟨st.tmps,objs',d⟩ a w:=
 ⟨hl.prog.trans h.prog,h.below,h.hB,h.defers,h.tmps.mono_mem λv hv _ hx=>CV.le (λ_ h=>h) (λ_ _=>rfl) hl (h.refs v hv) hx,λv hv=>(h.refs v hv).le hl,hobjs,hinj,hfresh,h.bound,h.fsub,h.fsup,h.inv⟩
omit [Env] in
theorem XZ {ks:List Nat} {v:V} (h:VN ks v=false):∀k∈qk v,k∉ks:=by
 intro k hk hm;have ha:∀l:List Nat,eg ks l=false->∀j∈l,Qy j ks=false:=by
  intro l
  induction l with
  |nil=>intro _ j hj;simp at hj
  |cons x l ih=>
   intro h j hj;simp only[eg,Hy]at h;rcases M2.1 hj with rfl|hj
   .exact h.1
   .exact ih h.2 j hj
 cases v<;>simp only[qk,M1,bc]at hk<;>first|(subst hk;simp[VN,xK.2 hm]at h;done)|(have h2:=ha _ h k hk;rw[xK.2 hm]at h2;cases h2)
omit [Env] in
theorem kr {ks:List Nat}:∀{l:List V},QL ks l=false->∀v∈l,VN ks v=false
 |[],_,v,hv=>by simp at hv
 |u::r,h,v,hv=>by
  simp only[QL,Hy]at h;rcases M2.1 hv with rfl|hv
  .exact h.1
  .exact kr h.2 v hv
omit [Env] in
theorem zz {ks:List Nat}:∀{l:List Obj},zl ks l=false->∀o∈l,∀u∈qW o,VN ks u=false
 |[],_,v,hv=>by simp at hv
 |u::r,h,v,hv=>by
  intro x hx;rcases M2.1 hv with e|hm
  .subst e;cases v with
   |box cells=>simp only[zl,Hy]at h;exact kr h.1 x hx
   |bld T q=>simp only[zl,Hy]at h;simp[qW]at hx;subst hx;exact h.1
   |vec cells=>simp only[zl,Hy]at h;exact kr h.1 x hx
   |_=>simp[qW]at hx
  .cases u<;>simp only[zl,Hy]at h
   .exact zz h v hm x hx
   .exact zz h v hm x hx
   .exact zz h.2 v hm x hx
   .exact zz h v hm x hx
   .exact zz h.2 v hm x hx
   .exact zz h.2 v hm x hx
theorem CV.keep {loc':Where} {objs objs':List Obj} {v:V} {x:Value} (hty:loc'.ty=loc.ty) (hk:∀k∈qk v,nth .none objs' k=nth .none objs k/\loc' k=loc k) (h:CV loc objs w F v x):CV loc' objs' w F v x:=by
 cases v with
 |box k off=>intro a0 hc;rw[(hk k (by simp[qk])).1]at hc;rw[(hk k (by simp[qk])).2];exact h a0 hc
 |arr k=>intro s es fz hc;rw[(hk k (by simp[qk])).1]at hc;rw[(hk k (by simp[qk])).2];exact h s es fz hc
 |elt k i off=>intro s es fz hc;rw[(hk k (by simp[qk])).1]at hc;rw[(hk k (by simp[qk])).2];exact h s es fz hc
 |sub k off len=>intro s es fz hc;rw[(hk k (by simp[qk])).1]at hc;rw[(hk k (by simp[qk])).2];exact h s es fz hc
 |arrAt k g c t=>intro s es fz hc;rw[(hk k (by simp[qk])).1]at hc;rw[(hk k (by simp[qk])).2,hty];exact h s es fz hc
 |boxAt k g=>intro o hc;rw[(hk k (by simp[qk])).1]at hc;rw[(hk k (by simp[qk])).2];exact h o hc
 |vec k n=>intro o hc;rw[(hk k (by simp[qk])).1]at hc;rw[(hk k (by simp[qk])).2];exact h o hc
 |tpo k as=>obtain⟨x,ys,rfl,h1,h2⟩:=h;refine⟨x,ys,rfl,λs es fz hc=>?_,h2⟩;rw[(hk k (by simp[qk])).1]at hc;rw[(hk k (by simp[qk])).2];exact h1 s es fz hc
 |agv cs=>
  obtain⟨vs,rfl,h⟩:=h;refine⟨vs,rfl,h.mono_mem λc hc y hy=>?_⟩;cases c with
  |arr k=>have hk:=hk k (xC.2 hc);refine⟨λs es fz hc=>?_,hy.2⟩;rw[hk.1]at hc;rw[hk.2];exact hy.1 s es fz hc
  |_=>exact hy
 |_=>exact h
omit [Env] in
theorem Ref.keep {objs objs':List Obj} {v:V} (hk:∀k∈qk v,nth .none objs' k=nth .none objs k) (h:Ref objs v):Ref objs' v:=by
 cases v with
 |box k off=>intro hc;rw[hk k (by simp[qk])]at hc;exact h hc
 |arr k=>intro hc;rw[hk k (by simp[qk])]at hc;exact h hc
 |elt k i off=>intro hc;rw[hk k (by simp[qk])]at hc;exact h hc
 |sub k off len=>intro hc;rw[hk k (by simp[qk])]at hc;exact h hc
 |arrAt k g c t=>intro hc;rw[hk k (by simp[qk])]at hc;exact h hc
 |boxAt k g=>intro hc;rw[hk k (by simp[qk])]at hc;exact h hc
 |vec k n=>intro hc;rw[hk k (by simp[qk])]at hc;exact h hc
 |tpo k as=>intro hc;rw[hk k (by simp[qk])]at hc;exact h hc
 |agv cs=>intro k a0 hc;rw[hk k a0]at hc;exact h k a0 hc
 |_=>trivial
theorem CO.keep {loc':Where} {objs objs':List Obj} {k:Nat} {o:Obj} (hP:loc'.P=loc.P) (hkk:loc' k=loc k) (hty:loc'.ty=loc.ty) (hk:∀v∈qW o,∀j∈qk v,nth .none objs' j=nth .none objs j/\loc' j=loc j) (h:CO loc objs w F k o):CO loc' objs' w F k o:=by
 cases o with
 |none=>exact hkk.trans h
 |dead=>exact hkk.trans h
 |box cells=>obtain⟨b,c,cs,t,h1,h2,h3,h4,h5⟩:=h;exact⟨b,c,cs,t,by rw[hkk];exact h1,h2,h3,h4.mono_mem λv hv x hx=>⟨CV.keep hty (hk v hv) hx.1,hx.2⟩,λv hv=>Ref.keep (λj hj=>(hk v hv j hj).1) (h5 v hv)⟩
 |bld T q=>obtain⟨b,c,p,v,h1,h2,h3,h4,h5,h6⟩:=h;have hq:=hk q (by simp[qW]);exact⟨b,c,p,v,by rw[hkk];exact h1,h2,h3,h4,CV.keep hty hq h5,Ref.keep (λj hj=>(hq j hj).1) h6.1,by rw[hty,hP];exact h6.2⟩
 |vec cells=>
  obtain⟨b,c,cs,t,h1,h2,h3,h4,h5,h7,h8,h9⟩:=h;exact⟨b,c,cs,t,by rw[hkk];exact h1,h2,h3,h4,h5,λj hj=>by
   obtain⟨x,q1,q2,q3⟩:=h7 j hj;exact⟨x,q1,CV.keep hty (hk _ (kc hj)) q2,q3⟩,λv hv=>Ref.keep (λj hj=>(hk v hv j hj).1) (h8 v hv),by rw[hP];exact h9.1,h9.2⟩
 |arr s es fz=>obtain⟨h1,h2,h3,h4⟩:=h;refine⟨h1,h2,h3,?_⟩;rw[hkk,hP,hty];exact h4
omit [Env] in
theorem C7 {α:Type} {d:α} {l:List α} {i:Nat} (h:nth d l i≠d):nth d l i∈l:=by
 by_cases hi:i<l.length
 .rw[qm _ hi];exact U0 hi
 .exact absurd (qF _ (b7.1 hi)) h
theorem Conc.forgets {ks:List Nat} {objs':List Obj} {d:List Nat} (h:Conc C B F0 w0 F loc st a w) (hin:∀k∈ks,nth .none objs' k= .none) (hout:∀k,k∉ks->nth .none objs' k=nth .none st.objs k) (ht:QL ks st.tmps=false)
 (ho:zl ks objs'=false):∃loc',Conc C B F0 w0 F loc' ⟨st.tmps,objs',d⟩ a w:=by
 refine⟨⟨loc.P,λk=>if k∈ks then none else loc k,loc.ty⟩,h.prog,h.below,h.hB,h.defers,?_,?_,?_,?_,?_,h.bound,h.fsub,h.fsup,h.inv⟩
 .refine h.tmps.mono_mem λv hv x hx=>?_
  refine CV.keep (loc:=loc) (objs:=st.objs) ?_ (λk hk=>?_) hx
  .rfl
  .have hn:=XZ (kr ht v hv) k hk;exact⟨hout k hn,by simp[hn]⟩
 .exact λv hv=>Ref.keep (λk hk=>hout k (XZ (kr ht v hv) k hk)) (h.refs v hv)
 .intro k;by_cases hk:k∈ks
  .change CO _ objs' w F k (nth .none objs' k);rw[hin k hk];show(if k∈ks then none else loc k)=none;simp[hk]
  .change CO _ objs' w F k (nth .none objs' k);have a0:∀u∈qW (nth .none objs' k),VN ks u=false:=λu hu=>by
    have hne:nth .none objs' k≠ .none:=by intro e;rw[e]at hu;simp[qW]at hu
    exact zz ho _ (C7 hne) u hu
   have h0:=h.objs k;rw[<-hout k hk]at h0;refine CO.keep (loc:=loc) (objs:=st.objs) rfl (by simp[hk]) rfl (λv hv j hj=>?_) h0;have hn:=XZ (a0 v hv) j hj;exact⟨hout j hn,by simp[hn]⟩
 .intro k k' b c c' h1 h2;by_cases hk:k∈ks
  .simp[hk]at h1
  .by_cases hk':k'∈ks
   .simp[hk']at h2
   .simp only[if_neg hk]at h1;simp only[if_neg hk']at h2;exact h.inj _ _ _ _ _ h1 h2
 .intro k b c h1;by_cases hk:k∈ks
  .simp[hk]at h1
  .simp only[if_neg hk]at h1;exact h.fresh _ _ _ h1
theorem Conc.move {s k key sz:Nat} {es:List (List D)} {d:List Nat} (h:Conc C B F0 w0 F loc st a w) (hs:nth .any st.tmps s= .arr k) (hk:nth .none st.objs k= .arr sz es false) (hkey:nth .none st.objs key= .none) (hlt:key<st.objs.length):
 ∃loc',Conc C B F0 w0 F loc' ⟨upd st.tmps s (.arr key),upd (upd st.objs k .dead) key (.arr sz es false),d⟩ a w:=by
 have hne:k≠key:=λe=>by subst e;rw[hk]at hkey;simp at hkey
 have a1:k<st.objs.length:=by
  rcases bv k st.objs.length with h|h
  .exact h
  .rw[qF _ h]at hk;simp at hk
 have hn:∀j,nth .none (upd (upd st.objs k .dead) key (.arr sz es false)) j=if j=key then .arr sz es false else if j=k then .dead else nth .none st.objs j:=λj=>by
  by_cases h1:j=key
  .subst h1;rw[qb _ _ _ (by rw[xn];simpa using hlt)];simp
  .rw[qa _ _ _ (cg h1),if_neg h1];by_cases h2:j=k
   .subst h2;rw[qb _ _ _ a1];simp
   .rw[qa _ _ _ (cg h2),if_neg h2]
 generalize hob:upd (upd st.objs k .dead) key (.arr sz es false)=objs' at *
 let loc':Where:=⟨loc.P,λj=>if j=key then loc k else if j=k then none else loc j,λj=>if j=key then loc.ty k else loc.ty j⟩
 have a3:Le st.objs objs' loc loc':=by
  refine⟨rfl,λj hj=>by
   have:j≠key:=λe=>by subst e;exact hj hkey
   simp[loc',this],λj hj=>?_,λj o' hj hc hbx=>?_,λj s' es' fz' hj hc=>?_⟩
  .rw[hn];split
   .simp
   .split
    .simp
    .exact hj
  .rw[hn]at hc;split at hc
   .rw[<-hc]at hbx;simp[xZ]at hbx
   .split at hc
    .rw[<-hc]at hbx;simp[xZ]at hbx
    .rename_i e1 e2;exact⟨by rw[hc];exact hbx,by simp[loc',e1,e2]⟩
  .rw[hn]at hc;split at hc
   .rename_i e;rw[e]at hj;exact absurd hkey hj
   .split at hc
    .simp at hc
    .exact⟨⟨_,_,hc,rfl⟩,by simp[loc', *]⟩
 have hlk:loc key=none:=by have:=h.objs key;rw[hkey]at this;exact this
 have h1:Conc C B F0 w0 F loc' ⟨st.tmps,objs',d⟩ a w:=by
  refine h.relocate a3 (λj=>?_) ?_ ?_
  .rw[hn];split
   .rename_i e;have h0:=h.objs k;rw[hk]at h0;obtain⟨q1,q2,q3,q4⟩:=h0;refine⟨q1,q2,q3,?_⟩;simp only[loc',e,if_pos];exact q4
   .split
    .rename_i e;show loc' j=none;simp[loc',e,hne]
    .rename_i e1 e2;exact I2 (λ_ h=>h) (λ_ _=>rfl) a3 (by simp[loc',e1,e2]) (by simp[loc',e1]) (λ_ _ _=>⟨rfl,λh=>h⟩) (h.objs j)
  .intro j j' b c c' g1 g2;simp only[loc']at g1 g2;split at g1<;>split at g2
   .rw[‹j=key›,‹j'=key›]
   .split at g2
    .simp at g2
    .exact absurd (h.inj _ _ _ _ _ g1 g2).symm ‹_›
   .split at g1
    .simp at g1
    .exact absurd (h.inj _ _ _ _ _ g1 g2) ‹_›
   .split at g1
    .simp at g1
    .split at g2
     .simp at g2
     .exact h.inj _ _ _ _ _ g1 g2
  .intro j b c g1;simp only[loc']at g1;split at g1
   .exact h.fresh _ _ _ g1
   .split at g1
    .simp at g1
    .exact h.fresh _ _ _ g1
 refine⟨loc',?_⟩;have a0:Conc C B F0 w0 F loc' ⟨upd st.tmps s (.arr key),objs',d⟩ a w:=by
  refine⟨h1.prog,h1.below,h1.hB,h1.defers,?_,λu hu=>?_,h1.objs,h1.inj,h1.fresh,h1.bound,h1.fsub,h1.fsup,h1.inv⟩
  ·--slot s:read from the old state
   have hs0:s<st.tmps.length:=by
    rcases bv s st.tmps.length with h|h
    .exact h
    .rw[qF _ h]at hs;simp at hs
   have a2:CV loc' objs' w F (.arr key) (nth undef a.tmps.toList s):=by
    have h0:=h.tmps.nth .any undef _ _ s hs0;rw[hs]at h0;intro s' es' fz' hc;rw[hn,if_pos rfl]at hc;simp only[I3]at hc;obtain⟨rfl,rfl,rfl⟩:=hc;have:=h0 sz es false hk
    simpa [loc']using this
   have hlen:=h.tmps.length;have:upd a.tmps.toList s (nth undef a.tmps.toList s)=a.tmps.toList:=Yd undef _ _ _ rfl;have h2:=All2.upd (i:=s) a2 h1.tmps;rw[this]at h2;exact h2
  .rcases xL hu with hu|rfl
   .exact h1.refs u hu
   .show nth .none objs' key≠ .none;rw[hn];simp
 exact a0
theorem Conc.moveN {s k key sz n:Nat} {es:List (List D)} {d:List Nat} (h:Conc C B F0 w0 F loc st a w) (hs:nth .any st.tmps s= .sub k 0 n) (hk:nth .none st.objs k= .arr sz es false) (hkey:nth .none st.objs key= .none) (hlt:key<st.objs.length):
 ∃loc',Conc C B F0 w0 F loc' ⟨upd st.tmps s (.arr key),upd (upd st.objs k .dead) key (.arr sz (es.take n) false),d⟩ a w:=by
 have hnl:n<=es.length:=by
  have hlt:s<st.tmps.length:=by
   rcases bv s st.tmps.length with h1|h1
   .exact h1
   .rw[qF _ h1]at hs;simp at hs
  have hc:=h.tmps.nth .any default _ _ _ hlt;rw[hs]at hc;rcases hc _ _ _ hk with⟨b,c,q1,q2,q3⟩|⟨_,_,_,_,h0,_⟩|⟨_,h0,_⟩
  .omega
  .omega
  .omega
 have hne:k≠key:=λe=>by subst e;rw[hk]at hkey;simp at hkey
 have a1:k<st.objs.length:=by
  rcases bv k st.objs.length with h|h
  .exact h
  .rw[qF _ h]at hk;simp at hk
 have hn:∀j,nth .none (upd (upd st.objs k .dead) key (.arr sz (es.take n) false)) j=if j=key then .arr sz (es.take n) false else if j=k then .dead else nth .none st.objs j:=λj=>by
  by_cases h1:j=key
  .subst h1;rw[qb _ _ _ (by rw[xn];simpa using hlt)];simp
  .rw[qa _ _ _ (cg h1),if_neg h1];by_cases h2:j=k
   .subst h2;rw[qb _ _ _ a1];simp
   .rw[qa _ _ _ (cg h2),if_neg h2]
 generalize hob:upd (upd st.objs k .dead) key (.arr sz (es.take n) false)=objs' at *
 let loc':Where:=⟨loc.P,λj=>if j=key then loc k else if j=k then none else loc j,λj=>if j=key then loc.ty k else loc.ty j⟩
 have a3:Le st.objs objs' loc loc':=by
  refine⟨rfl,λj hj=>by
   have:j≠key:=λe=>by subst e;exact hj hkey
   simp[loc',this],λj hj=>?_,λj o' hj hc hbx=>?_,λj s' es' fz' hj hc=>?_⟩
  .rw[hn];split
   .simp
   .split
    .simp
    .exact hj
  .rw[hn]at hc;split at hc
   .rw[<-hc]at hbx;simp[xZ]at hbx
   .split at hc
    .rw[<-hc]at hbx;simp[xZ]at hbx
    .rename_i e1 e2;exact⟨by rw[hc];exact hbx,by simp[loc',e1,e2]⟩
  .rw[hn]at hc;split at hc
   .rename_i e;rw[e]at hj;exact absurd hkey hj
   .split at hc
    .simp at hc
    .exact⟨⟨_,_,hc,rfl⟩,by simp[loc', *]⟩
 have hlk:loc key=none:=by have:=h.objs key;rw[hkey]at this;exact this
 have h1:Conc C B F0 w0 F loc' ⟨st.tmps,objs',d⟩ a w:=by
  refine h.relocate a3 (λj=>?_) ?_ ?_
  .rw[hn];split
   .rename_i e;have h0:=h.objs k;rw[hk]at h0;obtain⟨q1,q2,q3,q4⟩:=h0;have a4:(es.take n).length=n:=by rw[List.length_take];omega
    refine⟨q1.le (by omega),q2,λe' he'=>q3 e' (W2 he'),?_⟩;simp only[loc',e,if_pos];rcases q4 with⟨q4,q5⟩|⟨b,c,cs,t,q4,q5,q6,q7,q8,q9,q10⟩
    .exact .inl ⟨q4,by rw[q5];simp⟩
    .refine .inr ⟨b,c,cs,t,q4,q5,q6,q7,by omega,λj hj=>?_,q10⟩;rw[a4]at hj;have hj2:j<es.length*sz:=Nat.lt_of_lt_of_le hj (Nat.mul_le_mul_right sz hnl);obtain⟨v,r1,r2⟩:=q9 j hj2;refine⟨v,r1,?_⟩;have hfl:(es.take n).flatten.length=n*sz:=by rw[qn (λe' he'=>q3 e' (W2 he')),a4]
     have hsp:es.flatten=(es.take n).flatten++(es.drop n).flatten:=by rw[<-List.flatten_append,List.take_append_drop]
     have:nth .undef (es.take n).flatten j=nth .undef es.flatten j:=by rw[hsp,qu,qu,List.getElem?_append_left (by omega)]
     rw[this];exact r2
   .split
    .rename_i e;show loc' j=none;simp[loc',e,hne]
    .rename_i e1 e2;exact I2 (λ_ h=>h) (λ_ _=>rfl) a3 (by simp[loc',e1,e2]) (by simp[loc',e1]) (λ_ _ _=>⟨rfl,λh=>h⟩) (h.objs j)
  .intro j j' b c c' g1 g2;simp only[loc']at g1 g2;split at g1<;>split at g2
   .rw[‹j=key›,‹j'=key›]
   .split at g2
    .simp at g2
    .exact absurd (h.inj _ _ _ _ _ g1 g2).symm ‹_›
   .split at g1
    .simp at g1
    .exact absurd (h.inj _ _ _ _ _ g1 g2) ‹_›
   .split at g1
    .simp at g1
    .split at g2
     .simp at g2
     .exact h.inj _ _ _ _ _ g1 g2
  .intro j b c g1;simp only[loc']at g1;split at g1
   .exact h.fresh _ _ _ g1
   .split at g1
    .simp at g1
    .exact h.fresh _ _ _ g1
 refine⟨loc',?_⟩;have a0:Conc C B F0 w0 F loc' ⟨upd st.tmps s (.arr key),objs',d⟩ a w:=by
  refine⟨h1.prog,h1.below,h1.hB,h1.defers,?_,λu hu=>?_,h1.objs,h1.inj,h1.fresh,h1.bound,h1.fsub,h1.fsup,h1.inv⟩
  ·--slot s:read from the old state
   have hs0:s<st.tmps.length:=by
    rcases bv s st.tmps.length with h|h
    .exact h
    .rw[qF _ h]at hs;simp at hs
   have a2:CV loc' objs' w F (.arr key) (nth undef a.tmps.toList s):=by
    have h0:=h.tmps.nth .any undef _ _ s hs0;rw[hs]at h0;intro s' es' fz' hc;rw[hn,if_pos rfl]at hc;simp only[I3]at hc;obtain⟨rfl,rfl,rfl⟩:=hc;rcases h0 sz es false hk with⟨b,c,e1,e2,e3⟩|⟨_,e1,e2,_,_,e3⟩|⟨_,e1,_⟩
    .refine .inl ⟨b,c,by simpa [loc']using e1,?_⟩;rw[e3];simp;omega
    .refine .inr ⟨by simpa [loc']using e1,by rw[e2];simp,e3⟩
    .omega
   have hlen:=h.tmps.length;have:upd a.tmps.toList s (nth undef a.tmps.toList s)=a.tmps.toList:=Yd undef _ _ _ rfl;have h2:=All2.upd (i:=s) a2 h1.tmps;rw[this]at h2;exact h2
  .rcases xL hu with hu|rfl
   .exact h1.refs u hu
   .show nth .none objs' key≠ .none;rw[hn];simp
 exact a0
theorem Conc.nilOwn {s key sz:Nat} {d:List Nat} (h:Conc C B F0 w0 F loc st a w) (hs:nth .any st.tmps s= .nilS) (hkey:nth .none st.objs key= .none) (hlt:key<st.objs.length) (hsz:0<sz):
 Conc C B F0 w0 F loc ⟨upd st.tmps s (.arr key),upd st.objs key (.arr sz [] false),d⟩ a w:=by
 have a1:loc key=none:=by have:=h.objs key;rw[hkey]at this;exact this
 have a0:Le st.objs (upd st.objs key (.arr sz [] false)) loc loc:=by
  refine⟨rfl,λ_ _=>rfl,λj hj=>?_,λj o' hj hc hbx=>?_,λj s' es' fz' hj hc=>?_⟩
  .rw[xW];split
   .simp
   .exact hj
  .rw[xW]at hc;split at hc
   .rw[<-hc]at hbx;simp[xZ]at hbx
   .exact⟨by rw[hc];exact hbx,rfl⟩
  .rw[xW]at hc;split at hc
   .rename_i e;rw[<-e.1]at hj;exact absurd hkey hj
   .exact⟨⟨_,_,hc,rfl⟩,rfl⟩
 have h1:Conc C B F0 w0 F loc ⟨st.tmps,upd st.objs key (.arr sz [] false),d⟩ a w:=by
  refine h.relocate a0 (λj=>?_) h.inj h.fresh;by_cases hj:key=j
  .subst hj;rw[qb _ _ _ hlt];exact⟨by simp[roomS],hsz,λe he=>by simp at he,.inl ⟨a1,rfl⟩⟩
  .rw[qa _ _ _ hj];exact I2 (λ_ h=>h) (λ_ _=>rfl) a0 rfl rfl (λ_ _ _=>⟨rfl,λh=>h⟩) (h.objs j)
 have h2:=h1.weakT (t:=s) (v:= .arr key) (d:=d) (λx hx=>by
  have hx:CV loc (upd st.objs key (.arr sz [] false)) w F (nth .any st.tmps s) x:=hx;rw[hs]at hx;intro s' es' fz' hc;change nth .none (upd st.objs key (.arr sz [] false)) key=_ at hc;rw[qb _ _ _ hlt]at hc;simp only[I3]at hc;obtain⟨_,rfl,_⟩:=hc;exact .inr ⟨a1,rfl,hx⟩) (by
   show nth .none (upd st.objs key (.arr sz [] false)) key≠ .none;rw[qb _ _ _ hlt];simp)
 exact h2
theorem Conc.moveM {k j key sz i0:Nat} {cells:List V} {es:List (List D)} {d:List Nat} (h:Conc C B F0 w0 F loc st a w) (hk:nth .none st.objs k= .box cells) (hi:nth .any cells i0= .arr j) (hj:nth .none st.objs j= .arr sz es false) (hkey:nth .none st.objs key= .none) (hlt:key<st.objs.length):
 ∃loc',Conc C B F0 w0 F loc' ⟨st.tmps,upd (upd (upd st.objs j .dead) key (.arr sz es false)) k (.box (upd cells i0 (.arr key))),d⟩ a w:=by
 have hne:j≠key:=λe=>by subst e;rw[hj]at hkey;simp at hkey
 have a0:k≠key:=λe=>by subst e;rw[hk]at hkey;simp at hkey
 have a2:k≠j:=λe=>by subst e;rw[hk]at hj;simp at hj
 have a1:j<st.objs.length:=by
  rcases bv j st.objs.length with h|h
  .exact h
  .rw[qF _ h]at hj;simp at hj
 have a3:k<st.objs.length:=by
  rcases bv k st.objs.length with h|h
  .exact h
  .rw[qF _ h]at hk;simp at hk
 have hn:∀i,nth .none (upd (upd (upd st.objs j .dead) key (.arr sz es false)) k (.box (upd cells i0 (.arr key)))) i=if i=k then .box (upd cells i0 (.arr key))else if i=key then .arr sz es false else if i=j then .dead else nth .none st.objs i:=λi=>by
  by_cases h0:i=k
  .subst h0;rw[qb _ _ _ (by rw[qi,qi];exact a3)];simp
  .rw[qa _ _ _ (cg h0),if_neg h0];by_cases h1:i=key
   .subst h1;rw[qb _ _ _ (by rw[qi];exact hlt)];simp
   .rw[qa _ _ _ (cg h1),if_neg h1];by_cases h2:i=j
    .subst h2;rw[qb _ _ _ a1];simp
    .rw[qa _ _ _ (cg h2),if_neg h2]
 generalize hob:upd (upd (upd st.objs j .dead) key (.arr sz es false)) k (.box (upd cells i0 (.arr key)))=objs' at *
 let loc':Where:=⟨loc.P,λi=>if i=key then loc j else if i=j then none else loc i,λi=>if i=key then loc.ty j else loc.ty i⟩
 have a4:Le st.objs objs' loc loc':=by
  refine⟨rfl,λi hi=>by
   have:i≠key:=λe=>by subst e;exact hi hkey
   simp[loc',this],λi hi=>?_,λi o' hi hc hbx=>?_,λi s' es' fz' hi hc=>?_⟩
  .rw[hn];split
   .simp
   .split
    .simp
    .split
     .simp
     .exact hi
  .rw[hn]at hc;split at hc
   .rename_i e0;subst e0;exact⟨by rw[hk];rfl,by simp[loc',a0,a2]⟩
   .split at hc
    .rw[<-hc]at hbx;simp[xZ]at hbx
    .split at hc
     .rw[<-hc]at hbx;simp[xZ]at hbx
     .rename_i e1 e2;exact⟨by rw[hc];exact hbx,by simp[loc',e1,e2]⟩
  .rw[hn]at hc;split at hc
   .simp at hc
   .split at hc
    .rename_i e;rw[e]at hi;exact absurd hkey hi
    .split at hc
     .simp at hc
     .exact⟨⟨_,_,hc,rfl⟩,by simp[loc', *]⟩
 refine⟨loc',h.relocate a4 (λi=>?_) ?_ ?_⟩
 .rw[hn];split
  .rename_i e0;subst e0;have h0:=h.objs i;rw[hk]at h0;have a5:=h0;have h0:=I2 (F':=F) (w':=w) (λ_ h=>h) (λ_ _=>rfl) a4 (show loc' i=loc i by simp[loc',a0,a2]) (show loc'.ty i=loc.ty i by simp[loc',a0]) (λ_ _ _=>⟨rfl,λh=>h⟩) h0;obtain⟨b0,c0,cs0,t0,r1,_,r3,r4,_⟩:=a5;obtain⟨b,c,cs,t,h1,h2,h3,h4,h5⟩:=h0;have hbb:b0=b/\c0=c:=by
    have:loc' i=loc i:=by simp[loc',a0,a2]
    rw[this,r1]at h1
    simpa using h1
   obtain⟨rfl,rfl⟩:=hbb;rw[r3]at h3;simp only[cm,Lr]at h3;obtain⟨rfl,rfl,_⟩:=h3;refine⟨b0,c0,cs0,t0,h1,h2,r3,?_,?_⟩
   .refine yQ .any i0 (λx hx=>⟨?_,hx.2⟩) r4 h4;rw[hi]at hx;intro s' es' fz' hc;rw[hn,if_neg (cg a0),if_pos rfl]at hc;simp only[I3]at hc;obtain⟨rfl,rfl,rfl⟩:=hc;have:=hx.1 _ _ _ hj
    simpa [loc']using this
   .intro v hv;rcases xL hv with hv|rfl
    .exact h5 v hv
    .show nth .none objs' key≠ .none;rw[hn,if_neg (cg a0),if_pos rfl];simp
  .rename_i e0;split
   .rename_i e;have h0:=h.objs j;rw[hj]at h0;obtain⟨q1,q2,q3,q4⟩:=h0;refine⟨q1,q2,q3,?_⟩;simp only[loc',e,if_pos];exact q4
   .split
    .rename_i e;show loc' i=none;simp[loc',e,hne]
    .rename_i e1 e2;exact I2 (λ_ h=>h) (λ_ _=>rfl) a4 (by simp[loc',e1,e2]) (by simp[loc',e1]) (λ_ _ _=>⟨rfl,λh=>h⟩) (h.objs i)
 .intro i i' b c c' g1 g2;simp only[loc']at g1 g2;split at g1<;>split at g2
  .rw[‹i=key›,‹i'=key›]
  .split at g2
   .simp at g2
   .exact absurd (h.inj _ _ _ _ _ g1 g2).symm ‹_›
  .split at g1
   .simp at g1
   .exact absurd (h.inj _ _ _ _ _ g1 g2) ‹_›
  .split at g1
   .simp at g1
   .split at g2
    .simp at g2
    .exact h.inj _ _ _ _ _ g1 g2
 .intro i b c g1;simp only[loc']at g1;split at g1
  .exact h.fresh _ _ _ g1
  .split at g1
   .simp at g1
   .exact h.fresh _ _ _ g1
theorem Conc.nilM {k key sz i0:Nat} {cells:List V} {d:List Nat} (h:Conc C B F0 w0 F loc st a w) (hk:nth .none st.objs k= .box cells) (hi:nth .any cells i0= .nilS) (hkey:nth .none st.objs key= .none) (hlt:key<st.objs.length) (hsz:0<sz):
 Conc C B F0 w0 F loc ⟨st.tmps,upd (upd st.objs key (.arr sz [] false)) k (.box (upd cells i0 (.arr key))),d⟩ a w:=by
 have a3:k≠key:=λe=>by subst e;rw[hk]at hkey;simp at hkey
 have a0:k<st.objs.length:=by
  rcases bv k st.objs.length with h|h
  .exact h
  .rw[qF _ h]at hk;simp at hk
 have a4:loc key=none:=by have:=h.objs key;rw[hkey]at this;exact this
 have hn:∀i,nth .none (upd (upd st.objs key (.arr sz [] false)) k (.box (upd cells i0 (.arr key)))) i=if i=k then .box (upd cells i0 (.arr key))else if i=key then .arr sz [] false else nth .none st.objs i:=λi=>by
  by_cases h0:i=k
  .subst h0;rw[qb _ _ _ (by rw[qi];exact a0)];simp
  .rw[qa _ _ _ (cg h0),if_neg h0];by_cases h1:i=key
   .subst h1;rw[qb _ _ _ hlt];simp
   .rw[qa _ _ _ (cg h1),if_neg h1]
 generalize hob:upd (upd st.objs key (.arr sz [] false)) k (.box (upd cells i0 (.arr key)))=objs' at *;have a1:Le st.objs objs' loc loc:=by
  refine⟨rfl,λi hi=>rfl,λi hi=>?_,λi o' hi hc hbx=>?_,λi s' es' fz' hi hc=>?_⟩
  .rw[hn];split
   .simp
   .split
    .simp
    .exact hi
  .rw[hn]at hc;split at hc
   .rename_i e0;subst e0;exact⟨by rw[hk];rfl,rfl⟩
   .split at hc
    .rw[<-hc]at hbx;simp[xZ]at hbx
    .exact⟨by rw[hc];exact hbx,rfl⟩
  .rw[hn]at hc;split at hc
   .simp at hc
   .split at hc
    .rename_i e;rw[e]at hi;exact absurd hkey hi
    .exact⟨⟨_,_,hc,rfl⟩,rfl⟩
 refine h.relocate a1 (λi=>?_) h.inj h.fresh;rw[hn];split
 .rename_i e0;subst e0;have h0:=h.objs i;rw[hk]at h0;have a2:=h0;have h0:=I2 (F':=F) (w':=w) (λ_ h=>h) (λ_ _=>rfl) a1 rfl rfl (λ_ _ _=>⟨rfl,λh=>h⟩) h0;obtain⟨b0,c0,cs0,t0,r1,_,r3,r4,_⟩:=a2;obtain⟨b,c,cs,t,h1,h2,h3,h4,h5⟩:=h0;have hbb:b0=b/\c0=c:=by
   rw[r1]at h1
   simpa using h1
  obtain⟨rfl,rfl⟩:=hbb;rw[r3]at h3;simp only[cm,Lr]at h3;obtain⟨rfl,rfl,_⟩:=h3;refine⟨b0,c0,cs0,t0,h1,h2,r3,?_,?_⟩
  .refine yQ .any i0 (λx hx=>⟨?_,hx.2⟩) r4 h4;rw[hi]at hx;intro s' es' fz' hc;rw[hn,if_neg (cg a3),if_pos rfl]at hc;simp only[I3]at hc;obtain⟨rfl,rfl,rfl⟩:=hc;exact .inr ⟨a4,rfl,hx.1⟩
  .intro v hv;rcases xL hv with hv|rfl
   .exact h5 v hv
   .show nth .none objs' key≠ .none;rw[hn,if_neg (cg a3),if_pos rfl];simp
 .split
  .rename_i e;subst e;exact⟨by simp[roomS],hsz,λe he=>by simp at he,.inl ⟨a4,rfl⟩⟩
  .exact I2 (λ_ h=>h) (λ_ _=>rfl) a1 rfl rfl (λ_ _ _=>⟨rfl,λh=>h⟩) (h.objs i)
theorem Conc.dataM {k i0:Nat} {cells:List V} {d:List Nat} (h:Conc C B F0 w0 F loc st a w) (hk:nth .none st.objs k= .box cells) (hi:nth .any cells i0= .nilS):
 Conc C B F0 w0 F loc ⟨st.tmps,upd st.objs k (.box (upd cells i0 (.c (.sl [])))),d⟩ a w:=by
 have a0:k<st.objs.length:=by
  rcases bv k st.objs.length with h|h
  .exact h
  .rw[qF _ h]at hk;simp at hk
 have hn:∀i,nth .none (upd st.objs k (.box (upd cells i0 (.c (.sl []))))) i=if i=k then .box (upd cells i0 (.c (.sl [])))else nth .none st.objs i:=λi=>by
  by_cases h0:i=k
  .subst h0;rw[qb _ _ _ a0];simp
  .rw[qa _ _ _ (cg h0),if_neg h0]
 generalize hob:upd st.objs k (.box (upd cells i0 (.c (.sl []))))=objs' at *;have a1:Le st.objs objs' loc loc:=by
  refine⟨rfl,λi hi=>rfl,λi hi=>?_,λi o' hi hc hbx=>?_,λi s' es' fz' hi hc=>?_⟩
  .rw[hn];split
   .simp
   .exact hi
  .rw[hn]at hc;split at hc
   .rename_i e0;subst e0;exact⟨by rw[hk];rfl,rfl⟩
   .exact⟨by rw[hc];exact hbx,rfl⟩
  .rw[hn]at hc;split at hc
   .simp at hc
   .exact⟨⟨_,_,hc,rfl⟩,rfl⟩
 refine h.relocate a1 (λi=>?_) h.inj h.fresh;rw[hn];split
 .rename_i e0;subst e0;have h0:=h.objs i;rw[hk]at h0;have a2:=h0;have h0:=I2 (F':=F) (w':=w) (λ_ h=>h) (λ_ _=>rfl) a1 rfl rfl (λ_ _ _=>⟨rfl,λh=>h⟩) h0;obtain⟨b0,c0,cs0,t0,r1,_,r3,r4,_⟩:=a2;obtain⟨b,c,cs,t,h1,h2,h3,h4,h5⟩:=h0;have hbb:b0=b/\c0=c:=by
   rw[r1]at h1
   simpa using h1
  obtain⟨rfl,rfl⟩:=hbb;rw[r3]at h3;simp only[cm,Lr]at h3;obtain⟨rfl,rfl,_⟩:=h3;refine⟨b0,c0,cs0,t0,h1,h2,r3,?_,?_⟩
  .refine yQ .any i0 (λx hx=>⟨?_,hx.2⟩) r4 h4;rw[hi]at hx;have h2:x= .slice none 0 0:=hx.1;subst h2;exact CD.nil _ _
  .intro v hv;rcases xL hv with hv|rfl
   .exact h5 v hv
   .trivial
 .exact I2 (λ_ h=>h) (λ_ _=>rfl) a1 rfl rfl (λ_ _ _=>⟨rfl,λh=>h⟩) (h.objs i)
theorem Conc.moveB {k j key T sz:Nat} {es:List (List D)} {d:List Nat} (h:Conc C B F0 w0 F loc st a w) (hk:nth .none st.objs k= .bld T (.arr j)) (hj:nth .none st.objs j= .arr sz es false) (hkey:nth .none st.objs key= .none) (hlt:key<st.objs.length):
 ∃loc',Conc C B F0 w0 F loc' ⟨st.tmps,upd (upd (upd st.objs j .dead) key (.arr sz es false)) k (.bld T (.arr key)),d⟩ a w:=by
 have hne:j≠key:=λe=>by subst e;rw[hj]at hkey;simp at hkey
 have a0:k≠key:=λe=>by subst e;rw[hk]at hkey;simp at hkey
 have a3:k≠j:=λe=>by subst e;rw[hk]at hj;simp at hj
 have a1:j<st.objs.length:=by
  rcases bv j st.objs.length with h|h
  .exact h
  .rw[qF _ h]at hj;simp at hj
 have a2:k<st.objs.length:=by
  rcases bv k st.objs.length with h|h
  .exact h
  .rw[qF _ h]at hk;simp at hk
 have hn:∀i,nth .none (upd (upd (upd st.objs j .dead) key (.arr sz es false)) k (.bld T (.arr key))) i=if i=k then .bld T (.arr key)else if i=key then .arr sz es false else if i=j then .dead else nth .none st.objs i:=λi=>by
  by_cases h0:i=k
  .subst h0;rw[qb _ _ _ (by rw[qi,qi];exact a2)];simp
  .rw[qa _ _ _ (cg h0),if_neg h0];by_cases h1:i=key
   .subst h1;rw[qb _ _ _ (by rw[qi];exact hlt)];simp
   .rw[qa _ _ _ (cg h1),if_neg h1];by_cases h2:i=j
    .subst h2;rw[qb _ _ _ a1];simp
    .rw[qa _ _ _ (cg h2),if_neg h2]
 generalize hob:upd (upd (upd st.objs j .dead) key (.arr sz es false)) k (.bld T (.arr key))=objs' at *
 let loc':Where:=⟨loc.P,λi=>if i=key then loc j else if i=j then none else loc i,λi=>if i=key then loc.ty j else loc.ty i⟩
 have a4:Le st.objs objs' loc loc':=by
  refine⟨rfl,λi hi=>by
   have:i≠key:=λe=>by subst e;exact hi hkey
   simp[loc',this],λi hi=>?_,λi o' hi hc hbx=>?_,λi s' es' fz' hi hc=>?_⟩
  .rw[hn];split
   .simp
   .split
    .simp
    .split
     .simp
     .exact hi
  .rw[hn]at hc;split at hc
   .rename_i e0;subst e0;exact⟨by rw[hk];rfl,by simp[loc',a0,a3]⟩
   .split at hc
    .rw[<-hc]at hbx;simp[xZ]at hbx
    .split at hc
     .rw[<-hc]at hbx;simp[xZ]at hbx
     .rename_i e1 e2;exact⟨by rw[hc];exact hbx,by simp[loc',e1,e2]⟩
  .rw[hn]at hc;split at hc
   .simp at hc
   .split at hc
    .rename_i e;rw[e]at hi;exact absurd hkey hi
    .split at hc
     .simp at hc
     .exact⟨⟨_,_,hc,rfl⟩,by simp[loc', *]⟩
 refine⟨loc',h.relocate a4 (λi=>?_) ?_ ?_⟩
 .rw[hn];split
  .rename_i e0;subst e0;have h0:=h.objs i;rw[hk]at h0;obtain⟨b,c,p,v,h1,h2,h3,h4,h5,h6,h7⟩:=h0;refine⟨b,c,p,v,by simp[loc',a0,a3,h1],h2,h3,h4,?_,?_,?_⟩
   .intro s' es' fz' hc;rw[hn,if_neg (cg a0),if_pos rfl]at hc;simp only[I3]at hc;obtain⟨rfl,rfl,rfl⟩:=hc;have:=h5 _ _ _ hj
    simpa [loc']using this
   .show nth .none objs' key≠ .none;rw[hn,if_neg (cg a0),if_pos rfl];simp
   .intro j' e;simp only[V.arr.injEq]at e;subst e;simp only[loc',if_pos];exact h7 j rfl
  .rename_i e0;split
   .rename_i e;have h0:=h.objs j;rw[hj]at h0;obtain⟨q1,q2,q3,q4⟩:=h0;refine⟨q1,q2,q3,?_⟩;simp only[loc',e,if_pos];exact q4
   .split
    .rename_i e;show loc' i=none;simp[loc',e,hne]
    .rename_i e1 e2;exact I2 (λ_ h=>h) (λ_ _=>rfl) a4 (by simp[loc',e1,e2]) (by simp[loc',e1]) (λ_ _ _=>⟨rfl,λh=>h⟩) (h.objs i)
 .intro i i' b c c' g1 g2;simp only[loc']at g1 g2;split at g1<;>split at g2
  .rw[‹i=key›,‹i'=key›]
  .split at g2
   .simp at g2
   .exact absurd (h.inj _ _ _ _ _ g1 g2).symm ‹_›
  .split at g1
   .simp at g1
   .exact absurd (h.inj _ _ _ _ _ g1 g2) ‹_›
  .split at g1
   .simp at g1
   .split at g2
    .simp at g2
    .exact h.inj _ _ _ _ _ g1 g2
 .intro i b c g1;simp only[loc']at g1;split at g1
  .exact h.fresh _ _ _ g1
  .split at g1
   .simp at g1
   .exact h.fresh _ _ _ g1
theorem Conc.nilB {k key T:Nat} {d:List Nat} (h:Conc C B F0 w0 F loc st a w) (hk:nth .none st.objs k= .bld T .nilS) (hkey:nth .none st.objs key= .none) (hlt:key<st.objs.length):
 ∃loc',Conc C B F0 w0 F loc' ⟨st.tmps,upd (upd st.objs key (.arr 1 [] false)) k (.bld T (.arr key)),d⟩ a w:=by
 have a1:k≠key:=λe=>by subst e;rw[hk]at hkey;simp at hkey
 have a0:k<st.objs.length:=by
  rcases bv k st.objs.length with h|h
  .exact h
  .rw[qF _ h]at hk;simp at hk
 have a3:loc key=none:=by have:=h.objs key;rw[hkey]at this;exact this
 have hn:∀i,nth .none (upd (upd st.objs key (.arr 1 [] false)) k (.bld T (.arr key))) i=if i=k then .bld T (.arr key)else if i=key then .arr 1 [] false else nth .none st.objs i:=λi=>by
  by_cases h0:i=k
  .subst h0;rw[qb _ _ _ (by rw[qi];exact a0)];simp
  .rw[qa _ _ _ (cg h0),if_neg h0];by_cases h1:i=key
   .subst h1;rw[qb _ _ _ hlt];simp
   .rw[qa _ _ _ (cg h1),if_neg h1]
 generalize hob:upd (upd st.objs key (.arr 1 [] false)) k (.bld T (.arr key))=objs' at *
 let loc':Where:=⟨loc.P,loc.at',λi=>if i=key then Tw loc.P T else loc.ty i⟩
 have a2:Le st.objs objs' loc loc':=by
  refine⟨rfl,λi hi=>by
   have:i≠key:=λe=>by subst e;exact hi hkey
   simp[loc',this],λi hi=>?_,λi o' hi hc hbx=>?_,λi s' es' fz' hi hc=>?_⟩
  .rw[hn];split
   .simp
   .split
    .simp
    .exact hi
  .rw[hn]at hc;split at hc
   .rename_i e0;subst e0;exact⟨by rw[hk];rfl,rfl⟩
   .split at hc
    .rw[<-hc]at hbx;simp[xZ]at hbx
    .exact⟨by rw[hc];exact hbx,rfl⟩
  .rw[hn]at hc;split at hc
   .simp at hc
   .split at hc
    .rename_i e;rw[e]at hi;exact absurd hkey hi
    .exact⟨⟨_,_,hc,rfl⟩,rfl⟩
 refine⟨loc',h.relocate a2 (λi=>?_) h.inj h.fresh⟩;rw[hn];split
 .rename_i e0;subst e0;have h0:=h.objs i;rw[hk]at h0;obtain⟨b,c,p,v,h1,h2,h3,h4,h5,h6,h7⟩:=h0;have h5:v= .slice none 0 0:=h5;refine⟨b,c,p,v,h1,h2,h3,h4,?_,?_,?_⟩
  .intro s' es' fz' hc;rw[hn,if_neg (cg a1),if_pos rfl]at hc;simp only[I3]at hc;obtain⟨rfl,rfl,rfl⟩:=hc;exact .inr ⟨a3,rfl,h5⟩
  .show nth .none objs' key≠ .none;rw[hn,if_neg (cg a1),if_pos rfl];simp
  .intro j' e;simp only[V.arr.injEq]at e;subst e;simp only[loc',if_pos]
 .rename_i e0;split
  .rename_i e;subst e;exact⟨by simp[roomS],by omega,λe he=>by simp at he,.inl ⟨a3,rfl⟩⟩
  .rename_i e1;exact I2 (λ_ h=>h) (λ_ _=>rfl) a2 rfl (by simp[loc',e1]) (λ_ _ _=>⟨rfl,λh=>h⟩) (h.objs i)
theorem kR {loc:Where} {objs:List Obj}:∀{cells:List V} {ds:List D},qA cells=some ds->∀{cs:List Value},All2 (λv x=>CV loc objs w F v x/\x.oneCell'=true) cells cs->All2 (λv x=>CV loc objs w F v x/\x.oneCell'=true) (ds.map V.c) cs
 |[],ds,h,cs,hc=>by simp only[qA,cm]at h;subst h;exact hc
 |v::r,ds,h,[],hc=>hc.elim
 |v::r,ds,h,x::cs,hc=>by
  unfold qA at h;split at h
  .simp_all
  .rename_i d r' heq;simp only[List.cons.injEq]at heq;obtain⟨rfl,rfl⟩:=heq;rw[Option.map_eq_some_iff]at h;obtain⟨ds',h1,rfl⟩:=h;exact⟨hc.1,kR h1 hc.2⟩
  .rename_i r' heq;simp only[List.cons.injEq]at heq;obtain⟨rfl,rfl⟩:=heq;rw[Option.map_eq_some_iff]at h;obtain⟨ds',h1,rfl⟩:=h;refine⟨⟨?_,hc.1.2⟩,kR h1 hc.2⟩;have h2:x= .slice none 0 0:=hc.1.1;subst h2;exact CD.nil _ _
  .simp at h
theorem Conc.boxData {k:Nat} {cells:List V} {ds:List D} {d:List Nat} (h:Conc C B F0 w0 F loc st a w) (hk:nth .none st.objs k= .box cells) (hd:qA cells=some ds):
 Conc C B F0 w0 F loc ⟨st.tmps,upd st.objs k (.box (ds.map V.c)),d⟩ a w:=by
 have hlt:k<st.objs.length:=by
  rcases bv k st.objs.length with h|h
  .exact h
  .rw[qF _ h]at hk;simp at hk
 have a0:Le st.objs (upd st.objs k (.box (ds.map V.c))) loc loc:=by
  refine⟨rfl,λ_ _=>rfl,λj hj=>?_,λj o' hj hc hbx=>?_,λj s' es' fz' hj hc=>?_⟩
  .rw[xW];split
   .simp
   .exact hj
  .rw[xW]at hc;split at hc
   .rename_i e;rw[<-e.1];exact⟨by rw[hk];rfl,rfl⟩
   .exact⟨by rw[hc];exact hbx,rfl⟩
  .rw[xW]at hc;split at hc
   .simp at hc
   .exact⟨⟨_,_,hc,rfl⟩,rfl⟩
 refine h.relocate a0 (λj=>?_) h.inj h.fresh;by_cases hj:k=j
 .subst hj;rw[qb _ _ _ hlt];have h0:=h.objs k;rw[hk]at h0;obtain⟨b,c,cs,t,h1,h2,h3,h4,h5⟩:=h0;refine⟨b,c,cs,t,h1,h2,h3,?_,λv hv=>?_⟩
  .exact(kR hd h4).mono_mem λv hv x hx=>⟨CV.le (λ_ h=>h) (λ_ _=>rfl) a0 (by
    obtain⟨y,_,rfl⟩:=M3.1 hv;trivial) hx.1,hx.2⟩
  .obtain⟨y,_,rfl⟩:=M3.1 hv;trivial
 .rw[qa _ _ _ hj];exact I2 (λ_ h=>h) (λ_ _=>rfl) a0 rfl rfl (λ_ _ _=>⟨rfl,λh=>h⟩) (h.objs j)
end
section
variable {C:Cx} {B:Bd} {F0:Nat->Prop} {w0:World} {a:Act} {w:World}
theorem Ju:∀(l:List Nat) {st:St},J3 C B F0 w0 st a w->J3 C B F0 w0 ⟨wJ st.tmps l,st.objs,st.dirty⟩ a w
 |[],st,h=>h
 |s::r,st,h=>by obtain⟨F,loc,h⟩:=h;exact Ju r (st:=⟨upd st.tmps s .any,st.objs,st.dirty⟩) ⟨F,loc,h.weakT (λ_ _=>trivial) trivial⟩
theorem yj {key:Nat} {st:St} (hg:ON key st=true) (h:J3 C B F0 w0 st a w):key<st.objs.length/\J3 C B F0 w0 ⟨st.tmps,upd st.objs key .none,st.dirty⟩ a w/\(∀k,nth .none st.objs k≠ .none->nth .none st.objs k≠ .dead->k≠key):=by
 simp only[ON,Hx,I1,bF]at hg;obtain⟨⟨⟨h1,h2⟩,h3⟩,h4⟩:=hg;refine⟨h1,?_,λk hk hk' e=>?_⟩
 .obtain⟨F,loc,h⟩:=h;obtain⟨a0,h'⟩:=h.forgets (ks:=[key]) (objs':=upd st.objs key .none) (d:=st.dirty) (λk hk=>by
   simp only[M1]at hk;subst hk;exact qb _ _ _ h1) (λk hk=>by
   simp only[M1]at hk;exact qa _ _ _ (cg hk)) h3 (by
   have:∀(l:List Obj) (i:Nat),zl [key] l=false->zl [key] (upd l i .none)=false:=by
    intro l
    induction l with
    |nil=>intro i h;exact h
    |cons o l ih=>
     intro i h;cases i with
     |zero=>cases o<;>simp_all[zl,upd]
     |succ i=>cases o<;>simp_all[zl,upd]
   exact this _ _ h4)
  exact⟨F,a0,h'⟩
 .subst e;revert h2;cases hn:nth .none st.objs k<;>simp_all[SU]
structure Frame (mt:List Nat) (s s':St):Prop where
 lt:s'.tmps.length=s.tmps.length
 lo:s'.objs.length=s.objs.length
 tmps:∀t,t∉mt->nth .any s'.tmps t=nth .any s.tmps t
 objs:∀k,k∉s'.dirty->nth .none s'.objs k=nth .none s.objs k
 dirty:∀k,k∈s.dirty->k∈s'.dirty
omit [Env] in
theorem Frame.refl (mt:List Nat) (s:St):Frame mt s s:=⟨rfl,rfl,λ_ _=>rfl,λ_ _=>rfl,λ_ h=>h⟩
omit [Env] in
theorem Frame.trans {m m':List Nat} {s s' s'':St} (h:Frame m s s') (h':Frame m' s' s''):Frame (m++m') s s'':=
 ⟨h'.lt.trans h.lt,h'.lo.trans h.lo,λt ht=>by
  simp only[Pl,not_or]at ht;rw[h'.tmps t ht.2,h.tmps t ht.1],λk hk=>by rw[h'.objs k hk,h.objs k λhk'=>hk (h'.dirty k hk')],λk hk=>h'.dirty k (h.dirty k hk)⟩
omit [Env] in
theorem Frame.mono {m m':List Nat} {s s':St} (h:Frame m s s') (hm:∀t∈m,t∈m'):Frame m' s s':=
 ⟨h.lt,h.lo,λt ht=>h.tmps t λh'=>ht (hm t h'),h.objs,h.dirty⟩
omit [Env] in
theorem Frame.trans' {m:List Nat} {s s' s'':St} (h:Frame m s s') (h':Frame m s' s''):Frame m s s'':=(h.trans h').mono λt ht=>by simpa using ht
omit [Env] in
theorem kt:∀(l:List Nat) (tmps:List V),(wJ tmps l).length=tmps.length
 |[],_=>rfl
 |s::r,tmps=>by simp only[wJ];rw[kt r,qi]
omit [Env] in
theorem ku {t:Nat}:∀(l:List Nat) (tmps:List V),t∉l->nth .any (wJ tmps l) t=nth .any tmps t
 |[],_,_=>rfl
 |s::r,tmps,h=>by simp only[wJ];rw[ku r _ λh'=>h (by simp[h']),qa _ _ _ λe=>h (by simp[e])]
omit [Env] in
theorem yR {t:Nat}:∀(l:List Nat) (tmps:List V),t∈l\/nth .any tmps t= .any->nth .any (wJ tmps l) t= .any
 |[],_,h=>by rcases h with h|h;exact absurd h (by simp);exact h
 |s::r,tmps,h=>by
  simp only[wJ];refine yR r _ ?_;by_cases hs:s=t
  .subst hs;refine .inr ?_;rw[xW];split
   .rfl
   .rename_i hlt;rw[qF _ (by simpa using hlt)]
  .rcases h with h|h
   .rcases M2.1 h with h|h
    .exact absurd h.symm hs
    .exact .inl h
   .exact .inr (by rw[qa _ _ _ hs];exact h)
omit [Env] in
theorem jM:∀(l:List Nat) (objs:List Obj),(ju objs l).length=objs.length
 |[],_=>rfl
 |s::r,objs=>by simp only[ju];rw[jM r,qi]
omit [Env] in
theorem jc {t:Nat}:∀(l:List Nat) (objs:List Obj),t∉l->nth .none (ju objs l) t=nth .none objs t
 |[],_,_=>rfl
 |s::r,objs,h=>by simp only[ju];rw[jc r _ λh'=>h (by simp[h']),qa _ _ _ λe=>h (by simp[e])]
omit [Env] in
theorem kv {t:Nat}:∀(l:List Nat) (objs:List Obj),t∈l\/nth .none objs t= .none->nth .none (ju objs l) t= .none
 |[],_,h=>by rcases h with h|h;exact absurd h (by simp);exact h
 |s::r,objs,h=>by
  simp only[ju];refine kv r _ ?_;by_cases hs:s=t
  .subst hs;refine .inr ?_;rw[xW];split
   .rfl
   .rename_i hlt;rw[qF _ (by simpa using hlt)]
  .rcases h with h|h
   .rcases M2.1 h with h|h
    .exact absurd h.symm hs
    .exact .inl h
   .exact .inr (by rw[qa _ _ _ hs];exact h)
omit [Env] in
theorem TP {α:Type} (d:α) {l l':List α} (hl:l.length=l'.length) (h:∀i,nth d l i=nth d l' i):l=l':=by
 apply List.ext_getElem hl;intro i h1 h2;have:=h i
 rwa [qm _ h1,qm _ h2]at this
omit [Env] in
theorem Za (l:List Nat):∀(i:Nat) (tmps:List V),(wK l i tmps).length=tmps.length
 |_,[]=>rfl
 |i,v::r=>by simp[wK,Za l (i+1) r]
omit [Env] in
theorem Zb (l:List Nat):∀(i:Nat) (tmps:List V) (t:Nat),nth .any (wK l i tmps) t=if i+t∈l then .any else nth .any tmps t
 |_,[],_=>by simp[wK,nth]
 |i,v::r,0=>by
  simp only[wK,nth,cc];split
  .rename_i h;rw[if_pos (xK.1 h)]
  .rename_i h;rw[if_neg λhm=>by rw[xK.2 hm]at h;simp at h]
 |i,v::r,t+1=>by simp only[wK,nth];rw[Zb l (i+1) r t,show i+1+t=i+(t+1)by omega]
omit [Env] in
theorem Jv (tmps:List V) (l:List Nat):X8 tmps l=wJ tmps l:=by
 refine TP .any ?_ λt=>?_
 .unfold X8;rw[Za,kt]
 .unfold X8;rw[Zb,bx];by_cases h:t∈l
  .rw[if_pos h,yR _ _ (.inl h)]
  .rw[if_neg h,ku _ _ h]
omit [Env] in
theorem QQ (l:List Nat):∀(i:Nat) (objs:List Obj),(jW l i objs).length=objs.length
 |_,[]=>rfl
 |i,v::r=>by simp[jW,QQ l (i+1) r]
omit [Env] in
theorem QR (l:List Nat):∀(i:Nat) (objs:List Obj) (t:Nat),nth .none (jW l i objs) t=if i+t∈l then .none else nth .none objs t
 |_,[],_=>by simp[jW,nth]
 |i,v::r,0=>by
  simp only[jW,nth,cc];split
  .rename_i h;rw[if_pos (xK.1 h)]
  .rename_i h;rw[if_neg λhm=>by rw[xK.2 hm]at h;simp at h]
 |i,v::r,t+1=>by simp only[jW,nth];rw[QR l (i+1) r t,show i+1+t=i+(t+1)by omega]
omit [Env] in
theorem Zc (objs:List Obj) (l:List Nat):kJ objs l=ju objs l:=by
 refine TP .none ?_ λt=>?_
 .unfold kJ;rw[QQ,jM]
 .unfold kJ;rw[QR,bx];by_cases h:t∈l
  .rw[if_pos h,kv _ _ (.inl h)]
  .rw[if_neg h,jc _ _ h]
omit [Env] in
theorem yS {t:Nat} {l:List Nat}:∀{m:List Nat},t∈HS m l↔t∈m/\t∉l
 |[]=>by simp[HS]
 |x::r=>by
  unfold HS;split
  .rename_i h;have:=xK.1 h;rw[yS];constructor
   .intro h;exact⟨by simp[h.1],h.2⟩
   .rintro⟨h1,h2⟩;rcases M2.1 h1 with rfl|h1
    .exact absurd this h2
    .exact⟨h1,h2⟩
  .rename_i h;have hx:x∉l:=λhm=>by rw[xK.2 hm]at h;simp at h
   simp only[M2];rw[yS];constructor
   .rintro(rfl|h)
    .exact⟨.inl rfl,hx⟩
    .exact⟨.inr h.1,h.2⟩
   .rintro⟨rfl|h,h'⟩
    .exact .inl rfl
    .exact .inr ⟨h,h'⟩
theorem Q3 {k:Nat}:∀{ms:List MC} {i:Nat} {st m:St},Oy k ms i st=some m->k∈st.dirty->Frame [] st m/\(∀j∈zc ms,j∈m.dirty)/\(J3 C B F0 w0 st a w->J3 C B F0 w0 m a w)
 |[],i,st,m,h,hd=>by simp only[Oy,cm]at h;subst h;exact⟨Frame.refl _ _,λk hk=>by simp[zc]at hk,λh=>h⟩
 | .dat z::r,i,st,m,h,hd=>by
  simp only[Oy]at h;split at h
  .rename_i cells hk;split at h
   .rename_i hi;obtain⟨h1,h2,h3⟩:=Q3 h (by simp);refine⟨Frame.trans' (s':=⟨st.tmps,upd st.objs k (.box (upd cells i (.c (.sl [])))),k::st.dirty⟩) ⟨rfl,by simp only[qi],λ_ _=>rfl,λj hj=>by
     simp only[M2,not_or]at hj;exact qa _ _ _ (cg hj.1),λj hj=>by simp[hj]⟩ h1,h2,λhh=>h3 ?_⟩
    obtain⟨F,loc,hh⟩:=hh;exact⟨F,loc,hh.dataM hk hi⟩
   .obtain⟨h1,h2,h3⟩:=Q3 h hd;exact⟨h1,h2,h3⟩
  .simp at h
 | .own key size::r,i,st,m,h,hd=>by
  have hkeys:∀{m:St},key∈m.dirty->(∀k∈zc r,k∈m.dirty)->∀j∈zc (.own key size::r),j∈m.dirty:=λh1 h3 j hj=>by
   simp only[zc,M2]at hj;rcases hj with rfl|hj
   .exact h1
   .exact h3 j hj
  simp only[Oy]at h;split at h
  .rename_i cells hk;split at h
   .rename_i hi;split at h
    .rename_i hg;simp only[Hx,bF]at hg;obtain⟨h1,h2,h3⟩:=Q3 h (by simp);refine⟨Frame.trans' (s':=⟨st.tmps,upd (upd st.objs key (.arr size [] false)) k (.box (upd cells i (.arr key))),key::k::st.dirty⟩) ⟨rfl,by simp only[qi],λ_ _=>rfl,λj hj=>by
      simp only[M2,not_or]at hj;rw[qa _ _ _ (cg hj.2.1),qa _ _ _ (cg hj.1)],λj hj=>by simp[hj]⟩ h1,hkeys (h1.dirty _ (by simp)) h2,λhh=>h3 ?_⟩
     obtain⟨hlt,hh',hne⟩:=yj hg.1 hh;obtain⟨F,loc,hh'⟩:=hh';have hkk:k≠key:=hne k (by rw[hk];simp) (by rw[hk];simp);have this:=hh'.nilM (k:=k) (key:=key) (sz:=size) (i0:=i) (cells:=cells) (d:=key::k::st.dirty) (by
      show nth .none (upd st.objs key .none) k=_;rw[qa _ _ _ (cg hkk)];exact hk) hi (qb _ _ _ hlt) (by rw[qi];exact hlt) hg.2
     have he:upd (upd st.objs key .none) key (.arr size [] false)=upd st.objs key (.arr size [] false):=by simp[xn]
     simp only[he]at this;exact⟨F,loc,this⟩
    .simp at h
   .rename_i j hi;split at h
    .obtain⟨h1,h2,h3⟩:=Q3 h (by simp);exact⟨Frame.trans' (s':=⟨st.tmps,st.objs,key::k::st.dirty⟩) ⟨rfl,rfl,λ_ _=>rfl,λ_ _=>rfl,λi hi=>by simp[hi]⟩ h1,hkeys (h1.dirty _ (by simp)) h2,λhh=>h3 (xi hh rfl rfl)⟩
    .split at h
     .rename_i sz es hj;split at h
      .rename_i hg;obtain⟨h1,h2,h3⟩:=Q3 h (by simp);refine⟨Frame.trans' (s':=⟨st.tmps,upd (upd (upd st.objs j .dead) key (.arr sz es false)) k (.box (upd cells i (.arr key))),key::j::k::st.dirty⟩) ⟨rfl,by simp only[qi],λ_ _=>rfl,λi hi=>by
        simp only[M2,not_or]at hi;rw[qa _ _ _ (cg hi.2.2.1),qa _ _ _ (cg hi.1),qa _ _ _ (cg hi.2.1)],λi hi=>by simp[hi]⟩ h1,
        hkeys (h1.dirty _ (by simp)) h2,λhh=>h3 ?_⟩
       obtain⟨hlt,hh',hne⟩:=yj hg hh;obtain⟨F,loc,hh'⟩:=hh';have hkk:k≠key:=hne k (by rw[hk];simp) (by rw[hk];simp);have a1:j≠key:=hne j (by rw[hj];simp) (by rw[hj];simp);obtain⟨a0,this⟩:=hh'.moveM (k:=k) (j:=j) (key:=key) (sz:=sz) (es:=es) (i0:=i) (cells:=cells) (d:=key::j::k::st.dirty) (by
        show nth .none (upd st.objs key .none) k=_;rw[qa _ _ _ (cg hkk)];exact hk) hi (by
        show nth .none (upd st.objs key .none) j=_;rw[qa _ _ _ (cg a1)];exact hj) (qb _ _ _ hlt) (by rw[qi];exact hlt)
       have he:upd (upd (upd st.objs key .none) j .dead) key (.arr sz es false)=upd (upd st.objs j .dead) key (.arr sz es false):=by rw[vp st.objs key j _ _ (.inl (cg a1))];simp[xn]
       simp only[he]at this;exact⟨F,a0,this⟩
      .simp at h
     .simp at h
   .simp at h
  .simp at h
theorem zk:∀{locs:List Loc} {st m:St},km locs st=some m->Frame (qT locs) st m/\(∀k∈xj locs,k∈m.dirty)/\(J3 C B F0 w0 st a w->J3 C B F0 w0 m a w)
 |[],st,m,h=>by simp only[km,cm]at h;subst h;exact⟨Frame.refl _ _,λk hk=>by simp[xj]at hk,λh=>h⟩
 | .slot s z::r,st,m,h=>by
  simp only[km]at h;split at h
  .rename_i hv;obtain⟨h1,h2,h3⟩:=zk h;refine⟨Frame.trans' (s':=⟨upd st.tmps s (.c (.sl [])),st.objs,st.dirty⟩) ⟨qi _ _ _,rfl,λt ht=>qa _ _ _ λe=>ht (by simp[qT,e]),λ_ _=>rfl,λ_ h=>h⟩ (h1.mono λt ht=>by simp[qT,ht]),h2,λhh=>h3 ?_⟩;obtain⟨F,loc,hh⟩:=hh;exact⟨F,loc,hh.weakT (λx hx=>by
    rw[hv]at hx;have hx:x= .slice none 0 0:=hx;subst hx;exact CD.nil _ _) trivial⟩
  .rename_i k hv;split at h
   .rename_i sz es fz hk;have hlt:k<st.objs.length:=by
     rcases bv k st.objs.length with h1|h1
     .exact h1
     .rw[qF _ h1]at hk;simp at hk
    obtain⟨h1,h2,h3⟩:=zk h;refine⟨Frame.trans' (s':=⟨upd st.tmps s (.c (.sl es)),upd st.objs k (.arr sz es true),k::st.dirty⟩) ⟨qi _ _ _,qi _ _ _,λt ht=>qa _ _ _ λe=>ht (by simp[qT,e]),λj hj=>qa _ _ _ λe=>hj (by simp[e]),λj hj=>by simp[hj]⟩ (h1.mono λt ht=>by simp[qT,ht]),h2,λhh=>h3 ?_⟩;obtain⟨F,loc,hh⟩:=hh;have h4:=hh.freeze1 hk;refine⟨_,loc,h4.weakT (t:=s) (v:= .c (.sl es)) (λx hx=>?_) trivial⟩;have ag:nth .none (upd st.objs k (.arr sz es true)) k= .arr sz es true:=qb _ _ _ hlt;have h0:=h4.objs k;simp only at h0 hx;rw[ag]at h0;rw[hv]at hx;exact Jj ag h0 hx (λ_ h=>h) (λb c hl=> .inr ⟨c,hl⟩)
   .simp at h
  .obtain⟨h1,h2,h3⟩:=zk h;exact⟨h1.mono λt ht=>by simp[qT,ht],h2,h3⟩
 | .box k z::r,st,m,h=>by
  simp only[km]at h;split at h
  .rename_i a7 hk;split at h
   .rename_i ds hd;obtain⟨h1,h2,h3⟩:=zk h;refine⟨Frame.trans' (s':=⟨st.tmps,upd st.objs k (.box (ds.map V.c)),k::st.dirty⟩) ⟨rfl,qi _ _ _,λ_ _=>rfl,λj hj=>qa _ _ _ λe=>hj (by simp[e]),λj hj=>by simp[hj]⟩ h1,λj hj=>?_,λhh=>h3 ?_⟩
    .simp only[xj,M2]at hj;rcases hj with rfl|hj
     .exact h1.dirty _ (by simp)
     .exact h2 j hj
    .obtain⟨F,loc,hh⟩:=hh;exact⟨F,loc,hh.boxData hk hd⟩
   .simp at h
  .simp at h
 | .own s key size::r,st,m,h=>by
  simp only[km]at h;have a3:∀t,t∈qT r->t∈qT (.own s key size::r):=λt ht=>by simp[qT,ht]
  have a0:∀{m:St},key∈m.dirty->(∀k∈xj r,k∈m.dirty)->∀k∈xj (.own s key size::r),k∈m.dirty:=λh1 h2 k hk=>by
   simp only[xj,M2]at hk;rcases hk with rfl|hk
   .exact h1
   .exact h2 k hk
  split at h
  .rename_i hv;split at h
   .rename_i hg;simp only[Hx,bF]at hg;obtain⟨h1,h2,h3⟩:=zk h;refine⟨Frame.trans' (s':=⟨upd st.tmps s (.arr key),upd st.objs key (.arr size [] false),key::st.dirty⟩) ⟨qi _ _ _,qi _ _ _,λt ht=>qa _ _ _ λe=>ht (by simp[qT,e]),λj hj=>qa _ _ _ λe=>hj (by simp[e]),λj hj=>by simp[hj]⟩ (h1.mono a3),
     a0 (h1.dirty _ (by simp)) h2,λhh=>h3 ?_⟩
    obtain⟨hlt,a1,_⟩:=yj hg.1 hh;obtain⟨F,loc,a1⟩:=a1;have:=a1.nilOwn (s:=s) (key:=key) (sz:=size) (d:=key::st.dirty) hv (qb _ _ _ hlt) (by rw[qi];exact hlt) hg.2;have he:upd (upd st.objs key .none) key (.arr size [] false)=upd st.objs key (.arr size [] false):=by simp[xn]
    simp only[he]at this;exact⟨F,loc,this⟩
   .simp at h
  .rename_i k hv;split at h
   .obtain⟨h1,h2,h3⟩:=zk h;refine⟨Frame.trans' (s':=⟨st.tmps,st.objs,key::st.dirty⟩) ⟨rfl,rfl,λ_ _=>rfl,λ_ _=>rfl,λj hj=>by simp[hj]⟩ (h1.mono a3),a0 (h1.dirty _ (by simp)) h2,λhh=>h3 (xi hh rfl rfl)⟩
   .split at h
    .rename_i sz es hk;split at h
     .rename_i hg;obtain⟨h1,h2,h3⟩:=zk h;refine⟨Frame.trans' (s':=⟨upd st.tmps s (.arr key),upd (upd st.objs k .dead) key (.arr sz es false),key::k::st.dirty⟩) ⟨qi _ _ _,by simp only[qi],λt ht=>qa _ _ _ λe=>ht (by simp[qT,e]),
       λj hj=>by
        simp only[M2,not_or]at hj;rw[qa _ _ _ (cg hj.1),qa _ _ _ (cg hj.2.1)],λj hj=>by simp[hj]⟩ (h1.mono a3),a0 (h1.dirty _ (by simp)) h2,λhh=>h3 ?_⟩
      obtain⟨hlt,a1,a5⟩:=yj hg hh;obtain⟨F,loc,a1⟩:=a1;have a4:k≠key:=a5 k (by rw[hk];simp) (by rw[hk];simp);obtain⟨a2,this⟩:=a1.move (s:=s) (k:=k) (key:=key) (sz:=sz) (es:=es) (d:=key::k::st.dirty) hv (by
       show nth .none (upd st.objs key .none) k=_;rw[qa _ _ _ (cg a4)];exact hk) (qb _ _ _ hlt) (by rw[qi];exact hlt)
      have he:upd (upd (upd st.objs key .none) k .dead) key (.arr sz es false)=upd (upd st.objs k .dead) key (.arr sz es false):=by rw[vp st.objs key k _ _ (.inl (cg a4))];simp[xn]
      simp only[he]at this;exact⟨F,a2,this⟩
     .simp at h
    .simp at h
  .rename_i k off a6 hv;split at h
   .rename_i sz es hk;split at h
    .rename_i hg;obtain⟨h1,h2,h3⟩:=zk h;refine⟨Frame.trans' (s':=⟨upd st.tmps s (.arr key),upd (upd st.objs k .dead) key (.arr sz (es.take a6) false),key::k::st.dirty⟩) ⟨qi _ _ _,by simp only[qi],λt ht=>qa _ _ _ λe=>ht (by simp[qT,e]),
      λj hj=>by
       simp only[M2,not_or]at hj;rw[qa _ _ _ (cg hj.1),qa _ _ _ (cg hj.2.1)],λj hj=>by simp[hj]⟩ (h1.mono a3),a0 (h1.dirty _ (by simp)) h2,λhh=>h3 ?_⟩
     obtain⟨hlt,a1,a5⟩:=yj hg hh;obtain⟨F,loc,a1⟩:=a1;have a4:k≠key:=a5 k (by rw[hk];simp) (by rw[hk];simp);obtain⟨a2,this⟩:=a1.moveN (s:=s) (k:=k) (key:=key) (sz:=sz) (es:=es) (n:=a6) (d:=key::k::st.dirty) hv (by
      show nth .none (upd st.objs key .none) k=_;rw[qa _ _ _ (cg a4)];exact hk) (qb _ _ _ hlt) (by rw[qi];exact hlt)
     have he:upd (upd (upd st.objs key .none) k .dead) key (.arr sz (es.take a6) false)=upd (upd st.objs k .dead) key (.arr sz (es.take a6) false):=by rw[vp st.objs key k _ _ (.inl (cg a4))];simp[xn]
     simp only[he]at this;exact⟨F,a2,this⟩
    .simp at h
   .simp at h
  .simp at h
 | .bld k T key::r,st,m,h=>by
  simp only[km]at h;have a0:∀{m:St},key∈m.dirty->k∈m.dirty->(∀k∈xj r,k∈m.dirty)->∀j∈xj (.bld k T key::r),j∈m.dirty:=λh1 h2 h3 j hj=>by
   simp only[xj,M2]at hj;rcases hj with rfl|rfl|hj
   .exact h2
   .exact h1
   .exact h3 j hj
  split at h
  .rename_i T' q hk;split at h
   .split at h
    .split at h
     .rename_i hg;obtain⟨h1,h2,h3⟩:=zk h;refine⟨Frame.trans' (s':=⟨st.tmps,upd (upd st.objs key (.arr 1 [] false)) k (.bld T' (.arr key)),key::k::st.dirty⟩) ⟨rfl,by simp only[qi],λ_ _=>rfl,λi hi=>by
       simp only[M2,not_or]at hi;rw[qa _ _ _ (cg hi.2.1),qa _ _ _ (cg hi.1)],λi hi=>by simp[hi]⟩ h1,
       a0 (h1.dirty _ (by simp)) (h1.dirty _ (by simp)) h2,λhh=>h3 ?_⟩
      obtain⟨hlt,a1,a5⟩:=yj hg hh;obtain⟨F,loc,a1⟩:=a1;have a4:k≠key:=a5 k (by rw[hk];simp) (by rw[hk];simp);obtain⟨a2,this⟩:=a1.nilB (k:=k) (key:=key) (T:=T') (d:=key::k::st.dirty) (by
       show nth .none (upd st.objs key .none) k=_;rw[qa _ _ _ (cg a4)];exact hk) (qb _ _ _ hlt) (by rw[qi];exact hlt)
      have he:upd (upd st.objs key .none) key (.arr 1 [] false)=upd st.objs key (.arr 1 [] false):=by simp[xn]
      simp only[he]at this;exact⟨F,a2,this⟩
     .simp at h
    .rename_i j;split at h
     .obtain⟨h1,h2,h3⟩:=zk h;exact⟨Frame.trans' (s':=⟨st.tmps,st.objs,key::k::st.dirty⟩) ⟨rfl,rfl,λ_ _=>rfl,λ_ _=>rfl,λi hi=>by simp[hi]⟩ h1,a0 (h1.dirty _ (by simp)) (h1.dirty _ (by simp)) h2,λhh=>h3 (xi hh rfl rfl)⟩
     .split at h
      .rename_i sz es hj;split at h
       .rename_i hg;simp only[Hx]at hg;obtain⟨h1,h2,h3⟩:=zk h;refine⟨Frame.trans' (s':=⟨st.tmps,upd (upd (upd st.objs j .dead) key (.arr sz es false)) k (.bld T' (.arr key)),key::j::k::st.dirty⟩) ⟨rfl,by simp only[qi],λ_ _=>rfl,λi hi=>by
         simp only[M2,not_or]at hi;rw[qa _ _ _ (cg hi.2.2.1),qa _ _ _ (cg hi.1),qa _ _ _ (cg hi.2.1)],λi hi=>by simp[hi]⟩ h1,
         a0 (h1.dirty _ (by simp)) (h1.dirty _ (by simp)) h2,λhh=>h3 ?_⟩
        obtain⟨hlt,a1,a5⟩:=yj hg.2 hh;obtain⟨F,loc,a1⟩:=a1;have a4:k≠key:=a5 k (by rw[hk];simp) (by rw[hk];simp);have ad:j≠key:=a5 j (by rw[hj];simp) (by rw[hj];simp);obtain⟨a2,this⟩:=a1.moveB (k:=k) (j:=j) (key:=key) (T:=T') (sz:=sz) (es:=es) (d:=key::j::k::st.dirty) (by
         show nth .none (upd st.objs key .none) k=_;rw[qa _ _ _ (cg a4)];exact hk) (by
         show nth .none (upd st.objs key .none) j=_;rw[qa _ _ _ (cg ad)];exact hj) (qb _ _ _ hlt) (by rw[qi];exact hlt)
        have he:upd (upd (upd st.objs key .none) j .dead) key (.arr sz es false)=upd (upd st.objs j .dead) key (.arr sz es false):=by rw[vp st.objs key j _ _ (.inl (cg ad))];simp[xn]
        simp only[he]at this;exact⟨F,a2,this⟩
       .simp at h
      .simp at h
    .simp at h
   .simp at h
  .simp at h
 | .mix k ms::r,st,m,h=>by
  simp only[km]at h;split at h
  .rename_i st' hm;obtain⟨g1,g2,g3⟩:=Q3 (C:=C) (B:=B) (F0:=F0) (w0:=w0) (a:=a) (w:=w) hm (by simp);obtain⟨h1,h2,h3⟩:=zk h;refine⟨Frame.trans' (Frame.trans' (s':=⟨st.tmps,st.objs,k::st.dirty⟩) ⟨rfl,rfl,λ_ _=>rfl,λ_ _=>rfl,λi hi=>by simp[hi]⟩ (g1.mono λt ht=>by simp at ht)) h1,λj hj=>?_,λhh=>h3 (g3 (xi hh rfl rfl))⟩;simp only[xj,M2,Pl]at hj;rcases hj with rfl|hj|hj
   .exact h1.dirty _ (g1.dirty _ (by simp))
   .exact h1.dirty _ (g2 j hj)
   .exact h2 j hj
  .simp at h
structure Norm (mt ms:List Nat) (locs:List Loc) (st m:St):Prop where
 lt:m.tmps.length=st.tmps.length
 lo:m.objs.length=st.objs.length
 tin:∀t,t∈mt->t∉qT locs->nth .any m.tmps t= .any
 tout:∀t,t∉mt->t∉qT locs->nth .any m.tmps t=nth .any st.tmps t
 oin:∀k,k∈ms->nth .none m.objs k= .none
 oout:∀k,k∉m.dirty->nth .none m.objs k=nth .none st.objs k
 dirty:∀k,k∈st.dirty\/k∈xj locs->k∈m.dirty
 ok:xO locs m=true
omit [Env] in
theorem z7 (d d':List Nat) (t:List V) (o:List Obj):∀(locs:List Loc),xO locs ⟨t,o,d⟩=xO locs ⟨t,o,d'⟩
 |[]=>rfl
 | .slot s z::r=>by simp only[xO];rw[z7 d d' t o r]
 | .box k z::r=>by simp only[xO];rw[z7 d d' t o r]
 | .own s key size::r=>by simp only[xO];rw[z7 d d' t o r]
 | .bld k T key::r=>by simp only[xO];rw[z7 d d' t o r]
 | .mix k ms::r=>by simp only[xO];rw[z7 d d' t o r]
theorem Ye {mt ms:List Nat} {locs:List Loc} {st m:St} (h:AX mt ms locs st=some m):Norm mt ms locs st m/\(J3 C B F0 w0 st a w->J3 C B F0 w0 m a w):=by
 unfold AX at h;simp only[Jv,Zc]at h;split at h
 .simp at h
 .rename_i s1 h1;split at h
  .simp at h
  .rename_i hc;simp only[Hy,Bool.not_eq_false']at hc;obtain⟨⟨hc1,hc2⟩,hc3⟩:=hc;simp only[cm]at h;subst h;obtain⟨f1,f2,f3⟩:=zk (C:=C) (B:=B) (F0:=F0) (w0:=w0) (a:=a) (w:=w) h1;refine⟨⟨f1.lt.trans (kt _ _),(jM _ _).trans f1.lo,λt ht hs=>?_,λt ht hs=>?_,λk hk=>kv _ _ (.inl hk),λk hk=>?_,λk hk=>?_,by rw[z7 _ []];exact hc3⟩,λhh=>?_⟩
   .rw[f1.tmps t hs];exact yR _ _ (.inl (yS.2 ⟨ht,hs⟩))
   .rw[f1.tmps t hs];exact ku _ _ λh=>ht (yS.1 h).1
   .simp only[Pl,not_or]at hk;show nth .none (ju s1.objs ms) k=_;rw[jc _ _ hk.1,f1.objs k hk.2]
   .refine No _ ?_;rcases hk with hk|hk
    .exact f1.dirty k hk
    .exact f2 k hk
   .obtain⟨F,loc,a0⟩:=f3 (Ju _ hh);obtain⟨a1,a0⟩:=a0.forgets (ks:=ms) (objs':=ju s1.objs ms) (d:=ms++s1.dirty) (λk hk=>kv _ _ (.inl hk)) (λk hk=>jc _ _ hk) hc1 hc2;exact⟨F,a1,a0⟩
end
end Eng
end
