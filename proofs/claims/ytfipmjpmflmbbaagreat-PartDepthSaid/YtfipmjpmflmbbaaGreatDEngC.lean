/- The engine, part 16: operations that may change places. -/
import Derived.Test.YtfipmjpmflmbbaaGreatDEngB
open Array renaming toList_append→Aw, getD→Bx, getElem?_eq_some_iff→Dd, getElem?_eq_getElem→F2, ext'→Hu
open Bool renaming and_eq_true→Hv, or_eq_false_iff→Hx, or_eq_true→Hy, not_eq_true'→I0
open Eng.CO renaming le→I1
open Eng.Obj.arr renaming injEq→I2
open Eng.St renaming has→I3, put→J3
open Go.Call renaming operands→J4
open Go.Obj.cells renaming injEq→J7
open Go.Op renaming operands→J8
open Go.Region renaming binds→J9, wanted→Lm
open List renaming mem_singleton→Lr, mem_cons→Ls, mem_map→Lv, mem_append_right→M0, mem_append→M1, mem_flatMap→M2, getElem?_cons_zero→M3, getElem?_cons_succ→No, mem_cons_of_mem→Pl, getElem_mem→P1, map_congr_left→Ts, rel_of_pairwise_cons→T1, getElem?_take_of_lt→U0, pairwise_append→U3, mem_of_mem_take→V1, mem_cons_self→W0, append_assoc→W1, not_mem_nil→W2, append_nil→ba, mem_range→bb, set_comm→bc, map_nil→bd
open Nat renaming lt_or_ge→be, eq_of_beq_eq_true→bh, zero_add→bm, not_lt→bv, add_assoc→bw, add_comm→bx, blt_eq→b9, testBit_or→ca, add_zero→cb
open Ne renaming symm→cc
open Option.some renaming injEq→cg, inj→cp
open Prod.mk renaming injEq→cr
section
namespace Eng
open Go Go.RowKit
theorem XV {ρ:Operand→V}:∀(l:List Operand),T0 ρ l=l.flatMap fun x=>qn (ρ x)
 |[]=>rfl
 |x::r=>by simp only[T0,List.flatMap_cons];rw[XV r]
theorem QV {ob:List Obj} {k:Nat}:∀{l:List Nat},k∈GO ob l↔∃j∈l,k=j∨∃T q,nth .none ob j= .bld T q∧k∈qn q
 |[]=>by simp[GO]
 |j::r=>by
  simp only[GO,M1];rw[QV];constructor
  ·rintro(h|⟨i,h1,h2⟩)
   ·split at h
    ·rename_i T q hq;rcases Ls.1 h with rfl|h
     ·exact⟨k,by simp,.inl rfl⟩
     ·exact⟨j,by simp,.inr ⟨T,q,hq,h⟩⟩
    ·simp only[Lr]at h;exact⟨j,by simp,.inl h⟩
   ·exact⟨i,by simp[h1],h2⟩
  ·rintro⟨i,h1,h2⟩;rcases Ls.1 h1 with rfl|h1
   ·refine .inl ?_;rcases h2 with rfl|⟨T,q,hq,h2⟩
    ·split<;>simp
    ·rw[hq];simp[h2]
   ·exact .inr ⟨i,h1,h2⟩
theorem wJ {k:Nat}:∀{l:List V},k∈WP l↔∃q∈l,k∈qn q
 |[]=>by simp[WP]
 |v::r=>by
  simp only[WP,M1];rw[wJ];constructor
  ·rintro(h|⟨q,h1,h2⟩)
   ·exact⟨v,by simp,h⟩
   ·exact⟨q,by simp[h1],h2⟩
  ·rintro⟨q,h1,h2⟩;rcases Ls.1 h1 with rfl|h1
   ·exact .inl h2
   ·exact .inr ⟨q,h1,h2⟩
theorem qE {ob:List Obj} {k:Nat}:∀{l:List Nat},k∈vY ob l↔∃j∈l,k=j∨∃q,q∈qW (nth .none ob j)∧k∈qn q
 |[]=>by simp[vY]
 |j::r=>by
  simp only[vY,M1];rw[qE];constructor
  ·rintro(h|⟨i,h1,h2⟩)
   ·split at h
    ·rename_i T q hq;rcases Ls.1 h with rfl|h
     ·exact⟨k,by simp,.inl rfl⟩
     ·exact⟨j,by simp,.inr ⟨q,by rw[hq];simp[qW],h⟩⟩
    ·rename_i cs hq;rcases Ls.1 h with rfl|h
     ·exact⟨k,by simp,.inl rfl⟩
     ·obtain⟨q,h1,h2⟩:=wJ.1 h;exact⟨j,by simp,.inr ⟨q,by rw[hq];simpa [qW]using h1,h2⟩⟩
    ·rename_i cs hq;rcases Ls.1 h with rfl|h
     ·exact⟨k,by simp,.inl rfl⟩
     ·obtain⟨q,h1,h2⟩:=wJ.1 h;exact⟨j,by simp,.inr ⟨q,by rw[hq];simpa [qW]using h1,h2⟩⟩
    ·simp only[Lr]at h;exact⟨j,by simp,.inl h⟩
   ·exact⟨i,by simp[h1],h2⟩
  ·rintro⟨i,h1,h2⟩;rcases Ls.1 h1 with rfl|h1
   ·refine .inl ?_;rcases h2 with rfl|⟨q,hq,h2⟩
    ·split<;>simp
    ·cases hi:nth .none ob i with
     |bld T q'=>rw[hi]at hq;simp only[qW,Lr]at hq;subst hq;simp[h2]
     |box cs=>rw[hi]at hq;simp only[qW]at hq;exact Pl _ (wJ.2 ⟨q,hq,h2⟩)
     |vec cs=>rw[hi]at hq;simp only[qW]at hq;exact Pl _ (wJ.2 ⟨q,hq,h2⟩)
     |none=>rw[hi]at hq;simp[qW]at hq
     |dead=>rw[hi]at hq;simp[qW]at hq
     |arr _ _ _=>rw[hi]at hq;simp[qW]at hq
   ·exact .inr ⟨i,h1,h2⟩
theorem QW {C:Cx} {o:Oper} {d:Nat} (h:o.dst=some d):d∈RH C o:=by
 unfold RH;rw[h]
 dsimp only
 split
 ·split
  ·split<;>simp
  ·simp
 ·simp
theorem Hc {C:Cx} {dst:Option Nat} {f:Nat} {args:Array Operand} {ts:Array TypeId} {ty:TypeId} {pos:String} {after:Array Edge} {g:Option (Nat×Bool)} {k:Nat}:k∈RH C ⟨dst,.call ⟨.value (.func f),args,ts⟩,ty,pos,after,g⟩↔eN (C.wd f) dst k:=by
 unfold RH eN;cases dst with
 |none=>simp
 |some t=>
  dsimp only
  cases C.wd f with
  |true=>simp[eq_comm]
  |false=>simp[eq_comm]
theorem Qz {o:Oper} {ρ:Operand→V} {ob:List Obj} {x:Operand} {k:Nat} (hx:x∈o.op.operands.toList) (hk:k∈qn (ρ x)):k∈opk o ρ ob:=by
 unfold opk;split
 ·rw[qE,XV];exact⟨k,M2.2 ⟨x,hx,hk⟩,.inl rfl⟩
 ·rw[QV,XV];exact⟨k,M2.2 ⟨x,hx,hk⟩,.inl rfl⟩
def Ag (c:Nat) (x y:Obj):Prop:=x=y∨(c≤1∧∃s es fz fz',x= .arr s es fz∧y= .arr s es fz')
theorem Ag.symm {c:Nat} {x y:Obj} (h:Ag c x y):Ag c y x:=by
 rcases h with h|⟨h,s,es,fz,fz',h1,h2⟩
 ·exact .inl h.symm
 ·exact .inr ⟨h,s,es,fz',fz,h2,h1⟩
section
variable {C:Cx} {ob ob':List Obj}
theorem QX {c:Nat}:∀{cs:List VC},(∀k∈kn cs,Ag c (nth .none ob k) (nth .none ob' k))→dataC ob cs=dataC ob' cs
 |[],_=>rfl
 | .d d::r,h=>by simp only[dataC,Tw];rw[QX (cs:=r) fun k hk=>h k (by simpa [kn]using hk)]
 | .nil::r,h=>by simp only[dataC,Tw];rw[QX (cs:=r) fun k hk=>h k (by simpa [kn]using hk)]
 | .arr j::r,h=>by
  simp only[dataC,Tw];rw[QX (cs:=r) fun k hk=>h k (by simp[kn,hk])];rcases h j (by simp[kn])with h|⟨_,s,es,fz,fz',h1,h2⟩
  ·simp only[h]
  ·simp only[h1,h2]
theorem Ph {c:Nat} {v:V} (h:∀k∈qn v,Ag c (nth .none ob k) (nth .none ob' k)):cellsOf ob v=cellsOf ob' v:=by
 cases v<;>try rfl
 ·rename_i k;rcases h k (by simp[qn])with h|⟨_,s,es,fz,fz',h1,h2⟩
  ·simp only[cellsOf,h]
  ·simp only[cellsOf,h1,h2]
 ·rename_i cs;simp only[cellsOf];rw[QX (cs:=cs) fun k hk=>h k hk]
theorem iq {c:Nat} {v:V} (h:∀k∈qn v,Ag c (nth .none ob k) (nth .none ob' k)):toA ob v=toA ob' v:=by
 cases v<;>try rfl
 ·rename_i k;rcases h k (by simp[qn])with h|⟨_,s,es,fz,fz',h1,h2⟩
  ·simp only[toA,h]
  ·simp only[toA,h1,h2]
 ·rename_i cs;simp only[toA];rw[QX (cs:=cs) fun k hk=>h k hk]
theorem MO {c:Nat} {v:V} (h:∀k∈qn v,Ag c (nth .none ob k) (nth .none ob' k)):Qt ob v=Qt ob' v:=by
 cases v with
 |c d=>cases d<;>rfl
 |arr k=>?_
 |_=>rfl
 rcases h k (by simp[qn])with h|⟨_,s,es,fz,fz',h1,h2⟩
 ·simp only[Qt,h]
 ·simp only[Qt,h1,h2]
theorem RY {c:Nat} {v:V} (h:∀k∈qn v,Ag c (nth .none ob k) (nth .none ob' k)):Qd ob v=Qd ob' v:=by
 have he:=MO h;cases v with
 |sub k o l=>?_
 |_=>simp only[Qd,he]
 rcases h k (by simp[qn])with h|⟨_,s,es,fz,fz',h1,h2⟩
 ·simp only[Qd,h]
 ·simp only[Qd,h1,h2]
theorem j9 {c:Nat}:∀{vs:List V},(∀v∈vs,∀k∈qn v,Ag c (nth .none ob k) (nth .none ob' k))→wa ob vs=wa ob' vs
 |[],_=>rfl
 |v::vs,h=>by simp only[wa];rw[iq (h v (by simp)),j9 fun u hu=>h u (by simp[hu])]
theorem JY {c:Nat} {ρ:Operand→V}:∀{ps:List (Nat×Operand)},(∀p∈ps,∀k∈qn (ρ p.2),Ag c (nth .none ob k) (nth .none ob' k))→z3 ob ρ ps=z3 ob' ρ ps
 |[],_=>rfl
 |(i,x)::ps,h=>by simp only[z3];rw[Ph (h (i,x) (by simp)),JY fun u hu=>h u (by simp[hu])]
theorem Hd {ob:List Obj} {ts:Array TypeId} {v:V} (h:∀k o l,v≠ .sub k o l):JD C ob ts v= .fail:=by
 unfold JD;split
 ·split
  ·split
   ·exact absurd rfl (h _ _ _)
   ·rfl
  ·rfl
 ·rfl
theorem RZ:∀{vs:List V},(∀v∈vs,∀k∈qn v,Ag 2 (nth .none ob k) (nth .none ob' k))→Ty ob vs=Ty ob' vs
 |[],_=>rfl
 |v::vs,h=>by
  have ih:=RZ (vs:=vs) fun u hu=>h u (by simp[hu])
  cases v with
  |box k off=>
   cases off with
   |zero=>
    rcases h _ (W0 ..) k (by simp[qn])with h1|⟨h1,_⟩
    ·simp only[Ty,h1,ih]
    ·omega
   |succ n=>rfl
  |eref es i off=>
   unfold Ty;split
   ·rename_i h0;cases h0
   ·rw[ih]
   ·rfl
  |_=>rfl
theorem aQ [EffOk C] {o:Oper} {ρ:Operand→V} (hk:cls C o=0∨∀k∈opk o ρ ob,Ag (cls C o) (nth .none ob k) (nth .none ob' k)) (hd1:∀d,d∈RH C o→qA ob d=qA ob' d):xw C o ρ ob=xw C o ρ ob':=by
 have hd:∀d,o.dst=some d→qA ob d=qA ob' d:=fun d h=>hd1 d (QW h)
 obtain⟨a7,op,ty,pos,a5,g⟩:=o;have a4:∀{c:Nat} (x:Operand),x∈op.operands.toList→(c=0∨∀k∈opk ⟨a7,op,ty,pos,a5,g⟩ ρ ob,Ag c (nth .none ob k) (nth .none ob' k))→c≠0→∀k∈qn (ρ x),Ag c (nth .none ob k) (nth .none ob' k):=by
  intro c x hx h hc k hkx;rcases h with h|h
  ·exact absurd h hc
  ·exact h k (Qz hx hkx)
 cases op with
 |move x=>rfl
 |assign x=>rfl
 |pick c x y=>rfl
 |binOp op t x y t2=>rfl
 |unOp op t x=>rfl
 |convert s t x=>rfl
 |field t x f=>rfl
 |index t x i=>rfl
 |extract x i=>rfl
 |alloc t=>
  cases a7 with
  |none=>rfl
  |some d=>simp only[xw];rw[hd d rfl]
 |box t x=>
  cases a7 with
  |none=>rfl
  |some d=>simp only[xw];rw[hd d rfl]
 |makeSlice t x y=>
  cases a7 with
  |none=>rfl
  |some d=>simp only[xw];rw[hd d rfl]
 |build t parts=>
  have h1:z3 ob ρ parts.toList=z3 ob' ρ parts.toList:=JY fun p hp=>a4 (c:=1) p.2 (by simp only[J8];exact Lv.2 ⟨p,hp,rfl⟩) hk (by simp)
  simp only[xw,h1]
 |buildSlice t len parts=>
  have h1:z3 ob ρ parts.toList=z3 ob' ρ parts.toList:=JY fun p hp=>a4 (c:=1) p.2 (by simp only[J8];exact Lv.2 ⟨p,hp,rfl⟩) hk (by simp)
  cases a7 with
  |none=>rfl
  |some d=>
   have h2:∀e,JE C.P d ob e len (VZ ρ parts.toList)=JE C.P d ob' e len (VZ ρ parts.toList):=fun e=>by
    cases hv:VZ ρ parts.toList<;>try rfl
    rename_i j;obtain⟨x,hp,hx⟩:=Yi hv (by simp);have h2:=a4 (c:=1) x (by simp only[J8];exact Lv.2 ⟨(0,x),by rw[hp];simp,rfl⟩) hk (by simp);rw[hx]at h2;rcases h2 j (by simp[qn])with h|⟨_,s,es,fz,a6,h3,h4⟩
    ·simp only[JE,h]
    ·simp only[JE,h3,h4]
   simp only[xw,h1,h2];rw[hd d rfl]
 |load t x=>
  have h1:=a4 (c:=1) x (by simp[J8]) hk (by simp);simp only[xw,Ec];cases hx:ρ x<;>try rfl
  ·rename_i k a8;rw[hx]at h1;rcases h1 k (by simp[qn])with h|⟨_,s,es,fz,a6,h1,h2⟩
   ·simp only[h]
   ·simp only[h1,h2]
  ·rename_i k i a8;rw[hx]at h1;rcases h1 k (by simp[qn])with h|⟨_,s,es,fz,a6,h1,h2⟩
   ·simp only[h]
   ·simp only[h1,h2]
 |nilCheck x=>
  have h1:=a4 (c:=1) x (by simp[J8]) hk (by simp);simp only[xw];cases hx:ρ x<;>try rfl
  rename_i k a8;rw[hx]at h1;rcases h1 k (by simp[qn])with h|⟨_,s,es,fz,a6,h1,h2⟩
  ·simp only[h]
  ·simp only[h1,h2]
 |fieldAddr t x f=>
  have h1:=a4 (c:=1) x (by simp[J8]) hk (by simp);simp only[xw];cases hx:ρ x<;>try rfl
  ·rename_i k a8;rw[hx]at h1;rcases h1 k (by simp[qn])with h|⟨_,s,es,fz,a6,h1,h2⟩
   ·simp only[h]
   ·simp only[h1,h2]
  ·rename_i k i a8;rw[hx]at h1;rcases h1 k (by simp[qn])with h|⟨_,s,es,fz,a6,h1,h2⟩
   ·simp only[h]
   ·simp only[h1,h2]
 |indexAddr t x i=>
  have h1:=a4 (c:=1) x (by simp[J8]) hk (by simp);simp only[xw,yI];cases hx:ρ x with
  |c d=>cases d<;>rfl
  |box k a8=>?_
  |arr k=>?_
  |sub k o l=>?_
  |vec k l=>?_
  |gl g a8=>cases a8<;>rfl
  |_=>rfl
  ·rw[hx]at h1;rcases h1 k (by simp[qn])with h|⟨_,s,es,fz,a6,h1,h2⟩
   ·simp only[h]
   ·simp only[h1,h2]
  ·rw[hx]at h1;rcases h1 k (by simp[qn])with h|⟨_,s,es,fz,a6,h1,h2⟩
   ·simp only[h]
   ·simp only[h1,h2]
  ·rw[hx]at h1;rcases h1 k (by simp[qn])with h|⟨_,s,es,fz,a6,h1,h2⟩
   ·simp only[h]
   ·simp only[h1,h2]
  ·rw[hx]at h1;rcases h1 k (by simp[qn])with h|⟨_,s,es,fz,a6,h1,h2⟩
   ·simp only[h]
   ·simp only[h1,h2]
 |slice t x lo hi mx=>
  have h1:Qt ob (ρ x)=Qt ob' (ρ x):=MO (a4 (c:=1) x (by simp[J8]) hk (by simp));have h2:=a4 (c:=1) x (by simp[J8]) hk (by simp);have h3:∀lo hi mx,Tx C.P t ob (ρ x) lo hi mx=Tx C.P t ob' (ρ x) lo hi mx:=by
   intro lo hi mx;unfold Tx;cases C.P.underlying t with
   |none=>rfl
   |some d=>cases d with
    |slice e=>
     dsimp only
     cases jt C.P e with
     |none=>rfl
     |some z=>cases hx:ρ x with
      |arr k=>
       rw[hx]at h2
       dsimp only
       rcases h2 k (by simp[qn])with h|⟨_,s,es,fz,a6,h1,h2⟩
       ·simp only[h]
       ·simp only[h1,h2]
      |_=>rfl
    |_=>rfl
  simp only[xw,GM,GL,h1,h3]
 |store t p x=>
  have h1:=a4 (c:=2) p (by simp[J8]) hk (by simp);have h2:=a4 (c:=2) x (by simp[J8]) hk (by simp);have e1:∀k,k∈qn (ρ p)→nth .none ob k=nth .none ob' k:=fun k hkk=>by
   rcases h1 k hkk with h|⟨h,_⟩
   ·exact h
   ·omega
  have e2:∀k,k∈qn (ρ x)→nth .none ob k=nth .none ob' k:=fun k hkk=>by
   rcases h2 k hkk with h|⟨h,_⟩
   ·exact h
   ·omega
  simp only[xw,MB];cases hp:ρ p<;>try rfl
  ·rename_i k a8;rw[hp]at e1
   dsimp only
   rw[e1 k (by simp[qn])];cases hx:ρ x<;>try rfl
   rename_i j;rw[hx]at e2
   dsimp only
   rw[e2 j (by simp[qn])]
  ·rename_i k i a8;rw[hp]at e1
   dsimp only
   rw[e1 k (by simp[qn])]
 |makeFunc fn first captured=>
  simp only[xw];split
  ·have h1:Ty ob (captured.toList.map ρ)=Ty ob' (captured.toList.map ρ):=RZ fun v hv=>by obtain⟨x,hx,rfl⟩:=Lv.1 hv;exact a4 (c:=2) x (by simp[J8];exact .inr (by simpa using hx)) hk (by simp)
   rw[h1]
  ·rfl
 |call c=>
  obtain⟨ad,a3,ts⟩:=c;simp only[xw];split
  ·rename_i f;cases he:C.eff f with
   |none=>
    have al:cls C ⟨a7,.call ⟨.value (.func f),a3,ts⟩,ty,pos,a5,g⟩=1:=by simp[cls,he]
    rw[al]at hk;have h1:wa ob (a3.toList.map ρ)=wa ob' (a3.toList.map ρ):=j9 fun v hv=>by obtain⟨x,hx,rfl⟩:=Lv.1 hv;exact a4 (c:=1) x (by simp[J8,J4];exact .inr (by simpa using hx)) hk (by simp)
    simp only[vf,h1]
   |some e=>
    have al:cls C ⟨a7,.call ⟨.value (.func f),a3,ts⟩,ty,pos,a5,g⟩=2:=by simp[cls,he]
    rw[al]at hk;refine EffOk.ag he _ _ _ _ (fun k hkk=>?_) (fun d hd'=>hd1 d (Hc.2 hd'));rcases hk with h|h
    ·simp at h
    ·have hin:k∈opk ⟨a7,.call ⟨.value (.func f),a3,ts⟩,ty,pos,a5,g⟩ ρ ob:=by show k∈vY ob _;rw[qE]at hkk ⊢;obtain⟨j,h1,h2⟩:=hkk;refine⟨j,?_,h2⟩;rw[XV];obtain⟨v,hv,hj⟩:=M2.1 h1;obtain⟨x,hx,rfl⟩:=Lv.1 hv;exact M2.2 ⟨x,by simp only[J8,J4,Aw];exact M0 _ hx,hj⟩
     rcases h k hin with h|⟨h,_⟩
     ·exact h
     ·omega
  ·rename_i t;have h1:wa ob (a3.toList.map ρ)=wa ob' (a3.toList.map ρ):=j9 fun v hv=>by obtain⟨x,hx,rfl⟩:=Lv.1 hv;exact a4 (c:=1) x (by simp[J8,J4];exact .inr (by simpa using hx)) hk (by simp)
   split
   ·split
    ·rfl
    ·simp only[vf,h1]
   ·rename_i f ps _;have h2:wa ob (a3.toList.map ρ++ps.map V.c)=wa ob' (a3.toList.map ρ++ps.map V.c):=j9 (c:=1) fun v hv=>by
     rcases M1.1 hv with hv|hv
     ·obtain⟨x,hx,rfl⟩:=Lv.1 hv;exact a4 (c:=1) x (by simp[J8,J4];exact .inr (by simpa using hx)) hk (by simp)
     ·obtain⟨d,_,rfl⟩:=Lv.1 hv;intro k hk;simp[qn]at hk
    split
    ·rfl
    ·simp only[vf,h2]
   ·rfl
  ·split
   ·rename_i x hx;have:a3= #[x]:=by apply Hu;simpa using hx
    subst this;have h1:=a4 (c:=1) x (by simp[J8,J4]) hk (by simp);simp only[gZ];cases hx:ρ x with
    |c d=>cases d<;>rfl
    |arr k=>?_
    |sub k o l=>?_
    |vec k l=>?_
    |_=>rfl
    ·rw[hx]at h1;rcases h1 k (by simp[qn])with h|⟨_,s,es,fz,a6,h1,h2⟩
     ·simp only[h]
     ·simp only[h1,h2]
    ·rw[hx]at h1;rcases h1 k (by simp[qn])with h|⟨_,s,es,fz,a6,h1,h2⟩
     ·simp only[h]
     ·simp only[h1,h2]
    ·rw[hx]at h1;rcases h1 k (by simp[qn])with h|⟨_,s,es,fz,a6,h1,h2⟩
     ·simp only[h]
     ·simp only[h1,h2]
   ·rfl
  ·split
   ·rename_i x y hx;have:a3= #[x,y]:=by apply Hu;simpa using hx
    subst this;have h1:=a4 (c:=2) x (by simp[J8,J4]) hk (by simp);have h2:Qd ob (ρ y)=Qd ob' (ρ y):=RY (a4 (c:=2) y (by simp[J8,J4]) hk (by simp));cases a7 with
    |none=>rfl
    |some d=>
     have hl:∀v,(∀k∈qn v,Ag 2 (nth .none ob k) (nth .none ob' k))→av ob v=av ob' v:=fun v h=>by
      cases v<;>try rfl
      rename_i k n;rcases h k (by simp[qn])with h|⟨h,_⟩
      ·simp only[av,h]
      ·omega
     have hw:∀e,Qu C.P d ob e (ρ x) (ρ y)=Qu C.P d ob' e (ρ x) (ρ y):=fun e=>by unfold Qu;rw[hl _ h1,hl _ (a4 (c:=2) y (by simp[J8,J4]) hk (by simp))]
     simp only[JC,h2,hw];rw[hd d rfl];cases hx:ρ x<;>try rfl
     all_goals
      rw[hx]at h1;rcases h1 _ (by simp[qn];rfl)with h|⟨h,_⟩
      ·dsimp only
       rw[h]
      ·omega
   ·rfl
  ·split
   ·rename_i x hx;have:a3= #[x]:=by apply Hu;simpa using hx
    subst this;have h1:=a4 (c:=2) x (by simp[J8,J4]) hk (by simp);by_cases hs:∃k o l,ρ x= .sub k o l
    ·obtain⟨k,o,l,hx⟩:=hs;rw[hx]at h1 ⊢;rcases h1 k (by simp[qn])with h|⟨h,_⟩
     ·unfold JD;split
      ·split
       ·split
        ·rename_i hv;simp only[V.sub.injEq]at hv;obtain⟨rfl,rfl,rfl⟩:=hv;rw[h]
        ·rfl
       ·rfl
      ·rfl
     ·omega
    ·have an:∀k o l,ρ x≠ .sub k o l:=fun k o l e=>hs ⟨k,o,l,e⟩
     rw[Hd an,Hd an]
   ·rfl
  ·rfl
  ·rfl
  ·rfl
 |_=>rfl
end
end Eng
end
section
namespace Eng
open Go Go.RowKit
section
variable {C:Cx} {ob:List Obj}
theorem yi {ρ ρ':Operand→V}:∀{ps:List (Nat×Operand)},(∀p∈ps,ρ p.2=ρ' p.2)→z3 ob ρ ps=z3 ob ρ' ps
 |[],_=>rfl
 |(i,x)::ps,h=>by simp only[z3];rw[h (i,x) (by simp),yi fun u hu=>h u (by simp[hu])]
theorem Pi {o:Oper} {ρ ρ':Operand→V} (h:∀x∈o.op.operands.toList,ρ x=ρ' x):xw C o ρ ob=xw C o ρ' ob:=by
 obtain⟨dst,op,ty,pos,a6,g⟩:=o;cases op with
 |alloc t=>rfl
 |move x|assign x|unOp op t x|convert s t x|field t x f|extract x i|box t x|load t x|nilCheck x|fieldAddr t x f=>simp only[xw];rw[h x (by simp[J8])]
 |pick c x y=>simp only[xw];rw[h c (by simp[J8]),h x (by simp[J8]),h y (by simp[J8])]
 |binOp op t x y t2=>simp only[xw];rw[h x (by simp[J8]),h y (by simp[J8])]
 |index t x y=>simp only[xw];rw[h x (by simp[J8]),h y (by simp[J8])]
 |indexAddr t x y=>simp only[xw];rw[h x (by simp[J8]),h y (by simp[J8])]
 |makeSlice t x y=>simp only[xw];rw[h x (by simp[J8]),h y (by simp[J8])]
 |store t x y=>simp only[xw];rw[h x (by simp[J8]),h y (by simp[J8])]
 |slice t x lo hi mx=>
  have ho:∀z:Option Operand,(∀x,z=some x→ρ x=ρ' x)→zy ρ z=zy ρ' z:=fun z hz=>by
   cases z with
   |none=>rfl
   |some x=>simp only[zy];rw[hz x rfl]
  simp only[xw];rw[h x (by simp[J8]),ho lo (fun y hy=>h y (by subst hy;simp[J8])),ho hi (fun y hy=>h y (by subst hy;simp[J8])),ho mx (fun y hy=>h y (by subst hy;simp[J8]))]
 |build t parts=>
  have h1:z3 ob ρ parts.toList=z3 ob ρ' parts.toList:=yi fun p hp=>h p.2 (by simp only[J8];exact Lv.2 ⟨p,hp,rfl⟩)
  simp only[xw,h1]
 |buildSlice t len parts=>
  have h1:z3 ob ρ parts.toList=z3 ob ρ' parts.toList:=yi fun p hp=>h p.2 (by simp only[J8];exact Lv.2 ⟨p,hp,rfl⟩)
  have h2:VZ ρ parts.toList=VZ ρ' parts.toList:=by
   unfold VZ;split
   ·rename_i x hx;exact h x (by simp only[J8];exact Lv.2 ⟨(0,x),by rw[hx];simp,rfl⟩)
   ·rfl
  simp only[xw,h1,h2]
 |makeFunc fn first captured=>
  have hc:captured.toList.map ρ=captured.toList.map ρ':=Ts fun x hx=>h x (by simp only[J8,Aw];exact M0 _ hx)
  simp only[xw];rw[hc]
 |call c=>
  obtain⟨a5,a4,ts⟩:=c;have a3:∀x∈a4.toList,ρ x=ρ' x:=fun x hx=>h x (by
   simp only[J8,J4,Aw];exact M0 _ hx)
  simp only[xw];split
  ·rw[Ts a3]
  ·rename_i t;rw[Ts a3,h (.tmp t) (by simp[J8,J4])]
  ·split
   ·rename_i x hx;rw[a3 x (by rw[hx];simp)]
   ·rfl
  ·split
   ·rename_i x y hx;rw[a3 x (by rw[hx];simp),a3 y (by rw[hx];simp)]
   ·rfl
  ·split
   ·rename_i x hx;rw[a3 x (by rw[hx];simp)]
   ·rfl
  ·split
   ·rename_i x y hx;rw[a3 x (by rw[hx];simp),a3 y (by rw[hx];simp)]
   ·rfl
  ·split
   ·rename_i x y hx;rw[a3 x (by rw[hx];simp),a3 y (by rw[hx];simp)]
   ·rfl
  ·rfl
 |_=>rfl
def UOk (C:Cx) (o:Oper) (ρ:Operand→V) (ob:List Obj) (up:List (Nat×Obj)) (p:Nat×Obj):Prop:=
 ((p.1∈RH C o∧qA ob p.1=true)∨(p.1∈opk o ρ ob∧cls C o≠0∧nth .none ob p.1≠ .none∧(cls C o≤1→∃s es fz,nth .none ob p.1= .arr s es fz∧p.2= .arr s es true)))∧
 p.2≠ .none∧∀u∈qW p.2,VOk ob up u
def GoodR (C:Cx) (o:Oper) (ρ:Operand→V) (ob:List Obj):R→Prop
 | .fail=>True
 | .ok v up=>(∀p∈up,UOk C o ρ ob up p)∧VOk ob up v
 | .cond (dc:=_) _ v up=>(∀p∈up,UOk C o ρ ob up p)∧VOk ob up v
 | .look .. =>True
 | .call _ _ _ up=>∀p∈up,UOk C o ρ ob up p
theorem WZ (v:Value):qn (Qc v)=[]:=by
 unfold Qc;split<;>try rfl
 split<;>rfl
def FzOk (vs:List V) (ob:List Obj) (us:List (Nat×Obj)):Prop:=∀p∈us,(∃v∈vs,p.1∈qn v)∧∃s es fz,nth .none ob p.1= .arr s es fz∧p.2= .arr s es true
theorem Yl:∀{cs:List VC} {ds:List D} {us:List (Nat×Obj)},dataC ob cs=some (ds,us)→∀p∈us,p.1∈kn cs∧∃s es fz,nth .none ob p.1= .arr s es fz∧p.2= .arr s es true
 |[],ds,us,h,p,hp=>by simp only[dataC,cg,cr]at h;obtain⟨_,rfl⟩:=h;simp at hp
 |c::r,ds,us,h,p,hp=>by
  simp only[dataC]at h;split at h
  ·rename_i d u ds' us' h1 h2;simp only[cg,cr]at h;obtain⟨_,rfl⟩:=h;rcases M1.1 hp with hp|hp
   ·unfold Tw at h1;split at h1
    ·simp only[cg,cr]at h1;obtain⟨_,rfl⟩:=h1;simp at hp
    ·simp only[cg,cr]at h1;obtain⟨_,rfl⟩:=h1;simp at hp
    ·split at h1
     ·rename_i k _ s es fz hk;simp only[cg,cr]at h1;obtain⟨_,rfl⟩:=h1;simp only[Lr]at hp;subst hp;exact⟨by simp[kn],_,_,_,hk,rfl⟩
     ·simp at h1
   ·obtain⟨q1,q2⟩:=Yl h2 p hp;exact⟨xL.2 (Pl _ (xL.1 q1)),q2⟩
  ·simp at h
theorem Pj {v:V} {ds:List D} {us:List (Nat×Obj)} (h:cellsOf ob v=some (ds,us)):FzOk [v] ob us:=by
 unfold cellsOf at h;split at h<;>try (simp only[cg,cr]at h;obtain⟨_,rfl⟩:=h;exact fun _ hp=>absurd hp (by simp))
 ·split at h
  ·rename_i k _ s es fz hk;simp only[cg,cr]at h;obtain⟨_,rfl⟩:=h;intro p hp;simp only[Lr]at hp;subst hp;exact⟨⟨.arr k,by simp,by simp[qn]⟩,_,_,_,hk,rfl⟩
  ·simp at h
 ·rename_i cs;intro p hp;obtain⟨q1,q2⟩:=Yl h p hp;exact⟨⟨_,Lr.2 rfl,q1⟩,q2⟩
 ·simp at h
theorem ir {v:V} {d:A} {us:List (Nat×Obj)} (h:toA ob v=some (d,us)):FzOk [v] ob us:=by
 unfold toA at h;split at h<;>try (simp only[cg,cr]at h;obtain⟨_,rfl⟩:=h;exact fun _ hp=>absurd hp (by simp))
 ·split at h
  ·rename_i k _ s es fz hk;simp only[cg,cr]at h;obtain⟨_,rfl⟩:=h;intro p hp;simp only[Lr]at hp;subst hp;exact⟨⟨.arr k,by simp,by simp[qn]⟩,_,_,_,hk,rfl⟩
  ·simp at h
 ·split at h
  ·rename_i cs ds' us' h2;simp only[cg,cr]at h;obtain⟨_,rfl⟩:=h;intro p hp;obtain⟨q1,q2⟩:=Yl h2 p hp;exact⟨⟨_,Lr.2 rfl,q1⟩,q2⟩
  ·simp at h
 ·simp at h
theorem E2 {v:V} {d:List (List D)} {us:List (Nat×Obj)} (h:Qt ob v=some (d,us)):FzOk [v] ob us:=by
 unfold Qt at h;split at h<;>try (simp only[cg,cr]at h;obtain⟨_,rfl⟩:=h;exact fun _ hp=>absurd hp (by simp))
 ·split at h
  ·rename_i k _ s es fz hk;simp only[cg,cr]at h;obtain⟨_,rfl⟩:=h;intro p hp;simp only[Lr]at hp;subst hp;exact⟨⟨.arr k,by simp,by simp[qn]⟩,_,_,_,hk,rfl⟩
  ·simp at h
 ·simp at h
theorem FzOk.mono {vs vs':List V} {us:List (Nat×Obj)} (h:FzOk vs ob us) (hs:∀v∈vs,v∈vs'):FzOk vs' ob us:=fun p hp=>by
 obtain⟨⟨v,h1,h2⟩,h3⟩:=h p hp;exact⟨⟨v,hs v h1,h2⟩,h3⟩
theorem FzOk.append {vs:List V} {us us':List (Nat×Obj)} (h:FzOk vs ob us) (h':FzOk vs ob us'):FzOk vs ob (us++us'):=fun p hp=>by
 rcases M1.1 hp with hp|hp
 ·exact h p hp
 ·exact h' p hp
theorem ww:∀{vs:List V} {ds:List A} {us:List (Nat×Obj)},wa ob vs=some (ds,us)→FzOk vs ob us
 |[],ds,us,h=>by simp only[wa,cg,cr]at h;obtain⟨_,rfl⟩:=h;exact fun _ hp=>absurd hp (by simp)
 |v::vs,ds,us,h=>by
  simp only[wa]at h;split at h
  ·rename_i d u as us' h1 h2;simp only[cg,cr]at h;obtain⟨_,rfl⟩:=h;exact((ir h1).mono (by simp)).append ((ww h2).mono fun v hv=>by simp[hv])
  ·simp at h
theorem QY {ρ:Operand→V}:∀{ps:List (Nat×Operand)} {qs:List (Nat×List D)} {us:List (Nat×Obj)},z3 ob ρ ps=some (qs,us)→FzOk (ps.map fun p=>ρ p.2) ob us
 |[],ds,us,h=>by simp only[z3,cg,cr]at h;obtain⟨_,rfl⟩:=h;exact fun _ hp=>absurd hp (by simp)
 |(i,x)::vs,ds,us,h=>by
  simp only[z3]at h;split at h
  ·rename_i d u as us' h1 h2;simp only[cg,cr]at h;obtain⟨_,rfl⟩:=h;exact((Pj h1).mono (by simp)).append ((QY h2).mono fun v hv=>by simp only[List.map_cons,Ls];exact .inr hv)
  ·simp at h
theorem FzOk.up {o:Oper} {ρ:Operand→V} {vs:List V} {us:List (Nat×Obj)} (h:FzOk vs ob us) (hv:∀v∈vs,∃x∈o.op.operands.toList,ρ x=v) (hc:cls C o≠0) (up:List (Nat×Obj)):∀p∈us,UOk C o ρ ob up p:=fun p hp=>by
 obtain⟨⟨v,h1,h2⟩,s,es,fz,h3,h4⟩:=h p hp;obtain⟨x,hx,rfl⟩:=hv v h1;exact⟨.inr ⟨Qz hx h2,hc,by rw[h3];simp,fun _=>⟨s,es,fz,h3,h4⟩⟩,by rw[h4];simp,fun u hu=>by rw[h4]at hu;simp[qW]at hu⟩
theorem GoodR.data {o:Oper} {ρ:Operand→V} {v:V} (hv:qn v=[]):GoodR C o ρ ob (.ok v []):=⟨fun _ h=>absurd h (by simp),fun k hk=>by rw[hv]at hk;simp at hk⟩
theorem GoodR.dataC {o:Oper} {ρ:Operand→V} {c:Prop} [Decidable c] {v:V} (hv:qn v=[]):GoodR C o ρ ob (.cond c v []):=⟨fun _ h=>absurd h (by simp),fun k hk=>by rw[hv]at hk;simp at hk⟩
theorem GoodR.same {o:Oper} {ρ:Operand→V} {v:V} (hv:∀k∈qn v,nth .none ob k≠ .none):GoodR C o ρ ob (.ok v []):=⟨fun _ h=>absurd h (by simp),fun k hk=> .inl (hv k hk)⟩
theorem GoodR.sameC {o:Oper} {ρ:Operand→V} {c:Prop} [Decidable c] {v:V} (hv:∀k∈qn v,nth .none ob k≠ .none):GoodR C o ρ ob (.cond c v []):=⟨fun _ h=>absurd h (by simp),fun k hk=> .inl (hv k hk)⟩
theorem GoodR.new {o:Oper} {ρ:Operand→V} {d:Nat} {x:Obj} {us:List (Nat×Obj)} {v:V} (hd:o.dst=some d) (hf:qA ob d=true) (hx:x≠ .none) (hc:∀u∈qW x,qn u=[]) (hu:∀p∈us,UOk C o ρ ob (us++[(d,x)]) p)
 (hv:∀k∈qn v,k=d):(∀p∈us++[(d,x)],UOk C o ρ ob (us++[(d,x)]) p)∧VOk ob (us++[(d,x)]) v:=by
 refine⟨fun p hp=>?_,fun k hk=> .inr ?_⟩
 ·rcases M1.1 hp with hp|hp
  ·exact hu p hp
  ·simp only[Lr]at hp;subst hp;exact⟨.inl ⟨QW hd,hf⟩,hx,fun u hu j hj=>by rw[hc u hu]at hj;simp at hj⟩
 ·rw[hv k hk];exact⟨hf,x,by simp⟩
theorem GoodR.new2 {o:Oper} {ρ:Operand→V} {d:Nat} {x:Obj} {us:List (Nat×Obj)} {v:V} (hd:o.dst=some d) (hf:qA ob d=true) (hx:x≠ .none) (hc:∀u∈qW x,∀k∈qn u,nth .none ob k≠ .none) (hu:∀p∈us,UOk C o ρ ob (us++[(d,x)]) p)
 (hv:∀k∈qn v,k=d):(∀p∈us++[(d,x)],UOk C o ρ ob (us++[(d,x)]) p)∧VOk ob (us++[(d,x)]) v:=by
 refine⟨fun p hp=>?_,fun k hk=> .inr ?_⟩
 ·rcases M1.1 hp with hp|hp
  ·exact hu p hp
  ·simp only[Lr]at hp;subst hp;exact⟨.inl ⟨QW hd,hf⟩,hx,fun u hu j hj=> .inl (hc u hu j hj)⟩
 ·rw[hv k hk];exact⟨hf,x,by simp⟩
theorem Sa {o:Oper} {ρ:Operand→V} {P:Program} {op:BinOp} {t:TypeId} {x y:V}:GoodR C o ρ ob (eqV P op t x y):=by
 have hb:GoodR C o ρ ob (eJ op x y):=by
  unfold eJ;split
  ·split
   ·unfold shV;split<;>first|trivial|exact GoodR.data rfl|exact GoodR.dataC rfl
   split
   ·trivial
   ·split<;>first|trivial|exact GoodR.data rfl|exact GoodR.dataC rfl
  ·split<;>first|trivial|exact GoodR.data rfl|exact GoodR.dataC rfl
  ·trivial
 unfold eqV;split
 ·split
  ·split<;>first|trivial|exact GoodR.data rfl
  ·trivial
 ·unfold eM;split
  ·split
   ·split<;>first|trivial|exact GoodR.dataC rfl
   ·trivial
  ·trivial
 ·exact hb
theorem Sb {o:Oper} {ρ:Operand→V} {P:Program} {op:BinOp} {t:TypeId} {xo yo:Operand} {x y:V}:GoodR C o ρ ob (au P op t xo yo x y):=by
 unfold au;split
 ·split
  ·split
   ·split<;>first|trivial|exact GoodR.data rfl
   ·trivial
  ·trivial
 ·split
  ·split<;>first|trivial|exact GoodR.dataC rfl
  ·trivial
 ·exact Sa
theorem MP {o:Oper} {ρ:Operand→V} {big:Bool} {x y:V}:GoodR C o ρ ob (mxV big x y):=by
 unfold mxV;split
 ·split
  ·split<;>exact GoodR.data rfl
  ·trivial
 ·trivial
theorem TG:∀{vs:List V} {ps:List D} {us:List (Nat×Obj)},Ty ob vs=some (ps,us)→∀p∈us,(∃v∈vs,p.1∈qn v)∧(∃cells,nth .none ob p.1= .box cells)∧p.2= .dead
 |[],ps,us,h=>by simp only[Ty,cg,cr]at h;obtain⟨_,rfl⟩:=h;exact fun _ hp=>absurd hp (by simp)
 |v::vs,ps,us,h=>by
  unfold Ty at h;split at h
  ·rename_i k;split at h
   ·rename_i cells hk;split at h
    ·rename_i ds ps' us' hds hr;simp only[cg,cr]at h;obtain⟨_,rfl⟩:=h;intro p hp;rcases Ls.1 hp with rfl|hp
     ·exact⟨⟨_,W0 ..,by simp[qn]⟩,⟨_,hk⟩,rfl⟩
     ·obtain⟨⟨u,q2,q3⟩,q4⟩:=TG hr p hp;exact⟨⟨u,Pl _ q2,q3⟩,q4⟩
    ·simp at h
   ·simp at h
  ·split at h
   ·rename_i ps' us' hr;simp only[cg,cr]at h;obtain⟨_,rfl⟩:=h;intro p hp;obtain⟨⟨u,q2,q3⟩,q4⟩:=TG hr p hp;exact⟨⟨u,Pl _ q2,q3⟩,q4⟩
   ·simp at h
  ·simp at h
theorem Sd (f:Nat) (ps:List D):qn (funV f ps)=[]:=by cases ps<;>rfl
theorem Se [EffOk C] {o:Oper} {ρ:Operand→V} (hρ:∀x,∀k∈qn (ρ x),nth .none ob k≠ .none) (hb:∀k,∀u∈qW (nth .none ob k),∀j∈qn u,nth .none ob j≠ .none):GoodR C o ρ ob (xw C o ρ ob):=by
 obtain⟨a8,op,ty,pos,a3,g⟩:=o;cases op with
 |move x=>exact GoodR.same (hρ x)
 |assign x=>exact GoodR.same (hρ x)
 |pick c x y=>
  simp only[xw];split
  ·split
   ·exact GoodR.same (hρ x)
   ·exact GoodR.same (hρ y)
  ·trivial
 |binOp op t x y t2=>exact Sb
 |unOp op t x=>simp only[xw,unV];split<;>first|trivial|exact GoodR.data rfl
 |convert s t x=>
  simp only[xw];split
  ·split<;>first|trivial|exact GoodR.dataC rfl
  ·split
   ·unfold Ea;split<;>first|trivial|exact GoodR.data rfl|exact GoodR.dataC rfl
   ·trivial
 |field t x f=>
  simp only[xw]
  repeat' split
  all_goals first|trivial|exact GoodR.data rfl
 |index t x i=>simp only[xw];split<;>first|trivial|exact GoodR.dataC rfl
 |extract x i=>
  simp only[xw];split
  ·repeat' split
   all_goals first|trivial|exact GoodR.data rfl
  ·rename_i k as hv;split
   ·exact GoodR.same fun j hj=>hρ x j (by rw[hv];exact hj)
   ·repeat' split
    all_goals first|trivial|exact GoodR.data rfl
  ·trivial
 |alloc t=>
  simp only[xw];split
  ·rename_i d;split
   ·rename_i z hd hz;split
    ·refine GoodR.new (us:=[]) (x:= .box (z.map Qc)) rfl hd (by simp) (fun v hv=>?_) (fun _ h=>absurd h (by simp)) (fun k hk=>by simpa [qn]using hk);obtain⟨y,_,rfl⟩:=Lv.1 hv;exact WZ y
    ·split
     ·refine GoodR.new (us:=[]) (x:= .bld t .nilS) rfl hd (by simp) (fun v hv=>?_) (fun _ h=>absurd h (by simp)) (fun k hk=>by simpa [qn]using hk);simp[qW]at hv;subst hv;rfl
     ·trivial
   ·trivial
  ·trivial
 |box t x=>
  simp only[xw];split
  ·rename_i d;split
   ·rename_i hd;split
    ·exact GoodR.new (us:=[]) rfl hd (by simp) (fun v hv=>by
      obtain⟨y,_,rfl⟩:=Lv.1 hv;rfl) (fun _ h=>absurd h (by simp)) (fun k hk=>by simpa [qn]using hk)
    ·split
     ·rename_i hkc;exact GoodR.new (us:=[]) rfl hd (by simp) (fun v hv=>by
       obtain⟨c,hc,rfl⟩:=Lv.1 hv;cases c with
       |arr k=>have:=xL.2 hc;rw[hkc]at this;simp at this
       |_=>rfl) (fun _ h=>absurd h (by simp)) (fun k hk=>by simpa [qn]using hk)
     ·trivial
    ·exact GoodR.new (us:=[]) rfl hd (by simp) (fun v hv=>by
      simp[qW]at hv;subst hv;rfl) (fun _ h=>absurd h (by simp)) (fun k hk=>by simpa [qn]using hk)
    ·exact GoodR.new (us:=[]) rfl hd (by simp) (fun v hv=>by
      simp[qW]at hv;subst hv;rfl) (fun _ h=>absurd h (by simp)) (fun k hk=>by simpa [qn]using hk)
    ·trivial
   ·trivial
  ·trivial
 |makeSlice t x y=>
  simp only[xw];split
  ·rename_i d;split
   ·rename_i e hd he;split
    ·split
     ·split
      ·exact GoodR.new (us:=[]) rfl hd (by simp) (fun u hu=>by simp[qW]at hu) (fun _ h=>absurd h (by simp)) (fun k hk=>by simpa [qn]using hk)
      ·split
       ·exact GoodR.new (us:=[]) rfl hd (by simp) (fun u hu=>by rw[List.eq_of_mem_replicate (show u∈List.replicate _ V.nilS from hu)];rfl) (fun _ h=>absurd h (by simp)) (fun k hk=>by simpa [qn]using hk)
       ·trivial
     ·trivial
    ·trivial
   ·trivial
  ·trivial
 |build t parts=>
  simp only[xw];split
  ·split
   ·rename_i qs us hp;split
    ·split
     ·refine⟨(QY hp).up (fun v hv=>?_) (by simp[cls]) _,fun k hk=>by simp[qn]at hk⟩;obtain⟨p,hp,rfl⟩:=Lv.1 hv;exact⟨p.2,by simp only[J8];exact Lv.2 ⟨p,hp,rfl⟩,rfl⟩
     ·trivial
    ·split
     ·rename_i z _ _ _ _ hb;refine⟨(QY hp).up (fun v hv=>?_) (by simp[cls]) _,fun k hk=>?_⟩
      ·obtain⟨p,hp,rfl⟩:=Lv.1 hv;exact⟨p.2,by simp only[J8];exact Lv.2 ⟨p,hp,rfl⟩,rfl⟩
      ·have hk:k∈kn _:=hk;rw[JV _ _ _ hb (vu _)]at hk;simp at hk
     ·trivial
   ·trivial
  ·trivial
 |buildSlice t len parts=>
  simp only[xw];split
  ·rename_i d;split
   ·rename_i e hd he;split
    ·unfold JE;split
     ·rename_i j hpv;split
      ·split
       ·obtain⟨x,_,hx⟩:=Yi hpv (by simp);exact GoodR.new2 (us:=[]) rfl hd (by simp) (fun u hu k hk=>by
         have hu:u= .arr j:=by simpa [qW]using hu
         subst hu;exact hρ x k (by rw[hx];exact hk)) (fun _ h=>absurd h (by simp)) (fun k hk=>by simpa [qn]using hk)
       ·trivial
      ·trivial
     ·trivial
    split
    ·rename_i z qs us hz hp;split
     ·split
      ·refine GoodR.new rfl hd (by simp) (fun u hu=>by simp[qW]at hu) ((QY hp).up (fun v hv=>?_) (by simp[cls]) _) (fun k hk=>by simpa [qn]using hk);obtain⟨p,hp,rfl⟩:=Lv.1 hv;exact⟨p.2,by simp only[J8];exact Lv.2 ⟨p,hp,rfl⟩,rfl⟩
      ·trivial
     ·trivial
    ·trivial
   ·trivial
  ·trivial
 |load t x=>
  have hx:=hρ x;simp only[xw,Ec];split
  ·trivial
  ·split
   ·split
    ·rename_i k ad hv _ a4 hk;split
     ·split
      ·rename_i b6;split
       ·exact GoodR.data rfl
       ·split
        ·rename_i vcs hvc;refine GoodR.same fun k' hk'=>?_
         have hv2:=XS hvc;have a7:=of_decide_eq_true b6;have hm:V.arr k'∈vcs.map VC.v:=Lv.2 ⟨_,xL.1 hk',rfl⟩;rw[←hv2]at hm;rw[JO]at hm;obtain⟨j,_,hj,e⟩:=Yd hm;refine hb k (.arr k') ?_ k' (by simp[qn]);rw[hk,←e];show nth .any a4 j∈a4;rw[qo _ (by omega)];exact P1 _
        ·trivial
      ·trivial
     ·split
      ·rename_i b2;have b2:ad<a4.length:=by simpa using b2
       refine GoodR.same (hb k _ ?_);rw[hk,qo _ b2];exact P1 b2
      ·trivial
    ·rename_i k ad hv _ a4 hk;split
     ·trivial
     ·split
      ·rename_i b2;have b2:ad<a4.length:=by simpa using b2
       refine GoodR.same (hb k _ ?_);rw[hk];exact wv b2
      ·trivial
    ·trivial
   ·trivial
   ·split<;>trivial
   ·trivial
 |nilCheck x=>
  have hx:=hρ x;simp only[xw];split
  ·rename_i k ad hv;rw[hv]at hx;split
   ·exact GoodR.same hx
   ·trivial
  ·trivial
 |fieldAddr t x f=>
  have hx:=hρ x;simp only[xw];split
  ·split
   ·trivial
   ·split
    ·rename_i k ad hv;rw[hv]at hx;split
     ·exact GoodR.same hx
     ·trivial
    ·rename_i k i ad hv;rw[hv]at hx;split
     ·exact GoodR.same hx
     ·trivial
    ·exact GoodR.data rfl
    ·trivial
  ·trivial
 |indexAddr t x i=>
  have hx:=hρ x;simp only[xw,yI];split
  ·split
   ·split
    ·split
     ·exact GoodR.dataC rfl
     ·trivial
    ·rename_i k hv;rw[hv]at hx;split
     ·split
      ·exact GoodR.sameC hx
      ·trivial
     ·trivial
    ·rename_i k o l hv;rw[hv]at hx;split
     ·split
      ·exact GoodR.sameC hx
      ·trivial
     ·trivial
    ·rename_i k l hv;rw[hv]at hx;split
     ·split
      ·exact GoodR.sameC hx
      ·trivial
     ·trivial
    ·trivial
   ·split
    ·rename_i k ad hv;rw[hv]at hx;split
     ·split
      ·split
       ·exact GoodR.same hx
       ·trivial
      ·trivial
     ·trivial
    ·split
     ·exact GoodR.dataC rfl
     ·trivial
    ·split
     ·split
      ·exact GoodR.data rfl
      ·trivial
     ·trivial
    ·trivial
   ·trivial
  ·trivial
 |slice t x lo hi mx=>
  have hx:=hρ x;simp only[xw];split
  ·unfold RG
   repeat' split
   all_goals first|trivial|exact GoodR.data rfl
  simp only[GM,GL,Tx];split
  rotate_left
  ·split
   ·split
    ·rename_i hv;rw[hv]at hx
     repeat' split
     all_goals first|trivial|exact GoodR.same hx
    ·trivial
   ·trivial
  split
  rotate_left
  ·repeat' split
   all_goals first|trivial|exact GoodR.dataC rfl
  split
  ·repeat' split
   all_goals first|trivial|exact GoodR.dataC rfl
  ·split
   ·rename_i z es us hz hel;have hu:=(E2 hel).up (C:=C) (o:=⟨a8,.slice t x lo hi mx,ty,pos,a3,g⟩) (ρ:=ρ) (fun v hv=>⟨x,by simp[J8],by simp at hv;exact hv.symm⟩) (by simp[cls]) us
    repeat' split
    all_goals first|trivial|exact⟨hu,fun k hk=>by simp[qn]at hk⟩
   ·trivial
  ·trivial
 |store t p x=>
  have hp:=hρ p;have hx:=hρ x;simp only[xw,MB];have ag:∀k∈qn (ρ p),k∈opk ⟨a8,.store t p x,ty,pos,a3,g⟩ ρ ob:=fun k hk=>Qz (x:=p) (by simp[J8]) hk
  have a6:cls C ⟨a8,.store t p x,ty,pos,a3,g⟩=2:=rfl;split
  ·trivial
  ·split
   ·rename_i k ad hv;rw[hv]at hp ag;split
    ·rename_i a4 hk;have b3:∀al:List V,(∀v∈al,v∈a4∨v=ρ x∨qn v=[])→GoodR C ⟨a8,.store t p x,ty,pos,a3,g⟩ ρ ob (.ok .any [(k,.box al)]):=by
      intro al hcs;refine⟨fun q hq=>?_,fun k hk=>by simp[qn]at hk⟩;simp only[Lr]at hq;subst hq;refine⟨.inr ⟨ag k (by simp[qn]),by rw[a6];simp,by rw[hk];simp,fun a7=>by rw[a6]at a7;omega⟩,by simp,fun v hv j hj=> .inl ?_⟩;rcases hcs v hv with h1|h1|h1
      ·exact hb k v (by rw[hk];exact h1) j hj
      ·subst h1;exact hx j hj
      ·rw[h1]at hj;simp at hj
     have an:∀(ds:List D) (a4:List V) (ad:Nat) (v:V),v∈RC a4 ad ds→v∈a4∨qn v=[]:=by
      intro ds
      induction ds with
      |nil=>intro a4 ad v hv;exact .inl hv
      |cons d ds ih=>
       intro a4 ad v hv;rcases ih _ _ _ hv with hv|hv
       ·rcases xU hv with hv|rfl
        ·exact .inl hv
        ·exact .inr rfl
       ·exact .inr hv
     split
     ·split
      ·split
       ·exact b3 _ fun v hv=>by
         rcases an _ _ _ _ hv with h1|h1
         ·exact .inl h1
         ·exact .inr (.inr h1)
       ·trivial
      ·rename_i ds hds;split
       ·refine⟨fun q hq=>?_,fun k hk=>by simp[qn]at hk⟩;simp only[Lr]at hq;subst hq;refine⟨.inr ⟨ag k (by simp[qn]),by rw[a6];simp,by rw[hk];simp,fun a7=>by rw[a6]at a7;omega⟩,by simp,fun v hv j hj=> .inl ?_⟩;have hm:∀(l:List VC) (cs:List V) (ad:Nat) (v:V),v∈GI cs ad l→v∈cs∨∃c∈l,v=c.v:=by
         intro l
         induction l with
         |nil=>intro cs ad v hv;exact .inl hv
         |cons d l ih=>
          intro cs ad v hv;rcases ih _ _ _ hv with hv|⟨c,hc,e⟩
          ·rcases xU hv with hv|rfl
           ·exact .inl hv
           ·exact .inr ⟨d,by simp,rfl⟩
          ·exact .inr ⟨c,by simp[hc],e⟩
        rcases hm _ _ _ _ hv with h1|⟨c,hc,rfl⟩
        ·exact hb k v (by rw[hk];exact h1) j hj
        ·rw[hds]at hx;refine hx j ?_;cases c with
         |arr k2=>simp[VC.v,qn]at hj;subst hj;exact xL.2 hc
         |d d=>simp[VC.v,qn]at hj
         |nil=>simp[VC.v,qn]at hj
       ·trivial
      ·trivial
     ·split
      ·split
       ·exact b3 _ fun v hv=>by
         rcases xU hv with h1|rfl
         ·exact .inl h1
         ·exact .inr (.inr rfl)
       ·trivial
      ·split
       ·exact b3 _ fun v hv=>by
         rcases xU hv with h1|rfl
         ·exact .inl h1
         ·exact .inr (.inr rfl)
       ·trivial
      ·rename_i j hj;split
       ·split
        ·exact b3 _ fun v hv=>by
          rcases xU hv with h1|rfl
          ·exact .inl h1
          ·exact .inr (.inl hj.symm)
        ·trivial
       ·trivial
      ·trivial
    ·rename_i a4 hk;split
     ·rename_i j hj;split
      ·split
       ·refine⟨fun q hq=>?_,fun k hk=>by simp[qn]at hk⟩;simp only[Lr]at hq;subst hq;refine⟨.inr ⟨ag k (by simp[qn]),by rw[a6];simp,by rw[hk];simp,fun a7=>by rw[a6]at a7;omega⟩,by simp,fun v hv i hi=> .inl ?_⟩;rcases xU hv with h1|rfl
        ·exact hb k v (by rw[hk];exact h1) i hi
        ·exact hx i (by rw[hj];exact hi)
       ·trivial
      ·trivial
     ·trivial
    ·trivial
   ·rename_i k i ad hv;rw[hv]at hp ag;split
    ·rename_i s es hk;have b3:∀(c:Prop) [Decidable c] (b7:List (List D)),GoodR C ⟨a8,.store t p x,ty,pos,a3,g⟩ ρ ob (.cond c .any [(k,.arr s b7 false)]):=by intro c _ b7;refine⟨fun q hq=>?_,fun k hk=>by simp[qn]at hk⟩;simp only[Lr]at hq;subst hq;exact⟨.inr ⟨ag k (by simp[qn]),by rw[a6];simp,by rw[hk];simp,fun a7=>by rw[a6]at a7;omega⟩,by simp,fun u hu=>by simp[qW]at hu⟩
     split
     ·split
      ·exact b3 _ _
      ·trivial
     ·split
      ·exact b3 _ _
      ·trivial
     ·trivial
    ·trivial
   ·trivial
 |makeFunc fn first captured=>
  simp only[xw];split
  ·split
   ·rename_i ps us hc;refine⟨fun p hp=>?_,fun k hk=>by rw[Sd]at hk;simp at hk⟩;obtain⟨⟨v,hv,hk⟩,⟨a4,hb2⟩,h3⟩:=TG hc p hp;obtain⟨x,hx,rfl⟩:=Lv.1 hv;refine⟨.inr ⟨Qz (x:=x) (by simp only[J8,Aw];exact M0 _ hx) hk,by simp[cls],by rw[hb2];simp,fun a7=>by simp[cls]at a7⟩,by rw[h3];simp,fun u hu=>by rw[h3]at hu;simp[qW]at hu⟩
   ·trivial
  ·trivial
 |call c=>
  obtain⟨b5,a5,ts⟩:=c;simp only[xw];have b1:∀(f:Nat) (b4:Operand) (ps:List D),cls C ⟨a8,.call ⟨.value b4,a5,ts⟩,ty,pos,a3,g⟩≠0→GoodR C ⟨a8,.call ⟨.value b4,a5,ts⟩,ty,pos,a3,g⟩ ρ ob (vf C ob f (a5.toList.map ρ++ps.map V.c)):=by
   intro f b4 ps a6;unfold vf;split
   ·trivial
   ·split
    ·trivial
    ·split
     ·rename_i as us sh hto hsh;have hu:∀p∈us,UOk C ⟨a8,.call ⟨.value b4,a5,ts⟩,ty,pos,a3,g⟩ ρ ob us p:=fun p hp=>by
       obtain⟨⟨v,h1,h2⟩,s,es,fz,h3,h4⟩:=ww hto p hp;rcases M1.1 h1 with h1|h1
       ·obtain⟨x,hx,rfl⟩:=Lv.1 h1;exact⟨.inr ⟨Qz (x:=x) (by simp only[J8,J4,Aw];exact M0 _ hx) h2,a6,by rw[h3];simp,fun _=>⟨s,es,fz,h3,h4⟩⟩,by rw[h4];simp,fun u hu=>by rw[h4]at hu;simp[qW]at hu⟩
       ·obtain⟨d,_,rfl⟩:=Lv.1 h1;simp[qn]at h2
      split
      ·exact hu
      ·exact fun _ h=>absurd h (by simp)
     ·trivial
  split
  ·rename_i f;split
   ·rename_i e he;have a6:cls C ⟨a8,.call ⟨.value (.func f),a5,ts⟩,ty,pos,a3,g⟩=2:=by simp[cls,he]
    have hg:=EffOk.good he a8 (a5.toList.map ρ) ob (fun v hv=>by obtain⟨x,_,rfl⟩:=Lv.1 hv;exact hρ x) hb;have hin:∀k,k∈vY ob ((a5.toList.map ρ).flatMap qn)→k∈opk ⟨a8,.call ⟨.value (.func f),a5,ts⟩,ty,pos,a3,g⟩ ρ ob:=fun k hkk=>by show k∈vY ob _;rw[qE]at hkk ⊢;obtain⟨j,h1,h2⟩:=hkk;refine⟨j,?_,h2⟩;rw[XV];obtain⟨v,hv,hj⟩:=M2.1 h1;obtain⟨x,hx,rfl⟩:=Lv.1 hv;exact M2.2 ⟨x,by simp only[J8,J4,Aw];exact M0 _ hx,hj⟩
    have b8:∀{up:List (Nat×Obj)} {p:Nat×Obj},((eN (C.wd f) a8 p.1∧qA ob p.1=true)∨(p.1∈vY ob ((a5.toList.map ρ).flatMap qn)∧nth .none ob p.1≠ .none))∧p.2≠ .none∧(∀u∈qW p.2,VOk ob up u)→UOk C ⟨a8,.call ⟨.value (.func f),a5,ts⟩,ty,pos,a3,g⟩ ρ ob up p:=fun{up p} h=>by
     refine⟨?_,h.2⟩;rcases h.1 with h1|⟨h1,h2⟩
     ·exact .inl ⟨Hc.2 h1.1,h1.2⟩
     ·exact .inr ⟨hin _ h1,by rw[a6];simp,h2,fun a7=>by rw[a6]at a7;omega⟩
    generalize e a8 (a5.toList.map ρ) ob=r at *;cases r with
    |fail=>trivial
    |ok v up=>exact⟨fun p hp=>b8 (hg.1 p hp),hg.2⟩
    |cond c v up=>exact⟨fun p hp=>b8 (hg.1 p hp),hg.2⟩
    |look _ _ _ _=>trivial
    |call _ _ _ _=>exact hg.elim
   ·rename_i he;have:=b1 f (.func f) [] (by simp[cls,he]);rw[bd,ba]at this;exact this
  ·rename_i t0;split
   ·rename_i f _;split
    ·trivial
    ·have:=b1 f (.tmp t0) [] (by simp[cls]);rw[bd,ba]at this;exact this
   ·split
    ·trivial
    ·exact b1 _ _ _ (by simp[cls])
   ·trivial
  ·split
   ·unfold gZ
    repeat' split
    all_goals first|trivial|exact GoodR.data rfl
   ·trivial
  ·split
   ·rename_i x y ap;have hx:=hρ x;have a6:cls C ⟨a8,.call ⟨.builtin .append,a5,ts⟩,ty,pos,a3,g⟩=2:=rfl;have ag:∀k∈qn (ρ x),k∈opk ⟨a8,.call ⟨.builtin .append,a5,ts⟩,ty,pos,a3,g⟩ ρ ob:=fun k hk=>Qz (x:=x) (by
     simp only[J8,J4,Aw];exact M0 _ (by rw[ap];simp)) hk
    unfold JC;split
    ·trivial
    ·rename_i d;split
     ·trivial
     ·rename_i hd;split
      ·split
       ·split
        ·unfold Qu;split
         ·rename_i xs up v u2 hxs hys hz;split
          ·have hy:=hρ y;have hv:∀k∈qn v,nth .none ob k≠ .none:=by
            rcases Yk hys with⟨_,h1,_⟩|⟨k,_,h1,_⟩
            ·simp at h1
            ·exact hb k v (by rw[h1];simp[qW])
           rcases Yk hxs with⟨_,rfl,rfl⟩|⟨k,hvx,hk,rfl⟩
           ·exact GoodR.new2 (us:=[]) rfl hd (by simp) (fun u hu=>by
             have hu:u=v:=by simpa [qW]using hu
             rw[hu];exact hv) (fun _ h=>absurd h (by simp)) (fun k hk=>by simpa [qn]using hk)
           ·rw[hvx]at ag;exact GoodR.new2 (us:=[(k,.dead)]) rfl hd (by simp) (fun u hu=>by
             rcases M1.1 (show u∈xs++[v]from hu)with hu|hu
             ·exact hb k u (by rw[hk];exact hu)
             ·rw[Lr.1 hu];exact hv) (fun q hq=>by
              simp only[Lr]at hq;subst hq;exact⟨.inr ⟨ag k (by simp[qn]),by rw[a6];simp,by rw[hk];simp,fun a7=>by rw[a6]at a7;omega⟩,by simp,fun u hu=>by simp[qW]at hu⟩) (fun k hk=>by simpa [qn]using hk)
          ·trivial
         ·trivial
        split
        ·split
         ·split
          ·exact GoodR.new (us:=[]) rfl hd (by simp) (fun u hu=>by simp[qW]at hu) (fun _ h=>absurd h (by simp)) (fun k hk=>by simpa [qn]using hk)
          ·rename_i k hv;rw[hv]at hx ag;split
           ·rename_i s es hk;split
            ·exact GoodR.new (us:=[(k,.dead)]) rfl hd (by simp) (fun u hu=>by simp[qW]at hu) (fun q hq=>by
              simp only[Lr]at hq;subst hq;exact⟨.inr ⟨ag k (by simp[qn]),by rw[a6];simp,by rw[hk];simp,fun a7=>by rw[a6]at a7;omega⟩,by simp,fun u hu=>by simp[qW]at hu⟩) (fun k hk=>by simpa [qn]using hk)
            ·trivial
           ·trivial
          ·rename_i k o n hv;rw[hv]at hx ag;split
           ·rename_i s es ho hk;split
            ·exact GoodR.new (us:=[(k,.dead)]) rfl hd (by simp) (fun u hu=>by simp[qW]at hu) (fun q hq=>by
              simp only[Lr]at hq;subst hq;exact⟨.inr ⟨ag k (by simp[qn]),by rw[a6];simp,by rw[hk];simp,fun a7=>by rw[a6]at a7;omega⟩,by simp,fun u hu=>by simp[qW]at hu⟩) (fun k hk=>by simpa [qn]using hk)
            ·trivial
           ·trivial
          ·trivial
         ·trivial
        ·trivial
       ·trivial
      ·trivial
   ·trivial
  ·split
   ·rename_i x ap;have ag:∀k∈qn (ρ x),k∈opk ⟨a8,.call ⟨.builtin .clear,a5,ts⟩,ty,pos,a3,g⟩ ρ ob:=fun k hk=>Qz (x:=x) (by
     simp only[J8,J4,Aw];exact M0 _ (by rw[ap];simp)) hk
    unfold JD;split
    ·split
     ·split
      ·rename_i z k o l hz hv;rw[hv]at ag;split
       ·rename_i s es hk;split
        ·refine⟨fun p hp=>?_,fun k hk=>by simp[qn]at hk⟩;simp only[Lr]at hp;subst hp;exact⟨.inr ⟨ag k (by simp[qn]),by simp[cls],by rw[hk];simp,fun a7=>by simp[cls]at a7⟩,by simp,fun u hu=>by simp[qW]at hu⟩
        ·trivial
       ·trivial
      ·trivial
     ·trivial
    ·trivial
   ·trivial
  ·split
   ·exact MP
   ·trivial
  ·split
   ·exact MP
   ·trivial
  ·trivial
 |_=>trivial
end
end Eng
end
section
namespace Eng
open Go Go.RowKit
theorem yN {α:Type} (l:List α) (i j:Nat) (x y:α) (h:i≠j∨x=y):upd (upd l i x) j y=upd (upd l j y) i x:=by
 simp only[xr];rcases h with h|rfl
 ·exact bc _ _ h
 ·by_cases hij:i=j
  ·subst hij;rfl
  ·exact bc _ _ hij
theorem MQ (k:Nat) (x:Obj):∀(b:List (Nat×Obj)) (ob:List Obj),(∀q∈b,q.1=k→q.2=x)→upds (upd ob k x) b=upd (upds ob b) k x
 |[],_,_=>rfl
 |(j,y)::b,ob,h=>by
  simp only[upds];rw[yN ob k j x y (by
   by_cases hk:k=j
   ·exact .inr (h (j,y) (by simp) hk.symm).symm
   ·exact .inl hk),MQ k x b _ fun q hq=>h q (by simp[hq])]
theorem He:∀(a b:List (Nat×Obj)) (ob:List Obj),(∀p∈a,∀q∈b,q.1=p.1→q.2=p.2)→upds (upds ob a) b=upds (upds ob b) a
 |[],_,_,_=>rfl
 |(k,x)::a,b,ob,h=>by simp only[upds];rw[He a b _ fun p hp=>h p (by simp[hp]),MQ k x b ob fun q hq hk=>h (k,x) (by simp) q hq hk]
theorem QZ (d:Nat):∀(b:List (Nat×Obj)) (ob:List Obj),nth .none (upds ob b) d=nth .none ob d∨(nth .none (upds ob b) d= .none∧nth .none ob d= .none)∨∃p∈b,p.1=d∧nth .none (upds ob b) d=p.2
 |[],_=> .inl rfl
 |(k,x)::b,ob=>by
  simp only[upds];rcases QZ d b (upd ob k x)with h|⟨h1,h2⟩|⟨p,hp,h1,h2⟩
  ·rw[zm]at h;split at h
   ·rename_i hk;exact .inr (.inr ⟨(k,x),by simp,hk.1,h⟩)
   ·exact .inl h
  ·by_cases hk:k=d∧k<ob.length
   ·rw[zm,if_pos hk]at h2;exact .inr (.inr ⟨(k,x),by simp,hk.1,by rw[h1];exact h2.symm⟩)
   ·rw[zm,if_neg hk]at h2;exact .inr (.inl ⟨h1,h2⟩)
  ·exact .inr (.inr ⟨p,by simp[hp],h1,h2⟩)
theorem kv:∀(b:List (Nat×Obj)) (ob:List Obj),(upds ob b).length=ob.length
 |[],_=>rfl
 |(k,x)::b,ob=>by simp only[upds];rw[kv b,xr];simp
theorem zX {d:Nat}:∀(b:List (Nat×Obj)) (ob:List Obj),(∀p∈b,p.1≠d)→nth .none (upds ob b) d=nth .none ob d
 |[],_,_=>rfl
 |(k,x)::b,ob,h=>by simp only[upds];rw[zX b _ fun p hp=>h p (by simp[hp]),qe _ _ _ (h (k,x) (by simp))]
theorem zN {d:Nat} {b:List (Nat×Obj)} {ob:List Obj} (h:∀p∈b,p.2≠ .none) (hd:nth .none ob d≠ .none):nth .none (upds ob b) d≠ .none:=by
 rcases QZ d b ob with h1|⟨_,h1⟩|⟨p,hp,_,h2⟩
 ·rw[h1];exact hd
 ·exact absurd h1 hd
 ·rw[h2];exact h p hp
theorem JZ {d:Nat}:∀{b:List (Nat×Obj)} {ob:List Obj},(∀p∈b,p.2≠ .none)→d<ob.length→(∃x,(d,x)∈b)→nth .none (upds ob b) d≠ .none
 |[],_,_,_,h=>by obtain⟨x,hx⟩:=h;exact absurd hx (by simp)
 |(k,x)::b,ob,h,hd,hx=>by
  simp only[upds];by_cases hk:k=d
  ·subst hk;exact zN (fun p hp=>h p (by simp[hp])) (by rw[qg _ _ _ hd];exact h (k,x) (by simp))
  ·obtain⟨y,hy⟩:=hx;refine JZ (fun p hp=>h p (by simp[hp])) (by rw[xr];simpa using hd) ⟨y,?_⟩;rcases Ls.1 hy with hy|hy
   ·simp only[cr]at hy;exact absurd hy.1.symm hk
   ·exact hy
section
variable {C:Cx} {Gv:Nat→List A→List A→Prop} {ops:Array Oper}
def Out (Gv:Nat→List A→List A→Prop):R→V→List (Nat×Obj)→Prop
 | .fail,_,_=>False
 | .ok v up,v',up'=>v'=v∧up'=up
 | .cond (dc:=_) c v up,v',up'=>c∧v'=v∧up'=up
 | .look z row off ag,v',up'=>∃ds,cut row off z.length ds∧v'=(match ag with|true=> .ag ds|false=> .c (nth .undef ds 0))∧up'=[]
 | .call f as sh up,v',up'=>∃rs,Gv f as rs∧(zE sh=false→∀r∈rs,W7 r=true)∧v'=VX rs∧up'=up
def Xa (ops:Array Oper) (o:Oper) (tmps:List V) (b:Bool):Prop:=
 match o.guard with
 |none=>b=true
 |some (j,want)=>∃t,Qg ops j=some t∧((∃c,nth .any tmps t= .c (.bool c)∧b=(c==want))∨(nth .any tmps t= .no∧b=false))
def Stp (C:Cx) (Gv:Nat→List A→List A→Prop) (ops:Array Oper) (o:Oper) (s:St) (v:V) (up:List (Nat×Obj)):Prop:=
 ∃b,Xa ops o s.tmps b∧if b then Out Gv (xw C o (ev s) s.objs) v up else v= .no∧up=[]
structure RecOk (C:Cx) (o:Oper) (s:St) (up:List (Nat×Obj)) (rc:Rec):Prop where
 reads:cls C o≠0→∀k∈opk o (ev s) s.objs,k∈rc.1
 ups:∀p∈up,p.1∈rc.2
def Tr (C:Cx) (Gv:Nat→List A→List A→Prop) (ops:Array Oper) (rc:Nat→Rec):List Nat→St→St→Prop
 |[],s,s'=>s.tmps=s'.tmps∧s.objs=s'.objs
 |i::r,s,s'=>∃o,ops[i]? =some o∧∃v up,Stp C Gv ops o s v up∧RecOk C o s up (rc i)∧Tr C Gv ops rc r (s.put o.dst v up) s'
theorem Sf {s s':St} (h:s.tmps=s'.tmps):ev s=ev s':=by
 funext x;cases x with
 |tmp t=>simp only[ev,h]
 |_=>rfl
theorem Stp.same {o:Oper} {s s':St} {v:V} {up:List (Nat×Obj)} (h:Stp C Gv ops o s v up) (h1:s.tmps=s'.tmps) (h2:s.objs=s'.objs):Stp C Gv ops o s' v up:=by
 unfold Stp at *;rw[←h1,←h2,←Sf h1];exact h
theorem RecOk.same {o:Oper} {s s':St} {up:List (Nat×Obj)} {rc:Rec} (h:RecOk C o s up rc) (h1:s.tmps=s'.tmps) (h2:s.objs=s'.objs):RecOk C o s' up rc:=⟨by rw[←Sf h1,←h2];exact h.reads,h.ups⟩
theorem Tr.same {rc:Nat→Rec}:∀{l:List Nat} {s s' e:St},Tr C Gv ops rc l s e→s.tmps=s'.tmps→s.objs=s'.objs→Tr C Gv ops rc l s' e
 |[],_,_,_,h,h1,h2=>⟨h1.symm.trans h.1,h2.symm.trans h.2⟩
 |i::r,s,s',e,h,h1,h2=>by obtain⟨o,ho,v,up,hs,hr,ht⟩:=h;exact⟨o,ho,v,up,hs.same h1 h2,hr.same h1 h2,ht.same (by simp only[J3,h1]) (by simp only[J3,h2])⟩
theorem Tr.recs {rc rc':Nat→Rec}:∀{l:List Nat} {s e:St},Tr C Gv ops rc l s e→(∀i∈l,rc i=rc' i)→Tr C Gv ops rc' l s e
 |[],_,_,h,_=>h
 |i::r,s,e,h,he=>by obtain⟨o,ho,v,up,hs,hr,ht⟩:=h;exact⟨o,ho,v,up,hs,by rw[←he i (by simp)];exact hr,ht.recs fun j hj=>he j (by simp[hj])⟩
theorem TH {o:Oper} {s:St} {K:St→Prop} (h:opW C Gv o s K):∃v up,Out Gv (xw C o (ev s) s.objs) v up∧K (s.put o.dst v up):=by
 unfold opW at h;generalize xw C o (ev s) s.objs=r at *;cases r with
 |fail=>exact h.elim
 |ok v up=>exact⟨v,up,⟨rfl,rfl⟩,h⟩
 |cond c v up=>exact⟨v,up,⟨h.1,rfl,rfl⟩,h.2⟩
 |look z row off ag=>obtain⟨ds,h1,_⟩:=yh h;exact⟨_,[],⟨ds,h1.1,rfl,rfl⟩,h1.2⟩
 |call f as sh up=>obtain⟨rs,h1,h2⟩:=XU h;exact⟨_,up,⟨rs,h1.1,h2,rfl,rfl⟩,h1.2⟩
theorem TI {α:Type} (d:α) (l:List α) (i:Nat) (x:α) (h:nth d l i=x):upd l i x=l:=by
 rw[xr];apply List.ext_getElem?;intro j;rw[List.getElem?_set];split
 ·rename_i hij;subst hij;split
  ·rename_i a3;rw[qo _ a3]at h;rw[List.getElem?_eq_getElem a3,h]
  ·rename_i a3;rw[List.getElem?_eq_none (bv.1 a3)]
 ·rfl
theorem Hf {o:Oper} {s:St} {K:St→Prop} (h:Ee C Gv ops o s K):∃v up,Stp C Gv ops o s v up∧K (s.put o.dst v up):=by
 unfold Ee at h;split at h
 ·rename_i hg;obtain⟨v,up,h1,h2⟩:=TH h;exact⟨v,up,⟨true,by unfold Xa;rw[hg],by rw[if_pos rfl];exact h1⟩,h2⟩
 ·rename_i j a3 hg;split at h
  ·exact h.elim
  ·rename_i t ht;split at h
   ·rename_i d hd;have hb:∃c,d= .bool c:=by
     cases d with
     |bool c=>exact⟨c,rfl⟩
     |_=>exact h.elim
    obtain⟨c,rfl⟩:=hb;have hw:∀b,b=(c==a3)→Xa ops o s.tmps b:=fun b hb=>by unfold Xa;rw[hg];exact⟨t,ht,.inl ⟨c,hd,hb⟩⟩
    have hs:(⟨upd s.tmps t (.c (.bool c)),s.objs,s.dirty⟩:St)=s:=by rw[TI _ _ _ _ hd]
    cases c<;>cases a3<;>simp only[cnd,isB,br,toB]at h<;>rw[hs]at h
    ·obtain⟨v,up,h1,h2⟩:=TH h;exact⟨v,up,⟨true,hw _ rfl,by rw[if_pos rfl];exact h1⟩,h2⟩
    ·exact⟨.no,[],⟨false,hw _ rfl,by simp⟩,h⟩
    ·exact⟨.no,[],⟨false,hw _ rfl,by simp⟩,h⟩
    ·obtain⟨v,up,h1,h2⟩:=TH h;exact⟨v,up,⟨true,hw _ rfl,by rw[if_pos rfl];exact h1⟩,h2⟩
   ·rename_i hd;exact⟨.no,[],⟨false,by unfold Xa;rw[hg];exact⟨t,ht,.inr ⟨hd,rfl⟩⟩,by simp⟩,h⟩
   ·exact h.elim
structure WF (s:St):Prop where
 tmps:∀v∈s.tmps,∀k∈qn v,nth .none s.objs k≠ .none
 objs:∀k,∀u∈qW (nth .none s.objs k),∀j∈qn u,nth .none s.objs j≠ .none
theorem aS (v:V):qn (un v)=qn v:=by cases v<;>rfl
theorem WF.ev {s:St} (h:WF s) (x:Operand):∀k∈qn (ev s x),nth .none s.objs k≠ .none:=by
 cases x with
 |tmp t=>
  simp only[Eng.ev];by_cases ht:t<s.tmps.length
  ·rw[qo _ ht,aS];exact h.tmps _ (P1 ht)
  ·rw[qJ _ (bv.1 ht)];intro k hk;simp[qn,un]at hk
 |const v=>intro k hk;simp only[Eng.ev,WZ]at hk;simp at hk
 |global g=>intro k hk;simp[Eng.ev,qn]at hk
 |func f=>intro k hk;simp[Eng.ev,qn]at hk
theorem yj (rs:List A):qn (VX rs)=[]:=by
 unfold VX;split<;>first|rfl|(split<;>rfl)
theorem Stp.good [EffOk C] {o:Oper} {s:St} {v:V} {up:List (Nat×Obj)} (hs:WF s) (h:Stp C Gv ops o s v up):(∀p∈up,UOk C o (Eng.ev s) s.objs up p)∧VOk s.objs up v:=by
 obtain⟨b,_,h⟩:=h;cases b with
 |false=>obtain⟨rfl,rfl⟩:=h;exact⟨fun _ h=>absurd h (by simp),fun k hk=>by simp[qn]at hk⟩
 |true=>
  rw[if_pos rfl]at h;have hg:=Se (C:=C) (o:=o) (ρ:=Eng.ev s) (ob:=s.objs) hs.ev hs.objs;generalize xw C o (Eng.ev s) s.objs=r at *;cases r with
  |fail=>exact h.elim
  |ok v up=>obtain⟨rfl,rfl⟩:=h;exact hg
  |cond c v up=>obtain⟨_,rfl,rfl⟩:=h;exact hg
  |look z row off ag=>obtain⟨ds,_,rfl,rfl⟩:=h;exact⟨fun _ h=>absurd h (by simp),fun k hk=>by cases ag<;>simp[qn]at hk⟩
  |call f as sh up=>obtain⟨rs,_,_,rfl,rfl⟩:=h;exact⟨hg,fun k hk=>by rw[yj]at hk;simp at hk⟩
theorem WF.put [EffOk C] {o:Oper} {s:St} {v:V} {up:List (Nat×Obj)} (hs:WF s) (h:Stp C Gv ops o s v up):WF (s.put o.dst v up):=by
 obtain⟨hu,hv⟩:=h.good hs;have a4:∀p∈up,p.2≠ .none:=fun p hp=>(hu p hp).2.1
 have a5:∀v,VOk s.objs up v→∀k∈qn v,nth .none (upds s.objs up) k≠ .none:=fun v hv k hk=>by
  rcases hv k hk with h1|⟨h1,h2⟩
  ·exact zN a4 h1
  ·exact JZ a4 (qN h1).2 h2
 have hvk:=a5 v hv;refine⟨fun u hu' k hk=>?_,fun k u hu' j hj=>?_⟩
 ·have a3:u∈s.tmps→nth .none (upds s.objs up) k≠ .none:=fun h1=>zN a4 (hs.tmps u h1 k hk)
  simp only[J3]at hu';cases hd:o.dst with
  |none=>rw[hd]at hu';exact a3 hu'
  |some t=>
   rw[hd]at hu';rcases xU hu' with h1|rfl
   ·exact a3 h1
   ·exact hvk k hk
 ·change nth .none (upds s.objs up) j≠ .none;change u∈qW (nth .none (upds s.objs up) k)at hu';rcases QZ k up s.objs with h1|⟨h1,_⟩|⟨p,hp,_,h2⟩
  ·rw[h1]at hu';exact zN a4 (hs.objs k u hu' j hj)
  ·rw[h1]at hu';simp[qW]at hu'
  ·rw[h2]at hu';exact a5 u ((hu p hp).2.2 u hu') j hj
theorem ze {n:Nat}:∀{l:List Nat},XR n l=true↔n∈l
 |[]=>by simp[XR]
 |m::r=>by
  unfold XR;split
  ·rename_i h;have:=bh h;simp[this]
  ·rename_i h;have:n≠m:=fun e=>by subst e;simp at h
   rw[ze];simp[this]
theorem wj {a l:List Nat} (h:Eg a l=true):∀x∈a,x∉l:=by
 induction a with
 |nil=>intro x hx;simp at hx
 |cons y r ih=>
  simp only[Eg,Hv,I0]at h;intro x hx;rcases Ls.1 hx with rfl|hx
  ·intro hm;rw[ze.2 hm]at h;simp at h
  ·exact ih h.2 x hx
def iu (ra rb:Rec):Prop:=(∀k∈ra.2,k∉rb.1)∧(∀k∈rb.2,k∉ra.1)∧(∀k∈ra.2,k∉rb.2)
structure Free (C:Cx) (ops:Array Oper) (a b:Oper) (ra rb:Rec):Prop where
 dd:∀d,d∈RH C a→d∉RH C b
 al:∀d,a.dst=some d→ .tmp d∉b.op.operands.toList
 ag:∀d,a.dst=some d→∀j w,b.guard=some (j,w)→Qg ops j≠some d
 bl:∀d,b.dst=some d→ .tmp d∉a.op.operands.toList
 bg:∀d,b.dst=some d→∀j w,a.guard=some (j,w)→Qg ops j≠some d
 cl:(cls C a=0∨cls C b=0∨(cls C a=1∧cls C b=1))∨iu ra rb
theorem Free.symm {a b:Oper} {ra rb:Rec} (h:Free C ops a b ra rb):Free C ops b a rb ra:=
 ⟨fun d h1 h2=>h.dd d h2 h1,h.bl,h.bg,h.al,h.ag,by
  rcases h.cl with(h|h|h)|h
  ·exact .inl (.inr (.inl h))
  ·exact .inl (.inl h)
  ·exact .inl (.inr (.inr ⟨h.2,h.1⟩))
  ·exact .inr ⟨h.2.1,h.1,fun k hk hk'=>h.2.2 k hk' hk⟩⟩
theorem MR {a b:Oper} {ra rb:Rec} (h:Eh C ops.toList a b=true) (hc:(cls C a=0∨cls C b=0∨(cls C a=1∧cls C b=1))∨iu ra rb):Free C ops a b ra rb:=by
 simp only[Eh,Hv]at h;obtain⟨⟨h1,h2⟩,h3⟩:=h;have dl:∀{o:Oper} {d:Nat},o.dst=some d→d∈nY o:=fun{o} {d} h=>by simp[nY,h]
 have lo:∀{o:Oper} {d:Nat},.tmp d∈o.op.operands.toList→d∈Ef ops.toList o:=fun{o} {d} h=>
  List.mem_append_left _ (M2.2 ⟨_,h,by simp[Ib]⟩)
 have lg:∀{o:Oper} {d:Nat} {j:Nat} {w:Bool},o.guard=some (j,w)→Qg ops j=some d→d∈Ef ops.toList o:=fun{o} {d} {j} {w} h hg=>by
  refine M0 _ ?_;rw[h];unfold Qg at hg;split at hg
  ·rename_i g hj;have:nth default ops.toList j=g:=by rw[qI];simp[hj]
   dsimp only
   rw[this,hg];simp
  ·simp at hg
 exact⟨fun d ha hb=>wj h1 d ha hb,fun d ha hb=>wj h2 d (dl ha) (lo hb),fun d ha j w hg ht=>wj h2 d (dl ha) (lg hg ht),fun d hb ha=>wj h3 d (dl hb) (lo ha),
  fun d hb j w hg ht=>wj h3 d (dl hb) (lg hg ht),hc⟩
theorem MS {a b:Oper} (h:Ei C a b=true):cls C a=0∨cls C b=0∨(cls C a=1∧cls C b=1):=by
 simp only[Ei,Hy,Hv]at h;rcases h with(h4|h4)|h4
 ·exact .inl (bh h4)
 ·exact .inr (.inl (bh h4))
 ·exact .inr (.inr ⟨bh h4.1,bh h4.2⟩)
theorem E3 {a b:Oper} {ra rb:Rec} (h:aw C ops.toList a b=true):Free C ops a b ra rb:=by
 simp only[aw,Hv]at h;exact MR h.1 (.inl (MS h.2))
theorem Sg {a b:Oper} {ra rb:Rec} (h:RI C ops.toList a b ra rb=true):Free C ops a b ra rb:=by
 simp only[RI,Hv,Hy]at h;refine MR h.1 ?_;rcases h.2 with h|h
 ·exact .inl (MS h)
 ·simp only[hI,Hv]at h;exact .inr ⟨wj h.1.1,wj h.1.2,wj h.2⟩
theorem Ii {s:St} {dst:Option Nat} {v:V} {up:List (Nat×Obj)} {x:Operand} (h:∀d,dst=some d→x≠ .tmp d):ev (s.put dst v up) x=ev s x:=by
 cases x with
 |tmp t=>
  simp only[ev,J3];cases dst with
  |none=>rfl
  |some d=>exact congrArg un (qe _ _ _ fun e=>h d rfl (by rw[e]))
 |_=>rfl
theorem MT {a b:Oper} {ra rb:Rec} {s:St} {va:V} {ua:List (Nat×Obj)} (hf:Free C ops a b ra rb):T0 (ev (s.put a.dst va ua)) b.op.operands.toList=T0 (ev s) b.op.operands.toList:=by
 have hev:∀x∈b.op.operands.toList,ev (s.put a.dst va ua) x=ev s x:=fun x hx=>Ii fun d hd hxd=>hf.al d hd (hxd▸hx)
 have:∀l:List Operand,(∀x∈l,ev (s.put a.dst va ua) x=ev s x)→T0 (ev (s.put a.dst va ua)) l=T0 (ev s) l:=by
  intro l
  induction l with
  |nil=>intro _;rfl
  |cons x l ih=>intro h;simp only[T0];rw[h x (by simp),ih fun y hy=>h y (by simp[hy])]
 exact this _ hev
theorem XW {b:Oper} {s:St} (hs:WF s):∀k∈T0 (ev s) b.op.operands.toList,nth .none s.objs k≠ .none:=fun k hk=>by
 rw[XV]at hk;obtain⟨x,_,hx⟩:=M2.1 hk;exact hs.ev x k hx
theorem Ka {ob ob':List Obj}:∀{l:List Nat},(∀k∈l,nth .none ob k=nth .none ob' k∨∃s es fz s' es' fz',nth .none ob k= .arr s es fz∧nth .none ob' k= .arr s' es' fz')→GO ob l=GO ob' l
 |[],_=>rfl
 |k::r,h=>by
  simp only[GO];rw[Ka fun j hj=>h j (by simp[hj])];rcases h k (by simp)with h1|⟨s,es,fz,s',es',fz',h1,h2⟩
  ·rw[h1]
  ·rw[h1,h2]
theorem Kb {ob ob':List Obj}:∀{l:List Nat},(∀k∈l,nth .none ob k=nth .none ob' k∨∃s es fz s' es' fz',nth .none ob k= .arr s es fz∧nth .none ob' k= .arr s' es' fz')→vY ob l=vY ob' l
 |[],_=>rfl
 |k::r,h=>by
  simp only[vY];rw[Kb fun j hj=>h j (by simp[hj])];rcases h k (by simp)with h1|⟨s,es,fz,s',es',fz',h1,h2⟩
  ·rw[h1]
  ·rw[h1,h2]
theorem Sh {o:Oper} {ρ:Operand→V} {ob:List Obj}:∀k∈T0 ρ o.op.operands.toList,k∈opk o ρ ob:=fun k hk=>by
 unfold opk;split
 ·exact qE.2 ⟨k,hk,.inl rfl⟩
 ·exact QV.2 ⟨k,hk,.inl rfl⟩
theorem Si [EffOk C] {a b:Oper} {ra rb:Rec} {s:St} {va:V} {ua:List (Nat×Obj)} (hs:WF s) (hf:Free C ops a b ra rb) (ha:Stp C Gv ops a s va ua) (hra:∀p∈ua,p.1∈ra.2) (hb0:cls C b≠0) (hrl:∀k∈T0 (ev s) b.op.operands.toList,k∈rb.1):
 opk b (ev (s.put a.dst va ua)) (s.put a.dst va ua).objs=opk b (ev s) s.objs:=by
 have a4:∀k∈T0 (ev s) b.op.operands.toList,nth .none (upds s.objs ua) k=nth .none s.objs k∨∃sz es fz s' es' fz',nth .none (upds s.objs ua) k= .arr sz es fz∧nth .none s.objs k= .arr s' es' fz':=?_
 ·unfold opk;rw[MT hf];split
  ·exact Kb a4
  ·exact Ka a4
 obtain⟨hu,_⟩:=ha.good hs;intro k hk;have a3:=XW hs k hk;change nth .none (upds s.objs ua) k=_∨_;rcases QZ k ua s.objs with h1|⟨_,h1⟩|⟨p,hp,rfl,h2⟩
 ·exact .inl h1
 ·exact absurd h1 a3
 ·rcases(hu p hp).1 with⟨_,h3⟩|⟨_,h3,_,h4⟩
  ·exact absurd (qN h3).1 a3
  ·rcases hf.cl with(h|h|h)|h
   ·exact absurd h h3
   ·exact absurd h hb0
   ·obtain⟨sz,es,fz,h5,h6⟩:=h4 (by omega);exact .inr ⟨_,_,_,_,_,_,h2.trans h6,h5⟩
   ·exact absurd (hrl _ hk) (h.1 _ (hra p hp))
theorem Stp.indep [EffOk C] {a b:Oper} {ra rb:Rec} {s:St} {va vb:V} {ua ub:List (Nat×Obj)} (hs:WF s) (hf:Free C ops a b ra rb) (ha:Stp C Gv ops a s va ua) (hra:∀p∈ua,p.1∈ra.2) (hrb:cls C b≠0→∀k∈opk b (ev s) s.objs,k∈rb.1):
 Stp C Gv ops b (s.put a.dst va ua) vb ub↔Stp C Gv ops b s vb ub:=by
 obtain⟨hu,_⟩:=ha.good hs;have hev:∀x∈b.op.operands.toList,ev (s.put a.dst va ua) x=ev s x:=fun x hx=>Ii fun d hd hxd=>hf.al d hd (hxd▸hx)
 have hw:∀c,Xa ops b (s.put a.dst va ua).tmps c↔Xa ops b s.tmps c:=fun c=>by
  unfold Xa;split
  ·exact Iff.rfl
  ·rename_i j a4 hg;have:∀t,Qg ops j=some t→nth .any (s.put a.dst va ua).tmps t=nth .any s.tmps t:=fun t ht=>by
    simp only[J3];cases hd:a.dst with
    |none=>rfl
    |some d=>exact qe _ _ _ fun e=>hf.ag d hd j a4 hg (by rw[ht,e])
   constructor
   ·rintro⟨t,h1,h2⟩;exact⟨t,h1,by rw[←this t h1];exact h2⟩
   ·rintro⟨t,h1,h2⟩;exact⟨t,h1,by rw[this t h1];exact h2⟩
 have hop:xw C b (ev (s.put a.dst va ua)) (s.put a.dst va ua).objs=xw C b (ev s) s.objs:=by
  rw[Pi hev];refine Eq.symm (aQ ?_ fun d hd=>?_)
  ·by_cases hb:cls C b=0
   ·exact .inl hb
   ·refine .inr fun k hk=>?_
    have a3:nth .none s.objs k≠ .none:=by
     unfold opk at hk;split at hk
     ·obtain⟨j,h1,h2⟩:=qE.1 hk;rcases h2 with rfl|⟨q,hq,h2⟩
      ·exact XW hs k h1
      ·exact hs.objs j q hq k h2
     ·obtain⟨j,h1,h2⟩:=QV.1 hk;rcases h2 with rfl|⟨T,q,hq,h2⟩
      ·exact XW hs k h1
      ·exact hs.objs j q (by rw[hq];simp[qW]) k h2
    refine Ag.symm ?_;change Ag _ (nth .none (upds s.objs ua) k) _;rcases QZ k ua s.objs with h1|⟨_,h1⟩|⟨p,hp,rfl,h2⟩
    ·exact .inl h1
    ·exact absurd h1 a3
    ·rcases(hu p hp).1 with⟨_,h3⟩|⟨_,h3,_,h4⟩
     ·exact absurd (qN h3).1 a3
     ·have hca:cls C a=1∧cls C b=1:=by
       rcases hf.cl with(h|h|h)|h
       ·exact absurd h h3
       ·exact absurd h hb
       ·exact h
       ·exact absurd (hrb hb _ hk) (h.1 _ (hra p hp))
      obtain⟨sz,es,fz,h5,h6⟩:=h4 (by omega);exact .inr ⟨by omega,sz,es,true,fz,by rw[h2,h6],h5⟩
  ·refine Eq.symm ?_;have hne:∀p∈ua,p.2≠ .none:=fun p hp=>(hu p hp).2.1
   change qA (upds s.objs ua) d=_;by_cases hex:∃p∈ua,p.1=d
   ·obtain⟨p,hp,rfl⟩:=hex;rcases(hu p hp).1 with⟨h3,_⟩|⟨_,_,h3,_⟩
    ·exact absurd hd (hf.dd _ h3)
    ·have h4:=zN hne h3;have a5:∀{ob:List Obj} {d:Nat},nth .none ob d≠ .none→qA ob d=false:=fun{ob} {d} h=>by
      cases hfk:qA ob d
      ·rfl
      ·exact absurd (qN hfk).1 h
     rw[a5 h3,a5 h4]
   ·have:nth .none (upds s.objs ua) d=nth .none s.objs d:=zX _ _ fun p hp e=>hex ⟨p,hp,e⟩
    have hl:=kv ua s.objs;unfold qA;by_cases hlt:d<s.objs.length
    ·rw[qo _ hlt,qo _ (by rw[hl];exact hlt)];rw[qo _ hlt,qo _ (by rw[hl];exact hlt)]at this;rw[this]
    ·rw[qJ (l:=upds s.objs ua) _ (by rw[hl];exact bv.1 hlt),qJ (l:=s.objs) _ (bv.1 hlt)]
 unfold Stp;rw[hop];constructor
 ·rintro⟨c,h1,h2⟩;exact⟨c,(hw c).1 h1,h2⟩
 ·rintro⟨c,h1,h2⟩;exact⟨c,(hw c).2 h1,h2⟩
theorem Stp.swap [EffOk C] {a b:Oper} {ra rb:Rec} {s:St} {va vb:V} {ua ub:List (Nat×Obj)} (hs:WF s) (hf:Free C ops a b ra rb) (ha:Stp C Gv ops a s va ua) (hra:RecOk C a s ua ra) (hb:Stp C Gv ops b (s.put a.dst va ua) vb ub) (hrb:RecOk C b (s.put a.dst va ua) ub rb):
 (Stp C Gv ops b s vb ub∧RecOk C b s ub rb)∧(Stp C Gv ops a (s.put b.dst vb ub) va ua∧RecOk C a (s.put b.dst vb ub) ua ra)∧((s.put a.dst va ua).put b.dst vb ub).tmps=((s.put b.dst vb ub).put a.dst va ua).tmps∧
  ((s.put a.dst va ua).put b.dst vb ub).objs=((s.put b.dst vb ub).put a.dst va ua).objs:=by
 have a3:RecOk C b s ub rb:=⟨fun hb0=>by
  have hl:∀k∈T0 (ev s) b.op.operands.toList,k∈rb.1:=fun k hk=>hrb.reads hb0 k (by
   exact Sh k (by rw[MT hf];exact hk))
  rw[←Si hs hf ha hra.ups hb0 hl];exact hrb.reads hb0,hrb.ups⟩
 have a4:=(ha.indep hs hf hra.ups a3.reads).1 hb;refine⟨⟨a4,a3⟩,⟨(a4.indep hs hf.symm hrb.ups hra.reads).2 ha,fun ha0=>by
  rw[Si hs hf.symm a4 hrb.ups ha0 fun k hk=>hra.reads ha0 k (Sh k hk)];exact hra.reads ha0,hra.ups⟩,?_,?_⟩
 ·simp only[J3];cases hda:a.dst with
  |none=>rfl
  |some d=>
   cases hdb:b.dst with
   |none=>rfl
   |some e=>exact yN _ _ _ _ _ (.inl fun he=>hf.dd d (QW hda) (QW (by rw[hdb,he])))
 ·simp only[J3];refine He _ _ _ fun p hp q hq hpq=>?_
  have hp':=((ha.good hs).1 p hp).1;have a5:=((a4.good hs).1 q hq).1;rcases hp' with⟨h1,h2⟩|⟨_,h1,h2,h3⟩
  ·rcases a5 with⟨h4,h5⟩|⟨_,_,h4,_⟩
   ·exact absurd (hpq▸h4) (hf.dd _ h1)
   ·rw[hpq]at h4;exact absurd (qN h2).1 h4
  ·rcases a5 with⟨h4,h5⟩|⟨_,h4,_,h6⟩
   ·rw[hpq]at h5;exact absurd (qN h5).1 h2
   ·have hca:cls C a=1∧cls C b=1:=by
     rcases hf.cl with(h|h|h)|h
     ·exact absurd h h1
     ·exact absurd h h4
     ·exact h
     ·exact absurd (hpq▸hrb.ups q hq) (h.2.2 _ (hra.ups p hp))
    obtain⟨sz,es,fz,h7,h8⟩:=h3 (by omega);obtain⟨sz',es',fz',h9,h10⟩:=h6 (by omega);rw[hpq,h7]at h9;simp only[I2]at h9;obtain⟨rfl,rfl,_⟩:=h9;rw[h8,h10]
theorem Tr.front [EffOk C] {rc:Nat→Rec} {i:Nat} {o:Oper} (ho:ops[i]? =some o):∀{pre post:List Nat} {s e:St},WF s→(∀j∈pre,∀b,ops[j]? =some b→Free C ops b o (rc j) (rc i))→Tr C Gv ops rc (pre++i::post) s e→Tr C Gv ops rc (i::(pre++post)) s e
 |[],post,s,e,_,_,h=>h
 |j::pre,post,s,e,hs,hf,h=>by
  obtain⟨b,hb,vb,ub,h1,hr1,h2⟩:=h;obtain⟨o',ho',v,up,h3,hr3,h4⟩:=Tr.front ho (hs.put h1) (fun j' hj'=>hf j' (by simp[hj'])) h2;obtain rfl:o=o':=by rw[ho]at ho';exact cp ho'
  obtain⟨h5,h6,h7,h8⟩:=h1.swap hs (hf j (by simp) b hb) hr1 h3 hr3;exact⟨o,ho,v,up,h5.1,h5.2,b,hb,vb,ub,h6.1,h6.2,h4.same h7 h8⟩
end
end Eng
end
section
namespace Eng
open Go Go.RowKit
section
variable {C:Cx} {B:Bd} {F0:Nat→Prop} {w0:World} {ops:Array Oper} {Q:Exit→Act→World→Prop}
theorem xt {s s':St} {a:Act} {w:World} (h:I3 C B F0 w0 s a w) (h1:s.tmps=s'.tmps) (h2:s.objs=s'.objs):I3 C B F0 w0 s' a w:=by
 obtain⟨F,loc,h⟩:=h;obtain⟨t,o,d⟩:=s;obtain⟨t',o',d'⟩:=s';subst h1 h2;exact⟨F,loc,h.redirty⟩
theorem Sj {o:Oper} {s:St} {a:Act} {w:World} {F:Nat→Prop} {loc:Where} {b:Bool} (h:Conc C B F0 w0 F loc s a w) (hw:Xa ops o s.tmps b):Lm o (yielded ops a.tmps)=b:=by
 unfold Xa at hw;unfold Lm;split at hw
 ·rename_i hg;rw[hg];exact hw.symm
 ·rename_i j a5 hg;obtain⟨t,h1,hw⟩:=hw;rw[hg];rcases hw with⟨c,h2,rfl⟩|⟨h2,rfl⟩
  rotate_left
  ·have ht:t<s.tmps.length:=by
    rcases be t s.tmps.length with h|h
    ·exact h
    ·rw[qJ _ h]at h2;simp at h2
   have hv:=h.tmps.nth .any undef _ _ t ht;rw[h2,Jc]at hv;have a3:a.tmps.getD t undef=undef:=hv;have a4:t<a.tmps.size:=by have:=h.tmps.length;simpa [this]using ht
   have hy:yielded ops a.tmps j=none:=by
    unfold yielded;unfold Qg at h1;split at h1
    ·rename_i g hj;have:a.tmps[t]? =some undef:=by rw[F2 a4];simp[Bx,a4]at a3;rw[a3]
     simp[hj,h1,this,undef]
    ·simp at h1
   dsimp only
   rw[hy];cases a5<;>rfl
  have ht:t<s.tmps.length:=by
   rcases be t s.tmps.length with h|h
   ·exact h
   ·rw[qJ _ h]at h2;simp at h2
  have hv:=h.tmps.nth .any undef _ _ t ht;rw[h2,Jc]at hv;have a3:a.tmps.getD t undef= .bool c:=(fun(x:Value) (hx:CD w F (.bool c) x)=>(by cases hx;rfl:x= .bool c)) _ hv;have a4:t<a.tmps.size:=by have:=h.tmps.length;simpa [this]using ht
  have hy:yielded ops a.tmps j=some c:=by
   unfold yielded;unfold Qg at h1;split at h1
   ·rename_i g hj;have:a.tmps[t]? =some (.bool c):=by rw[F2 a4];simp[Bx,a4]at a3;rw[a3]
    simp[hj,h1,this]
   ·simp at h1
  dsimp only
  rw[hy];cases c<;>cases a5<;>rfl
theorem Stp.wp [EffOk C] {o:Oper} {i:Nat} {s:St} {a:Act} {w:World} {v:V} {up:List (Nat×Obj)} {K:Act→World→Prop} (ho:ops[i]? =some o) (h:I3 C B F0 w0 s a w) (hs:Stp C (qc C) ops o s v up)
 (hK:∀a' w',I3 C B F0 w0 (s.put o.dst v up) a' w'→K a' w'):wpOp C.P ops Q i K a w:=by
 obtain⟨F,loc,h⟩:=h;obtain⟨b,hw,hs⟩:=hs;unfold wpOp;rw[ho]
 dsimp only
 rw[Sj h hw];cases b with
 |false=>obtain⟨rfl,rfl⟩:=hs;rw[if_neg (by simp)];exact hK _ _ ⟨F,loc,h.pure (v:= .no) rfl trivial⟩
 |true=>
  rw[if_pos rfl]at hs ⊢;refine .inl ?_;have hr:=tq (o:=o) h;generalize xw C o (ev s) s.objs=r at *;cases r with
  |fail=>exact hs.elim
  |ok v up=>obtain⟨rfl,rfl⟩:=hs;exact hr K Q hK
  |cond c v up=>obtain⟨hc,rfl,rfl⟩:=hs;exact hr hc K Q hK
  |look z row off ag=>obtain⟨ds,hc,rfl,rfl⟩:=hs;exact hr ds hc K Q hK
  |call f as sh up=>obtain⟨rs,h1,h2,rfl,rfl⟩:=hs;exact hr rs h1 h2 K Q hK
theorem iv {s:St} {a:Act} {w:World} (h:I3 C B F0 w0 s a w):WF s:=by
 obtain⟨F,loc,h⟩:=h;have hk:∀v,Ref s.objs v→∀k∈qn v,nth .none s.objs k≠ .none:=fun v hv k hk=>by
  cases v<;>simp only[qn,Lr,W2]at hk<;>first|(subst hk;exact hv)|exact hv k hk
 refine⟨fun v hv=>hk v (h.refs v hv),fun k u hu=>hk u ?_⟩;have:=h.objs k;cases hc:nth .none s.objs k with
 |box cells=>rw[hc]at this hu;obtain⟨_,_,_,_,_,_,_,_,h5⟩:=this;exact h5 u hu
 |vec cells=>rw[hc]at this hu;obtain⟨_,_,_,_,_,_,_,_,_,_,h5,_⟩:=this;exact h5 u hu
 |bld T q=>rw[hc]at this hu;obtain⟨_,_,_,_,_,_,_,_,_,h5⟩:=this;simp[qW]at hu;subst hu;exact h5.1
 |_=>rw[hc]at hu;simp[qW]at hu
theorem MU [EffOk C] {rc:Nat→Rec}:∀{l:List Nat} {s e:St} {a:Act} {w:World},Tr C (qc C) ops rc l s e→I3 C B F0 w0 s a w→(∀a w,I3 C B F0 w0 e a w→Q .normal a w)→wpOps C.P ops Q l a w
 |[],s,e,a,w,ht,h,hQ=>hQ a w (xt h ht.1 ht.2)
 |i::l,s,e,a,w,ht,h,hQ=>by obtain⟨o,ho,v,up,h1,_,h2⟩:=ht;rw[wpOps_cons];exact h1.wp ho h fun a' w' h'=>MU h2 h' hQ
theorem Kc (m j:Nat):MD m j=m.testBit j:=by
 unfold MD;rw[Bool.eq_iff_iff,Nat.beq_eq];show(m>>>j)&&&1=1↔_;rw[Nat.testBit,Nat.and_comm,Nat.one_and_eq_mod_two,bne_iff_ne];omega
theorem Ij:∀(l:List Oper) (acc:List Nat),∃ext,anc l acc=acc++ext∧ext.length=l.length∧∀i o,l[i]? =some o→nth 0 ext i=Qh o.after.toList (acc++ext.take i)
 |[],acc=>⟨[],by simp[anc],rfl,fun i o h=>by simp at h⟩
 |o::l,acc=>by
  obtain⟨ext,h1,h2,h3⟩:=Ij l (acc++[Qh o.after.toList acc]);refine⟨Qh o.after.toList acc::ext,by simp only[anc];rw[h1,W1];rfl,by simp[h2],fun i p hi=>?_⟩;cases i with
  |zero=>simp only[M3,cg]at hi;subst hi;simp[nth]
  |succ i=>simp only[No]at hi;have:=h3 i p hi;simp only[nth,List.take_succ_cons];rw[this,W1];rfl
theorem Kd {acc:List Nat} {j:Nat}:∀{es:List Edge},MD (Qh es acc) j=true→∃e∈es,J9 .any e=true∧(j=e.on∨MD (nth 0 acc e.on) j=true)
 |[],h=>by rw[Kc]at h;simp[Qh]at h
 |e::r,h=>by
  simp only[Qh]at h;split at h
  ·rename_i hb;have h:MD ((2^e.on|||nth 0 acc e.on)|||Qh r acc) j=true:=h;rw[Kc,ca,ca,Nat.testBit_two_pow,Hy,Hy,decide_eq_true_eq,←Kc,←Kc]at h;rcases h with(h|h)|h
   ·exact⟨e,by simp,hb,.inl h.symm⟩
   ·exact⟨e,by simp,hb,.inr h⟩
   ·obtain⟨e',h1,h2,h3⟩:=Kd h;exact⟨e',by simp[h1],h2,h3⟩
  ·obtain⟨e',h1,h2,h3⟩:=Kd h;exact⟨e',by simp[h1],h2,h3⟩
theorem iw {i j:Nat} {o:Oper} {l:List Oper} (ho:l[i]? =some o) (h:MD (nth 0 (anc l []) i) j=true):∃e∈o.after.toList,J9 .any e=true∧(j=e.on∨MD (nth 0 (anc l []) e.on) j=true):=by
 obtain⟨ext,h1,h2,h3⟩:=Ij l [];simp only[List.nil_append]at h1 h3;rw[h1]at h ⊢;rw[h3 i o ho]at h;obtain⟨e,h4,h5,h6⟩:=Kd h;refine⟨e,h4,h5,h6.imp_right fun h6=>?_⟩;by_cases he:e.on<(ext.take i).length
 ·rw[qo _ he]at h6;have hlt:e.on<ext.length:=by simp at he;omega
  rw[qo _ hlt]
  simpa using h6
 ·rw[qJ _ (bv.1 he),Kc]at h6;simp at h6
structure ROk (C:Cx) (ops:Array Oper) (rc:Nat→Rec):Prop where
 free:∀i o,ops[i]? =some o→∀j b,j<i→ops[j]? =some b→MD (nth 0 (anc ops.toList []) i) j=true∨Free C ops b o (rc j) (rc i)
 back:∀i o,ops[i]? =some o→∀e∈o.after.toList,J9 .any e=true→e.on<i
theorem Ym {i:Nat}:∀{es:List Edge},Tz es i=true→∀e∈es,J9 .any e=true→e.on<i
 |[],_,e,he,_=>by simp at he
 |e'::r,h,e,he,hb=>by
  simp only[Tz,Hv]at h;rcases Ls.1 he with rfl|he
  ·have:=h.1;rw[hb]at this
   simpa [b9]using this
  ·exact Ym h.2 e he hb
theorem Va {o:Oper} {an:Nat}:∀{l:List Oper} {j:Nat},JF C ops.toList o an l j=true→∀k b,l[k]? =some b→MD an (j+k)=true∨∀rb ro,Free C ops b o rb ro
 |[],_,_,k,b,hb=>by simp at hb
 |b'::r,j,h,k,b,hb=>by
  simp only[JF,Hv,Hy]at h;cases k with
  |zero=>
   simp only[M3,cg]at hb;subst hb;rcases h.1 with h1|h1
   ·exact .inl h1
   ·exact .inr fun rb ro=>E3 h1
  |succ k=>
   simp only[No]at hb;have:=Va h.2 k b hb
   rwa [bw,bx 1 k]at this
theorem Ke {an:List Nat} {all:List Oper}:∀{l:List Oper} {k:Nat},yJ C all an l k=true→∀i o,l[i]? =some o→JF C all o (nth 0 an (k+i)) (all.take (k+i)) 0=true∧Tz o.after.toList (k+i)=true
 |[],_,_,i,o,h=>by simp at h
 |o'::r,k,h,i,o,ho=>by
  simp only[yJ,Hv]at h;cases i with
  |zero=>simp only[M3,cg]at ho;subst ho;exact h.1
  |succ i=>
   simp only[No]at ho;have:=Ke h.2 i o ho
   rwa [bw,bx 1 i]at this
theorem Kf (rc:Nat→Rec) (h:yK C ops.toList=true):ROk C ops rc:=by
 have hg:=fun i o (ho:ops[i]? =some o)=>Ke (k:=0) h i o (by simpa using ho)
 simp only[bm]at hg;refine⟨fun i o ho j b hj hb=>?_,fun i o ho=>Ym (hg i o ho).2⟩;have:=Va (hg i o ho).1 j b (by rw[U0 hj];simpa using hb);rw[bm]at this;exact this.imp_right fun h=>h _ _
theorem Kg {o:Oper} {ro:Rec} {an:Nat}:∀{l:List Oper} {rs:List Rec} {j:Nat},QM C ops.toList o ro an l rs j=true→∀k b,l[k]? =some b→MD an (j+k)=true∨Free C ops b o (nth ([],[]) rs k) ro
 |[],_,_,_,k,b,hb=>by simp at hb
 |b'::r,rs,j,h,k,b,hb=>by
  simp only[QM,Hv,Hy]at h;cases k with
  |zero=>
   simp only[M3,cg]at hb;subst hb;rcases h.1 with h1|h1
   ·exact .inl h1
   ·exact .inr (Sg h1)
  |succ k=>
   simp only[No]at hb;have:=Kg h.2 k b hb;rw[bw,bx 1 k]at this;refine this.imp_right fun h=>?_
   have e:nth ([],[]) (rs.drop 1) k=nth ([],[]) rs (k+1):=by rw[qI,qI];simp
   rwa [e]at h
theorem ZD {an:List Nat} {all:List Oper} {recs:List Rec}:∀{l:List Oper} {k:Nat},vh C all recs an l k=true→∀i o,l[i]? =some o→QM C all o (nth ([],[]) recs (k+i)) (nth 0 an (k+i)) (all.take (k+i)) recs 0=true∧Tz o.after.toList (k+i)=true
 |[],_,_,i,o,h=>by simp at h
 |o'::r,k,h,i,o,ho=>by
  simp only[vh,Hv]at h;cases i with
  |zero=>simp only[M3,cg]at ho;subst ho;exact h.1
  |succ i=>
   simp only[No]at ho;have:=ZD h.2 i o ho
   rwa [bw,bx 1 i]at this
theorem ZE {recs:List Rec} (h:ye C ops.toList recs=true):ROk C ops (fun i=>nth ([],[]) recs i):=by
 have hg:=fun i o (ho:ops[i]? =some o)=>ZD (k:=0) h i o (by simpa using ho)
 simp only[bm]at hg;refine⟨fun i o ho j b hj hb=>?_,fun i o ho=>Ym (hg i o ho).2⟩;have:=Kg (hg i o ho).1 j b (by rw[U0 hj];simpa using hb)
 rwa [bm]at this
theorem E4 [EffOk C] {rc:Nat→Rec} (hr:ROk C ops rc):∀{rem:List Nat} {listed:Array Bool} {s e:St} {a:Act} {w:World},Tr C (qc C) ops rc rem s e→I3 C B F0 w0 s a w→(∀a w,I3 C B F0 w0 e a w→Q .normal a w)→
 rem.Pairwise (· < ·)→listed.size=ops.size→(∀i,i∈rem↔i<ops.size∧listed.getD i true=false)→(∀i,i<ops.size→listed.getD i true=true→∀j,MD (nth 0 (anc ops.toList []) i) j=true→listed.getD j false=true)→
 wpAny C.P .any ops Q rem.length listed a w:=by
 intro rem;generalize hn:rem.length=n
 induction n generalizing rem with
 |zero=>intro listed s e a w ht h hQ a5 b7 a3 b2;have a7:rem=[]:=List.eq_nil_of_length_eq_zero hn;subst a7;refine⟨?_,hQ a w (xt h ht.1 ht.2)⟩;apply List.eq_nil_iff_forall_not_mem.2;intro i hi;obtain⟨h0,o,ho,_⟩:=mem_ready.1 hi;have:=(a3 i).2 ⟨(Dd.1 ho).1,h0⟩;simp at this
 |succ n ih=>
  intro listed s e a w ht h hQ a5 b7 a3 b2;have a4:∀j,j<listed.size→listed.getD j true=listed.getD j false:=fun j hj=>by simp[Bx,hj]
  refine⟨fun a7=>?_,fun i hi=>?_⟩
  ·cases rem with
   |nil=>simp at hn
   |cons i r=>
    exfalso;have hi:=(a3 i).1 (by simp);obtain⟨o,ho,_⟩:=ht;have:i∈Region.ready .any ops listed:=by
     refine mem_ready.2 ⟨hi.2,o,ho,fun e he hb=>?_⟩;have b3:=hr.back i o ho e (by simpa using he) hb;cases hl:listed.getD e.on true with
     |true=>rw[←a4 _ (by omega)];exact hl
     |false=>
      have:=(a3 e.on).2 ⟨by omega,hl⟩;rcases Ls.1 this with h1|h1
      ·omega
      ·have:=T1 a5 h1;omega
    rw[a7]at this;simp at this
  ·obtain⟨h0,o,ho,b1⟩:=mem_ready.1 hi;have al:i<ops.size:=(Dd.1 ho).1;have him:i∈rem:=(a3 i).2 ⟨al,h0⟩;obtain⟨ap,a6,rfl⟩:=List.append_of_mem him;have ad:∀j,MD (nth 0 (anc ops.toList []) i) j=true→listed.getD j false=true:=fun j hj=>by
    obtain⟨e,h1,h2,h3⟩:=iw (by simpa using ho) hj;have he:=b1 e (by simpa using h1) h2;rcases h3 with rfl|h3
    ·exact he
    ·have b3:=hr.back i o ho e h1 h2;exact b2 e.on (by omega) (by rw[a4 _ (by omega)];exact he) j h3
   have a8:=U3.1 a5;have ag:∀j∈ap,∀b,ops[j]? =some b→Free C ops b o (rc j) (rc i):=fun j hj b hb=>by
    have b3:j<i:=a8.2.2 j hj i (by simp);rcases hr.free i o ho j b b3 hb with h1|h1
    ·have h2:=ad j h1;have h3:=((a3 j).1 (by simp[hj])).2;rw[a4 j (by omega),h2]at h3;simp at h3
    ·exact h1
   obtain⟨o',b8,v,up,h1,_,h2⟩:=Tr.front ho (iv h) ag ht;obtain rfl:o=o':=by rw[ho]at b8;exact cp b8
   refine h1.wp ho h fun a' w' h'=>?_
   have b4:∀j,j∈ap++a6↔j∈ap++i::a6∧j≠i:=fun j=>by
    have b5:∀j∈ap,j≠i:=fun j hj he=>by have:=a8.2.2 j hj i (by simp);omega
    have an:∀j∈a6,j≠i:=fun j hj he=>by have:=T1 a8.2.1 hj;omega
    simp only[M1,Ls];constructor
    ·rintro(h|h)
     ·exact⟨.inl h,b5 j h⟩
     ·exact⟨.inr (.inr h),an j h⟩
    ·rintro⟨h|h|h,h'⟩
     ·exact .inl h
     ·exact absurd h h'
     ·exact .inr h
   have b6:∀j,(listed.setIfInBounds i true).getD j true=false↔listed.getD j true=false∧j≠i:=fun j=>by
    by_cases hij:i=j
    ·subst hij;simp[b7,al]
    ·rw[getD_set_ne true hij];exact⟨fun h=>⟨h,fun e=>hij e.symm⟩,fun h=>h.1⟩
   refine ih (rem:=ap++a6) (by simp at hn ⊢;omega) h2 h' hQ ?_ (by simp[b7]) (fun j=>?_) (fun k hk hlk j hj=>?_)
   ·exact U3.2 ⟨a8.1,(List.pairwise_cons.1 a8.2.1).2,fun x hx y hy=>a8.2.2 x hx y (by simp[hy])⟩
   ·rw[b4,a3,b6];exact⟨fun h=>⟨h.1.1,h.1.2,h.2⟩,fun h=>⟨⟨h.1,h.2.1⟩,h.2.2⟩⟩
   ·by_cases hki:i=k
    ·subst hki;exact getD_set_true (ad j hj)
    ·rw[getD_set_ne true hki]at hlk;exact getD_set_true (b2 k hk hlk j hj)
theorem Xb [EffOk C] {rc:Nat→Rec} {id:Nat} {draw:Bool} {s e:St} {a:Act} {w:World} (hm:C.P.follows .mixedOrders=true) (hr:draw=true→ROk C ops rc) (ht:Tr C (qc C) ops rc (List.range ops.size) s e) (h:I3 C B F0 w0 s a w)
 (hQ:∀a w,I3 C B F0 w0 e a w→Q .normal a w):(Code.region id ops draw).wp C.P Q a w:=by
 cases draw with
 |false=>exact wp_region (MU ht h hQ)
 |true=>
  refine wp_region_any hm ?_;have hd:I3 C B F0 w0 s a {w with drawn:=w.drawn+1}:=by obtain⟨F,loc,h⟩:=h;exact⟨F,loc,h.drew⟩
  have:=E4 (hr rfl) (listed:=Array.replicate ops.size false) ht hd hQ List.pairwise_lt_range (by simp) (fun i=>by
   constructor
   ·intro h;exact⟨by simpa using h,by simp[Bx,bb.1 h]⟩
   ·intro h;exact bb.2 h.1) (fun i hi h=>by simp[Bx,hi]at h)
  rwa [List.length_range]at this
end
end Eng
end
section
namespace Eng
open Go Go.RowKit
section
variable {C:Cx} {B:Bd} {F0:Nat→Prop} {w0:World} {F:Nat→Prop} {loc:Where} {st:St} {a:Act} {w:World}
theorem Hg {α β:Type} {R:α→β→Prop} (d:α) {y:α}:∀{as:List α} {bs:List β} (i:Nat),(∀b,R (nth d as i) b→R y b)→All2 R as bs→All2 R (upd as i y) bs
 |[],[],_,_,_=>trivial
 |_::_,b::_,0,h,h'=>⟨h b h'.1,h'.2⟩
 |_::as,_::bs,i+1,h,h'=>⟨h'.1,Hg (as:=as) (bs:=bs) d i h h'.2⟩
 |[],_::_,_,_,h=>h.elim
 |_::_,[],_,_,h=>h.elim
theorem Xc {α β:Type} {R R':α→β→Prop} (d:α) {y:α}:∀{as:List α} {bs:List β} (i:Nat),(∀b,R (nth d as i) b→R' y b)→All2 R as bs→All2 R' as bs→All2 R' (upd as i y) bs
 |[],[],_,_,_,_=>trivial
 |_::_,b::_,0,h,h',h''=>⟨h b h'.1,h''.2⟩
 |_::as,_::bs,i+1,h,h',h''=>⟨h''.1,Xc (as:=as) (bs:=bs) d i h h'.2 h''.2⟩
 |[],_::_,_,_,h,_=>h.elim
 |_::_,[],_,_,h,_=>h.elim
theorem Conc.weakT {t:Nat} {v:V} {d:List Nat} (h:Conc C B F0 w0 F loc st a w) (hv:∀x,CV loc st.objs w F (nth .any st.tmps t) x→CV loc st.objs w F v x) (hr:Ref st.objs v):Conc C B F0 w0 F loc ⟨upd st.tmps t v,st.objs,d⟩ a w:=
 ⟨h.prog,h.below,h.hB,h.defers,Hg .any t hv h.tmps,fun u hu=>by
  rcases xU hu with hu|rfl
  ·exact h.refs u hu
  ·exact hr,h.objs,h.inj,h.fresh,h.bound,h.fsub,h.fsup,h.inv⟩
theorem Conc.relocate {objs':List Obj} {loc':Where} {d:List Nat} (h:Conc C B F0 w0 F loc st a w) (hl:Le st.objs objs' loc loc') (hobjs:∀k,CO loc' objs' w F k (nth .none objs' k)) (hinj:∀k k' b c c',loc' k=some (b,c)→loc' k'=some (b,c')→k=k')
 (hfresh:∀k b c,loc' k=some (b,c)→Own B b∧b<w.heap.size):Conc C B F0 w0 F loc' ⟨st.tmps,objs',d⟩ a w:=
 ⟨hl.prog.trans h.prog,h.below,h.hB,h.defers,h.tmps.mono_mem fun v hv _ hx=>CV.le (fun _ h=>h) (fun _ _=>rfl) hl (h.refs v hv) hx,fun v hv=>(h.refs v hv).le hl,hobjs,hinj,hfresh,h.bound,h.fsub,h.fsup,h.inv⟩
theorem Kh {ks:List Nat} {v:V} (h:T2 ks v=false):∀k∈qn v,k∉ks:=by
 intro k hk hm;have ha:∀l:List Nat,od ks l=false→∀j∈l,XR j ks=false:=by
  intro l
  induction l with
  |nil=>intro _ j hj;simp at hj
  |cons x l ih=>
   intro h j hj;simp only[od,Hx]at h;rcases Ls.1 hj with rfl|hj
   ·exact h.1
   ·exact ih h.2 j hj
 cases v<;>simp only[qn,Lr,W2]at hk<;>first|(subst hk;simp[T2,ze.2 hm]at h;done)|(have h2:=ha _ h k hk;rw[ze.2 hm]at h2;cases h2)
theorem wK {ks:List Nat}:∀{l:List V},ZA ks l=false→∀v∈l,T2 ks v=false
 |[],_,v,hv=>by simp at hv
 |u::r,h,v,hv=>by
  simp only[ZA,Hx]at h;rcases Ls.1 hv with rfl|hv
  ·exact h.1
  ·exact wK h.2 v hv
theorem zU {ks:List Nat}:∀{l:List Obj},zK ks l=false→∀o∈l,∀u∈qW o,T2 ks u=false
 |[],_,v,hv=>by simp at hv
 |u::r,h,v,hv=>by
  intro x hx;rcases Ls.1 hv with e|hm
  ·subst e;cases v with
   |box cells=>simp only[zK,Hx]at h;exact wK h.1 x hx
   |bld T q=>simp only[zK,Hx]at h;simp[qW]at hx;subst hx;exact h.1
   |vec cells=>simp only[zK,Hx]at h;exact wK h.1 x hx
   |_=>simp[qW]at hx
  ·cases u<;>simp only[zK,Hx]at h
   ·exact zU h v hm x hx
   ·exact zU h v hm x hx
   ·exact zU h.2 v hm x hx
   ·exact zU h v hm x hx
   ·exact zU h.2 v hm x hx
   ·exact zU h.2 v hm x hx
theorem CV.keep {loc':Where} {objs objs':List Obj} {v:V} {x:Value} (hty:loc'.ty=loc.ty) (hk:∀k∈qn v,nth .none objs' k=nth .none objs k∧loc' k=loc k) (h:CV loc objs w F v x):CV loc' objs' w F v x:=by
 cases v with
 |box k off=>intro a3 hc;rw[(hk k (by simp[qn])).1]at hc;rw[(hk k (by simp[qn])).2];exact h a3 hc
 |arr k=>intro s es fz hc;rw[(hk k (by simp[qn])).1]at hc;rw[(hk k (by simp[qn])).2];exact h s es fz hc
 |elt k i off=>intro s es fz hc;rw[(hk k (by simp[qn])).1]at hc;rw[(hk k (by simp[qn])).2];exact h s es fz hc
 |sub k off len=>intro s es fz hc;rw[(hk k (by simp[qn])).1]at hc;rw[(hk k (by simp[qn])).2];exact h s es fz hc
 |arrAt k g c t=>intro s es fz hc;rw[(hk k (by simp[qn])).1]at hc;rw[(hk k (by simp[qn])).2,hty];exact h s es fz hc
 |boxAt k g=>intro o hc;rw[(hk k (by simp[qn])).1]at hc;rw[(hk k (by simp[qn])).2];exact h o hc
 |vec k n=>intro o hc;rw[(hk k (by simp[qn])).1]at hc;rw[(hk k (by simp[qn])).2];exact h o hc
 |tpo k as=>obtain⟨x,ys,rfl,h1,h2⟩:=h;refine⟨x,ys,rfl,fun s es fz hc=>?_,h2⟩;rw[(hk k (by simp[qn])).1]at hc;rw[(hk k (by simp[qn])).2];exact h1 s es fz hc
 |agv cs=>
  obtain⟨vs,rfl,h⟩:=h;refine⟨vs,rfl,h.mono_mem fun c hc y hy=>?_⟩;cases c with
  |arr k=>have hk:=hk k (xL.2 hc);refine⟨fun s es fz hc=>?_,hy.2⟩;rw[hk.1]at hc;rw[hk.2];exact hy.1 s es fz hc
  |_=>exact hy
 |_=>exact h
theorem Ref.keep {objs objs':List Obj} {v:V} (hk:∀k∈qn v,nth .none objs' k=nth .none objs k) (h:Ref objs v):Ref objs' v:=by
 cases v with
 |box k off=>intro hc;rw[hk k (by simp[qn])]at hc;exact h hc
 |arr k=>intro hc;rw[hk k (by simp[qn])]at hc;exact h hc
 |elt k i off=>intro hc;rw[hk k (by simp[qn])]at hc;exact h hc
 |sub k off len=>intro hc;rw[hk k (by simp[qn])]at hc;exact h hc
 |arrAt k g c t=>intro hc;rw[hk k (by simp[qn])]at hc;exact h hc
 |boxAt k g=>intro hc;rw[hk k (by simp[qn])]at hc;exact h hc
 |vec k n=>intro hc;rw[hk k (by simp[qn])]at hc;exact h hc
 |tpo k as=>intro hc;rw[hk k (by simp[qn])]at hc;exact h hc
 |agv cs=>intro k a3 hc;rw[hk k a3]at hc;exact h k a3 hc
 |_=>trivial
theorem CO.keep {loc':Where} {objs objs':List Obj} {k:Nat} {o:Obj} (hP:loc'.P=loc.P) (hkk:loc' k=loc k) (hty:loc'.ty=loc.ty) (hk:∀v∈qW o,∀j∈qn v,nth .none objs' j=nth .none objs j∧loc' j=loc j) (h:CO loc objs w F k o):CO loc' objs' w F k o:=by
 cases o with
 |none=>exact hkk.trans h
 |dead=>exact hkk.trans h
 |box cells=>obtain⟨b,c,cs,t,h1,h2,h3,h4,h5⟩:=h;exact⟨b,c,cs,t,by rw[hkk];exact h1,h2,h3,h4.mono_mem fun v hv x hx=>⟨CV.keep hty (hk v hv) hx.1,hx.2⟩,fun v hv=>Ref.keep (fun j hj=>(hk v hv j hj).1) (h5 v hv)⟩
 |bld T q=>obtain⟨b,c,p,v,h1,h2,h3,h4,h5,h6⟩:=h;have hq:=hk q (by simp[qW]);exact⟨b,c,p,v,by rw[hkk];exact h1,h2,h3,h4,CV.keep hty hq h5,Ref.keep (fun j hj=>(hq j hj).1) h6.1,by rw[hty,hP];exact h6.2⟩
 |vec cells=>
  obtain⟨b,c,cs,t,h1,h2,h3,h4,h5,h7,h8,h9⟩:=h;exact⟨b,c,cs,t,by rw[hkk];exact h1,h2,h3,h4,h5,fun j hj=>by
   obtain⟨x,q1,q2,q3⟩:=h7 j hj;exact⟨x,q1,CV.keep hty (hk _ (wv hj)) q2,q3⟩,fun v hv=>Ref.keep (fun j hj=>(hk v hv j hj).1) (h8 v hv),by rw[hP];exact h9.1,h9.2⟩
 |arr s es fz=>obtain⟨h1,h2,h3,h4⟩:=h;refine⟨h1,h2,h3,?_⟩;rw[hkk,hP,hty];exact h4
theorem aU {α:Type} {d:α} {l:List α} {i:Nat} (h:nth d l i≠d):nth d l i∈l:=by
 by_cases hi:i<l.length
 ·rw[qo _ hi];exact P1 hi
 ·exact absurd (qJ _ (bv.1 hi)) h
theorem Conc.forgets {ks:List Nat} {objs':List Obj} {d:List Nat} (h:Conc C B F0 w0 F loc st a w) (hin:∀k∈ks,nth .none objs' k= .none) (hout:∀k,k∉ks→nth .none objs' k=nth .none st.objs k) (ht:ZA ks st.tmps=false)
 (ho:zK ks objs'=false):∃loc',Conc C B F0 w0 F loc' ⟨st.tmps,objs',d⟩ a w:=by
 refine⟨⟨loc.P,fun k=>if k∈ks then none else loc k,loc.ty⟩,h.prog,h.below,h.hB,h.defers,?_,?_,?_,?_,?_,h.bound,h.fsub,h.fsup,h.inv⟩
 ·refine h.tmps.mono_mem fun v hv x hx=>?_
  refine CV.keep (loc:=loc) (objs:=st.objs) ?_ (fun k hk=>?_) hx
  ·rfl
  ·have hn:=Kh (wK ht v hv) k hk;exact⟨hout k hn,by simp[hn]⟩
 ·exact fun v hv=>Ref.keep (fun k hk=>hout k (Kh (wK ht v hv) k hk)) (h.refs v hv)
 ·intro k;by_cases hk:k∈ks
  ·change CO _ objs' w F k (nth .none objs' k);rw[hin k hk];show(if k∈ks then none else loc k)=none;simp[hk]
  ·change CO _ objs' w F k (nth .none objs' k);have a3:∀u∈qW (nth .none objs' k),T2 ks u=false:=fun u hu=>by
    have hne:nth .none objs' k≠ .none:=by intro e;rw[e]at hu;simp[qW]at hu
    exact zU ho _ (aU hne) u hu
   have h0:=h.objs k;rw[←hout k hk]at h0;refine CO.keep (loc:=loc) (objs:=st.objs) rfl (by simp[hk]) rfl (fun v hv j hj=>?_) h0;have hn:=Kh (a3 v hv) j hj;exact⟨hout j hn,by simp[hn]⟩
 ·intro k k' b c c' h1 h2;by_cases hk:k∈ks
  ·simp[hk]at h1
  ·by_cases hk':k'∈ks
   ·simp[hk']at h2
   ·simp only[if_neg hk]at h1;simp only[if_neg hk']at h2;exact h.inj _ _ _ _ _ h1 h2
 ·intro k b c h1;by_cases hk:k∈ks
  ·simp[hk]at h1
  ·simp only[if_neg hk]at h1;exact h.fresh _ _ _ h1
theorem Conc.move {s k key sz:Nat} {es:List (List D)} {d:List Nat} (h:Conc C B F0 w0 F loc st a w) (hs:nth .any st.tmps s= .arr k) (hk:nth .none st.objs k= .arr sz es false) (hkey:nth .none st.objs key= .none) (hlt:key<st.objs.length):
 ∃loc',Conc C B F0 w0 F loc' ⟨upd st.tmps s (.arr key),upd (upd st.objs k .dead) key (.arr sz es false),d⟩ a w:=by
 have hne:k≠key:=fun e=>by subst e;rw[hk]at hkey;simp at hkey
 have a4:k<st.objs.length:=by
  rcases be k st.objs.length with h|h
  ·exact h
  ·rw[qJ _ h]at hk;simp at hk
 have hn:∀j,nth .none (upd (upd st.objs k .dead) key (.arr sz es false)) j=if j=key then .arr sz es false else if j=k then .dead else nth .none st.objs j:=fun j=>by
  by_cases h1:j=key
  ·subst h1;rw[qg _ _ _ (by rw[xr];simpa using hlt)];simp
  ·rw[qe _ _ _ (cc h1),if_neg h1];by_cases h2:j=k
   ·subst h2;rw[qg _ _ _ a4];simp
   ·rw[qe _ _ _ (cc h2),if_neg h2]
 generalize hob:upd (upd st.objs k .dead) key (.arr sz es false)=objs' at *
 let loc':Where:=⟨loc.P,fun j=>if j=key then loc k else if j=k then none else loc j,fun j=>if j=key then loc.ty k else loc.ty j⟩
 have a6:Le st.objs objs' loc loc':=by
  refine⟨rfl,fun j hj=>by
   have:j≠key:=fun e=>by subst e;exact hj hkey
   simp[loc',this],fun j hj=>?_,fun j o' hj hc hbx=>?_,fun j s' es' fz' hj hc=>?_⟩
  ·rw[hn];split
   ·simp
   ·split
    ·simp
    ·exact hj
  ·rw[hn]at hc;split at hc
   ·rw[←hc]at hbx;simp[zx]at hbx
   ·split at hc
    ·rw[←hc]at hbx;simp[zx]at hbx
    ·rename_i e1 e2;exact⟨by rw[hc];exact hbx,by simp[loc',e1,e2]⟩
  ·rw[hn]at hc;split at hc
   ·rename_i e;rw[e]at hj;exact absurd hkey hj
   ·split at hc
    ·simp at hc
    ·exact⟨⟨_,_,hc,rfl⟩,by simp[loc', *]⟩
 have hlk:loc key=none:=by have:=h.objs key;rw[hkey]at this;exact this
 have h1:Conc C B F0 w0 F loc' ⟨st.tmps,objs',d⟩ a w:=by
  refine h.relocate a6 (fun j=>?_) ?_ ?_
  ·rw[hn];split
   ·rename_i e;have h0:=h.objs k;rw[hk]at h0;obtain⟨q1,q2,q3,q4⟩:=h0;refine⟨q1,q2,q3,?_⟩;simp only[loc',e,if_pos];exact q4
   ·split
    ·rename_i e;show loc' j=none;simp[loc',e,hne]
    ·rename_i e1 e2;exact I1 (fun _ h=>h) (fun _ _=>rfl) a6 (by simp[loc',e1,e2]) (by simp[loc',e1]) (fun _ _ _=>⟨rfl,fun h=>h⟩) (h.objs j)
  ·intro j j' b c c' g1 g2;simp only[loc']at g1 g2;split at g1<;>split at g2
   ·rw[‹j=key›,‹j'=key›]
   ·split at g2
    ·simp at g2
    ·exact absurd (h.inj _ _ _ _ _ g1 g2).symm ‹_›
   ·split at g1
    ·simp at g1
    ·exact absurd (h.inj _ _ _ _ _ g1 g2) ‹_›
   ·split at g1
    ·simp at g1
    ·split at g2
     ·simp at g2
     ·exact h.inj _ _ _ _ _ g1 g2
  ·intro j b c g1;simp only[loc']at g1;split at g1
   ·exact h.fresh _ _ _ g1
   ·split at g1
    ·simp at g1
    ·exact h.fresh _ _ _ g1
 refine⟨loc',?_⟩;have a3:Conc C B F0 w0 F loc' ⟨upd st.tmps s (.arr key),objs',d⟩ a w:=by
  refine⟨h1.prog,h1.below,h1.hB,h1.defers,?_,fun u hu=>?_,h1.objs,h1.inj,h1.fresh,h1.bound,h1.fsub,h1.fsup,h1.inv⟩
  ·--slot s:read from the old state
   have hs0:s<st.tmps.length:=by
    rcases be s st.tmps.length with h|h
    ·exact h
    ·rw[qJ _ h]at hs;simp at hs
   have a5:CV loc' objs' w F (.arr key) (nth undef a.tmps.toList s):=by
    have h0:=h.tmps.nth .any undef _ _ s hs0;rw[hs]at h0;intro s' es' fz' hc;rw[hn,if_pos rfl]at hc;simp only[I2]at hc;obtain⟨rfl,rfl,rfl⟩:=hc;have:=h0 sz es false hk
    simpa [loc']using this
   have hlen:=h.tmps.length;have:upd a.tmps.toList s (nth undef a.tmps.toList s)=a.tmps.toList:=TI undef _ _ _ rfl;have h2:=All2.upd (i:=s) a5 h1.tmps;rw[this]at h2;exact h2
  ·rcases xU hu with hu|rfl
   ·exact h1.refs u hu
   ·show nth .none objs' key≠ .none;rw[hn];simp
 exact a3
theorem Conc.moveN {s k key sz n:Nat} {es:List (List D)} {d:List Nat} (h:Conc C B F0 w0 F loc st a w) (hs:nth .any st.tmps s= .sub k 0 n) (hk:nth .none st.objs k= .arr sz es false) (hkey:nth .none st.objs key= .none) (hlt:key<st.objs.length):
 ∃loc',Conc C B F0 w0 F loc' ⟨upd st.tmps s (.arr key),upd (upd st.objs k .dead) key (.arr sz (es.take n) false),d⟩ a w:=by
 have hnl:n≤es.length:=by
  have hlt:s<st.tmps.length:=by
   rcases be s st.tmps.length with h1|h1
   ·exact h1
   ·rw[qJ _ h1]at hs;simp at hs
  have hc:=h.tmps.nth .any default _ _ _ hlt;rw[hs]at hc;rcases hc _ _ _ hk with⟨b,c,q1,q2,q3⟩|⟨_,_,_,_,h0,_⟩|⟨_,h0,_⟩
  ·omega
  ·omega
  ·omega
 have hne:k≠key:=fun e=>by subst e;rw[hk]at hkey;simp at hkey
 have a4:k<st.objs.length:=by
  rcases be k st.objs.length with h|h
  ·exact h
  ·rw[qJ _ h]at hk;simp at hk
 have hn:∀j,nth .none (upd (upd st.objs k .dead) key (.arr sz (es.take n) false)) j=if j=key then .arr sz (es.take n) false else if j=k then .dead else nth .none st.objs j:=fun j=>by
  by_cases h1:j=key
  ·subst h1;rw[qg _ _ _ (by rw[xr];simpa using hlt)];simp
  ·rw[qe _ _ _ (cc h1),if_neg h1];by_cases h2:j=k
   ·subst h2;rw[qg _ _ _ a4];simp
   ·rw[qe _ _ _ (cc h2),if_neg h2]
 generalize hob:upd (upd st.objs k .dead) key (.arr sz (es.take n) false)=objs' at *
 let loc':Where:=⟨loc.P,fun j=>if j=key then loc k else if j=k then none else loc j,fun j=>if j=key then loc.ty k else loc.ty j⟩
 have a6:Le st.objs objs' loc loc':=by
  refine⟨rfl,fun j hj=>by
   have:j≠key:=fun e=>by subst e;exact hj hkey
   simp[loc',this],fun j hj=>?_,fun j o' hj hc hbx=>?_,fun j s' es' fz' hj hc=>?_⟩
  ·rw[hn];split
   ·simp
   ·split
    ·simp
    ·exact hj
  ·rw[hn]at hc;split at hc
   ·rw[←hc]at hbx;simp[zx]at hbx
   ·split at hc
    ·rw[←hc]at hbx;simp[zx]at hbx
    ·rename_i e1 e2;exact⟨by rw[hc];exact hbx,by simp[loc',e1,e2]⟩
  ·rw[hn]at hc;split at hc
   ·rename_i e;rw[e]at hj;exact absurd hkey hj
   ·split at hc
    ·simp at hc
    ·exact⟨⟨_,_,hc,rfl⟩,by simp[loc', *]⟩
 have hlk:loc key=none:=by have:=h.objs key;rw[hkey]at this;exact this
 have h1:Conc C B F0 w0 F loc' ⟨st.tmps,objs',d⟩ a w:=by
  refine h.relocate a6 (fun j=>?_) ?_ ?_
  ·rw[hn];split
   ·rename_i e;have h0:=h.objs k;rw[hk]at h0;obtain⟨q1,q2,q3,q4⟩:=h0;have a7:(es.take n).length=n:=by rw[List.length_take];omega
    refine⟨q1.le (by omega),q2,fun e' he'=>q3 e' (V1 he'),?_⟩;simp only[loc',e,if_pos];rcases q4 with⟨q4,q5⟩|⟨b,c,cs,t,q4,q5,q6,q7,q8,q9,q10⟩
    ·exact .inl ⟨q4,by rw[q5];simp⟩
    ·refine .inr ⟨b,c,cs,t,q4,q5,q6,q7,by omega,fun j hj=>?_,q10⟩;rw[a7]at hj;have hj2:j<es.length*sz:=Nat.lt_of_lt_of_le hj (Nat.mul_le_mul_right sz hnl);obtain⟨v,r1,r2⟩:=q9 j hj2;refine⟨v,r1,?_⟩;have hfl:(es.take n).flatten.length=n*sz:=by rw[qp (fun e' he'=>q3 e' (V1 he')),a7]
     have hsp:es.flatten=(es.take n).flatten++(es.drop n).flatten:=by rw[←List.flatten_append,List.take_append_drop]
     have:nth .undef (es.take n).flatten j=nth .undef es.flatten j:=by rw[hsp,qI,qI,List.getElem?_append_left (by omega)]
     rw[this];exact r2
   ·split
    ·rename_i e;show loc' j=none;simp[loc',e,hne]
    ·rename_i e1 e2;exact I1 (fun _ h=>h) (fun _ _=>rfl) a6 (by simp[loc',e1,e2]) (by simp[loc',e1]) (fun _ _ _=>⟨rfl,fun h=>h⟩) (h.objs j)
  ·intro j j' b c c' g1 g2;simp only[loc']at g1 g2;split at g1<;>split at g2
   ·rw[‹j=key›,‹j'=key›]
   ·split at g2
    ·simp at g2
    ·exact absurd (h.inj _ _ _ _ _ g1 g2).symm ‹_›
   ·split at g1
    ·simp at g1
    ·exact absurd (h.inj _ _ _ _ _ g1 g2) ‹_›
   ·split at g1
    ·simp at g1
    ·split at g2
     ·simp at g2
     ·exact h.inj _ _ _ _ _ g1 g2
  ·intro j b c g1;simp only[loc']at g1;split at g1
   ·exact h.fresh _ _ _ g1
   ·split at g1
    ·simp at g1
    ·exact h.fresh _ _ _ g1
 refine⟨loc',?_⟩;have a3:Conc C B F0 w0 F loc' ⟨upd st.tmps s (.arr key),objs',d⟩ a w:=by
  refine⟨h1.prog,h1.below,h1.hB,h1.defers,?_,fun u hu=>?_,h1.objs,h1.inj,h1.fresh,h1.bound,h1.fsub,h1.fsup,h1.inv⟩
  ·--slot s:read from the old state
   have hs0:s<st.tmps.length:=by
    rcases be s st.tmps.length with h|h
    ·exact h
    ·rw[qJ _ h]at hs;simp at hs
   have a5:CV loc' objs' w F (.arr key) (nth undef a.tmps.toList s):=by
    have h0:=h.tmps.nth .any undef _ _ s hs0;rw[hs]at h0;intro s' es' fz' hc;rw[hn,if_pos rfl]at hc;simp only[I2]at hc;obtain⟨rfl,rfl,rfl⟩:=hc;rcases h0 sz es false hk with⟨b,c,e1,e2,e3⟩|⟨_,e1,e2,_,_,e3⟩|⟨_,e1,_⟩
    ·refine .inl ⟨b,c,by simpa [loc']using e1,?_⟩;rw[e3];simp;omega
    ·refine .inr ⟨by simpa [loc']using e1,by rw[e2];simp,e3⟩
    ·omega
   have hlen:=h.tmps.length;have:upd a.tmps.toList s (nth undef a.tmps.toList s)=a.tmps.toList:=TI undef _ _ _ rfl;have h2:=All2.upd (i:=s) a5 h1.tmps;rw[this]at h2;exact h2
  ·rcases xU hu with hu|rfl
   ·exact h1.refs u hu
   ·show nth .none objs' key≠ .none;rw[hn];simp
 exact a3
theorem Conc.nilOwn {s key sz:Nat} {d:List Nat} (h:Conc C B F0 w0 F loc st a w) (hs:nth .any st.tmps s= .nilS) (hkey:nth .none st.objs key= .none) (hlt:key<st.objs.length) (hsz:0<sz):
 Conc C B F0 w0 F loc ⟨upd st.tmps s (.arr key),upd st.objs key (.arr sz [] false),d⟩ a w:=by
 have a4:loc key=none:=by have:=h.objs key;rw[hkey]at this;exact this
 have a3:Le st.objs (upd st.objs key (.arr sz [] false)) loc loc:=by
  refine⟨rfl,fun _ _=>rfl,fun j hj=>?_,fun j o' hj hc hbx=>?_,fun j s' es' fz' hj hc=>?_⟩
  ·rw[zm];split
   ·simp
   ·exact hj
  ·rw[zm]at hc;split at hc
   ·rw[←hc]at hbx;simp[zx]at hbx
   ·exact⟨by rw[hc];exact hbx,rfl⟩
  ·rw[zm]at hc;split at hc
   ·rename_i e;rw[←e.1]at hj;exact absurd hkey hj
   ·exact⟨⟨_,_,hc,rfl⟩,rfl⟩
 have h1:Conc C B F0 w0 F loc ⟨st.tmps,upd st.objs key (.arr sz [] false),d⟩ a w:=by
  refine h.relocate a3 (fun j=>?_) h.inj h.fresh;by_cases hj:key=j
  ·subst hj;rw[qg _ _ _ hlt];exact⟨by simp[roomS],hsz,fun e he=>by simp at he,.inl ⟨a4,rfl⟩⟩
  ·rw[qe _ _ _ hj];exact I1 (fun _ h=>h) (fun _ _=>rfl) a3 rfl rfl (fun _ _ _=>⟨rfl,fun h=>h⟩) (h.objs j)
 have h2:=h1.weakT (t:=s) (v:= .arr key) (d:=d) (fun x hx=>by
  have hx:CV loc (upd st.objs key (.arr sz [] false)) w F (nth .any st.tmps s) x:=hx;rw[hs]at hx;intro s' es' fz' hc;change nth .none (upd st.objs key (.arr sz [] false)) key=_ at hc;rw[qg _ _ _ hlt]at hc;simp only[I2]at hc;obtain⟨_,rfl,_⟩:=hc;exact .inr ⟨a4,rfl,hx⟩) (by
   show nth .none (upd st.objs key (.arr sz [] false)) key≠ .none;rw[qg _ _ _ hlt];simp)
 exact h2
theorem Conc.moveM {k j key sz i0:Nat} {cells:List V} {es:List (List D)} {d:List Nat} (h:Conc C B F0 w0 F loc st a w) (hk:nth .none st.objs k= .box cells) (hi:nth .any cells i0= .arr j) (hj:nth .none st.objs j= .arr sz es false) (hkey:nth .none st.objs key= .none) (hlt:key<st.objs.length):
 ∃loc',Conc C B F0 w0 F loc' ⟨st.tmps,upd (upd (upd st.objs j .dead) key (.arr sz es false)) k (.box (upd cells i0 (.arr key))),d⟩ a w:=by
 have hne:j≠key:=fun e=>by subst e;rw[hj]at hkey;simp at hkey
 have a3:k≠key:=fun e=>by subst e;rw[hk]at hkey;simp at hkey
 have a5:k≠j:=fun e=>by subst e;rw[hk]at hj;simp at hj
 have a4:j<st.objs.length:=by
  rcases be j st.objs.length with h|h
  ·exact h
  ·rw[qJ _ h]at hj;simp at hj
 have a6:k<st.objs.length:=by
  rcases be k st.objs.length with h|h
  ·exact h
  ·rw[qJ _ h]at hk;simp at hk
 have hn:∀i,nth .none (upd (upd (upd st.objs j .dead) key (.arr sz es false)) k (.box (upd cells i0 (.arr key)))) i=if i=k then .box (upd cells i0 (.arr key))else if i=key then .arr sz es false else if i=j then .dead else nth .none st.objs i:=fun i=>by
  by_cases h0:i=k
  ·subst h0;rw[qg _ _ _ (by rw[qk,qk];exact a6)];simp
  ·rw[qe _ _ _ (cc h0),if_neg h0];by_cases h1:i=key
   ·subst h1;rw[qg _ _ _ (by rw[qk];exact hlt)];simp
   ·rw[qe _ _ _ (cc h1),if_neg h1];by_cases h2:i=j
    ·subst h2;rw[qg _ _ _ a4];simp
    ·rw[qe _ _ _ (cc h2),if_neg h2]
 generalize hob:upd (upd (upd st.objs j .dead) key (.arr sz es false)) k (.box (upd cells i0 (.arr key)))=objs' at *
 let loc':Where:=⟨loc.P,fun i=>if i=key then loc j else if i=j then none else loc i,fun i=>if i=key then loc.ty j else loc.ty i⟩
 have a7:Le st.objs objs' loc loc':=by
  refine⟨rfl,fun i hi=>by
   have:i≠key:=fun e=>by subst e;exact hi hkey
   simp[loc',this],fun i hi=>?_,fun i o' hi hc hbx=>?_,fun i s' es' fz' hi hc=>?_⟩
  ·rw[hn];split
   ·simp
   ·split
    ·simp
    ·split
     ·simp
     ·exact hi
  ·rw[hn]at hc;split at hc
   ·rename_i e0;subst e0;exact⟨by rw[hk];rfl,by simp[loc',a3,a5]⟩
   ·split at hc
    ·rw[←hc]at hbx;simp[zx]at hbx
    ·split at hc
     ·rw[←hc]at hbx;simp[zx]at hbx
     ·rename_i e1 e2;exact⟨by rw[hc];exact hbx,by simp[loc',e1,e2]⟩
  ·rw[hn]at hc;split at hc
   ·simp at hc
   ·split at hc
    ·rename_i e;rw[e]at hi;exact absurd hkey hi
    ·split at hc
     ·simp at hc
     ·exact⟨⟨_,_,hc,rfl⟩,by simp[loc', *]⟩
 refine⟨loc',h.relocate a7 (fun i=>?_) ?_ ?_⟩
 ·rw[hn];split
  ·rename_i e0;subst e0;have h0:=h.objs i;rw[hk]at h0;have a8:=h0;have h0:=I1 (F':=F) (w':=w) (fun _ h=>h) (fun _ _=>rfl) a7 (show loc' i=loc i by simp[loc',a3,a5]) (show loc'.ty i=loc.ty i by simp[loc',a3]) (fun _ _ _=>⟨rfl,fun h=>h⟩) h0;obtain⟨b0,c0,cs0,t0,r1,_,r3,r4,_⟩:=a8;obtain⟨b,c,cs,t,h1,h2,h3,h4,h5⟩:=h0;have hbb:b0=b∧c0=c:=by
    have:loc' i=loc i:=by simp[loc',a3,a5]
    rw[this,r1]at h1
    simpa using h1
   obtain⟨rfl,rfl⟩:=hbb;rw[r3]at h3;simp only[cg,J7]at h3;obtain⟨rfl,rfl,_⟩:=h3;refine⟨b0,c0,cs0,t0,h1,h2,r3,?_,?_⟩
   ·refine Xc .any i0 (fun x hx=>⟨?_,hx.2⟩) r4 h4;rw[hi]at hx;intro s' es' fz' hc;rw[hn,if_neg (cc a3),if_pos rfl]at hc;simp only[I2]at hc;obtain⟨rfl,rfl,rfl⟩:=hc;have:=hx.1 _ _ _ hj
    simpa [loc']using this
   ·intro v hv;rcases xU hv with hv|rfl
    ·exact h5 v hv
    ·show nth .none objs' key≠ .none;rw[hn,if_neg (cc a3),if_pos rfl];simp
  ·rename_i e0;split
   ·rename_i e;have h0:=h.objs j;rw[hj]at h0;obtain⟨q1,q2,q3,q4⟩:=h0;refine⟨q1,q2,q3,?_⟩;simp only[loc',e,if_pos];exact q4
   ·split
    ·rename_i e;show loc' i=none;simp[loc',e,hne]
    ·rename_i e1 e2;exact I1 (fun _ h=>h) (fun _ _=>rfl) a7 (by simp[loc',e1,e2]) (by simp[loc',e1]) (fun _ _ _=>⟨rfl,fun h=>h⟩) (h.objs i)
 ·intro i i' b c c' g1 g2;simp only[loc']at g1 g2;split at g1<;>split at g2
  ·rw[‹i=key›,‹i'=key›]
  ·split at g2
   ·simp at g2
   ·exact absurd (h.inj _ _ _ _ _ g1 g2).symm ‹_›
  ·split at g1
   ·simp at g1
   ·exact absurd (h.inj _ _ _ _ _ g1 g2) ‹_›
  ·split at g1
   ·simp at g1
   ·split at g2
    ·simp at g2
    ·exact h.inj _ _ _ _ _ g1 g2
 ·intro i b c g1;simp only[loc']at g1;split at g1
  ·exact h.fresh _ _ _ g1
  ·split at g1
   ·simp at g1
   ·exact h.fresh _ _ _ g1
theorem Conc.nilM {k key sz i0:Nat} {cells:List V} {d:List Nat} (h:Conc C B F0 w0 F loc st a w) (hk:nth .none st.objs k= .box cells) (hi:nth .any cells i0= .nilS) (hkey:nth .none st.objs key= .none) (hlt:key<st.objs.length) (hsz:0<sz):
 Conc C B F0 w0 F loc ⟨st.tmps,upd (upd st.objs key (.arr sz [] false)) k (.box (upd cells i0 (.arr key))),d⟩ a w:=by
 have a6:k≠key:=fun e=>by subst e;rw[hk]at hkey;simp at hkey
 have a3:k<st.objs.length:=by
  rcases be k st.objs.length with h|h
  ·exact h
  ·rw[qJ _ h]at hk;simp at hk
 have a7:loc key=none:=by have:=h.objs key;rw[hkey]at this;exact this
 have hn:∀i,nth .none (upd (upd st.objs key (.arr sz [] false)) k (.box (upd cells i0 (.arr key)))) i=if i=k then .box (upd cells i0 (.arr key))else if i=key then .arr sz [] false else nth .none st.objs i:=fun i=>by
  by_cases h0:i=k
  ·subst h0;rw[qg _ _ _ (by rw[qk];exact a3)];simp
  ·rw[qe _ _ _ (cc h0),if_neg h0];by_cases h1:i=key
   ·subst h1;rw[qg _ _ _ hlt];simp
   ·rw[qe _ _ _ (cc h1),if_neg h1]
 generalize hob:upd (upd st.objs key (.arr sz [] false)) k (.box (upd cells i0 (.arr key)))=objs' at *;have a4:Le st.objs objs' loc loc:=by
  refine⟨rfl,fun i hi=>rfl,fun i hi=>?_,fun i o' hi hc hbx=>?_,fun i s' es' fz' hi hc=>?_⟩
  ·rw[hn];split
   ·simp
   ·split
    ·simp
    ·exact hi
  ·rw[hn]at hc;split at hc
   ·rename_i e0;subst e0;exact⟨by rw[hk];rfl,rfl⟩
   ·split at hc
    ·rw[←hc]at hbx;simp[zx]at hbx
    ·exact⟨by rw[hc];exact hbx,rfl⟩
  ·rw[hn]at hc;split at hc
   ·simp at hc
   ·split at hc
    ·rename_i e;rw[e]at hi;exact absurd hkey hi
    ·exact⟨⟨_,_,hc,rfl⟩,rfl⟩
 refine h.relocate a4 (fun i=>?_) h.inj h.fresh;rw[hn];split
 ·rename_i e0;subst e0;have h0:=h.objs i;rw[hk]at h0;have a5:=h0;have h0:=I1 (F':=F) (w':=w) (fun _ h=>h) (fun _ _=>rfl) a4 rfl rfl (fun _ _ _=>⟨rfl,fun h=>h⟩) h0;obtain⟨b0,c0,cs0,t0,r1,_,r3,r4,_⟩:=a5;obtain⟨b,c,cs,t,h1,h2,h3,h4,h5⟩:=h0;have hbb:b0=b∧c0=c:=by
   rw[r1]at h1
   simpa using h1
  obtain⟨rfl,rfl⟩:=hbb;rw[r3]at h3;simp only[cg,J7]at h3;obtain⟨rfl,rfl,_⟩:=h3;refine⟨b0,c0,cs0,t0,h1,h2,r3,?_,?_⟩
  ·refine Xc .any i0 (fun x hx=>⟨?_,hx.2⟩) r4 h4;rw[hi]at hx;intro s' es' fz' hc;rw[hn,if_neg (cc a6),if_pos rfl]at hc;simp only[I2]at hc;obtain⟨rfl,rfl,rfl⟩:=hc;exact .inr ⟨a7,rfl,hx.1⟩
  ·intro v hv;rcases xU hv with hv|rfl
   ·exact h5 v hv
   ·show nth .none objs' key≠ .none;rw[hn,if_neg (cc a6),if_pos rfl];simp
 ·split
  ·rename_i e;subst e;exact⟨by simp[roomS],hsz,fun e he=>by simp at he,.inl ⟨a7,rfl⟩⟩
  ·exact I1 (fun _ h=>h) (fun _ _=>rfl) a4 rfl rfl (fun _ _ _=>⟨rfl,fun h=>h⟩) (h.objs i)
theorem Conc.dataM {k i0:Nat} {cells:List V} {d:List Nat} (h:Conc C B F0 w0 F loc st a w) (hk:nth .none st.objs k= .box cells) (hi:nth .any cells i0= .nilS):
 Conc C B F0 w0 F loc ⟨st.tmps,upd st.objs k (.box (upd cells i0 (.c (.sl [])))),d⟩ a w:=by
 have a3:k<st.objs.length:=by
  rcases be k st.objs.length with h|h
  ·exact h
  ·rw[qJ _ h]at hk;simp at hk
 have hn:∀i,nth .none (upd st.objs k (.box (upd cells i0 (.c (.sl []))))) i=if i=k then .box (upd cells i0 (.c (.sl [])))else nth .none st.objs i:=fun i=>by
  by_cases h0:i=k
  ·subst h0;rw[qg _ _ _ a3];simp
  ·rw[qe _ _ _ (cc h0),if_neg h0]
 generalize hob:upd st.objs k (.box (upd cells i0 (.c (.sl []))))=objs' at *;have a4:Le st.objs objs' loc loc:=by
  refine⟨rfl,fun i hi=>rfl,fun i hi=>?_,fun i o' hi hc hbx=>?_,fun i s' es' fz' hi hc=>?_⟩
  ·rw[hn];split
   ·simp
   ·exact hi
  ·rw[hn]at hc;split at hc
   ·rename_i e0;subst e0;exact⟨by rw[hk];rfl,rfl⟩
   ·exact⟨by rw[hc];exact hbx,rfl⟩
  ·rw[hn]at hc;split at hc
   ·simp at hc
   ·exact⟨⟨_,_,hc,rfl⟩,rfl⟩
 refine h.relocate a4 (fun i=>?_) h.inj h.fresh;rw[hn];split
 ·rename_i e0;subst e0;have h0:=h.objs i;rw[hk]at h0;have a5:=h0;have h0:=I1 (F':=F) (w':=w) (fun _ h=>h) (fun _ _=>rfl) a4 rfl rfl (fun _ _ _=>⟨rfl,fun h=>h⟩) h0;obtain⟨b0,c0,cs0,t0,r1,_,r3,r4,_⟩:=a5;obtain⟨b,c,cs,t,h1,h2,h3,h4,h5⟩:=h0;have hbb:b0=b∧c0=c:=by
   rw[r1]at h1
   simpa using h1
  obtain⟨rfl,rfl⟩:=hbb;rw[r3]at h3;simp only[cg,J7]at h3;obtain⟨rfl,rfl,_⟩:=h3;refine⟨b0,c0,cs0,t0,h1,h2,r3,?_,?_⟩
  ·refine Xc .any i0 (fun x hx=>⟨?_,hx.2⟩) r4 h4;rw[hi]at hx;have h2:x= .slice none 0 0:=hx.1;subst h2;exact CD.nil _ _
  ·intro v hv;rcases xU hv with hv|rfl
   ·exact h5 v hv
   ·trivial
 ·exact I1 (fun _ h=>h) (fun _ _=>rfl) a4 rfl rfl (fun _ _ _=>⟨rfl,fun h=>h⟩) (h.objs i)
theorem Conc.moveB {k j key T sz:Nat} {es:List (List D)} {d:List Nat} (h:Conc C B F0 w0 F loc st a w) (hk:nth .none st.objs k= .bld T (.arr j)) (hj:nth .none st.objs j= .arr sz es false) (hkey:nth .none st.objs key= .none) (hlt:key<st.objs.length):
 ∃loc',Conc C B F0 w0 F loc' ⟨st.tmps,upd (upd (upd st.objs j .dead) key (.arr sz es false)) k (.bld T (.arr key)),d⟩ a w:=by
 have hne:j≠key:=fun e=>by subst e;rw[hj]at hkey;simp at hkey
 have a3:k≠key:=fun e=>by subst e;rw[hk]at hkey;simp at hkey
 have a6:k≠j:=fun e=>by subst e;rw[hk]at hj;simp at hj
 have a4:j<st.objs.length:=by
  rcases be j st.objs.length with h|h
  ·exact h
  ·rw[qJ _ h]at hj;simp at hj
 have a5:k<st.objs.length:=by
  rcases be k st.objs.length with h|h
  ·exact h
  ·rw[qJ _ h]at hk;simp at hk
 have hn:∀i,nth .none (upd (upd (upd st.objs j .dead) key (.arr sz es false)) k (.bld T (.arr key))) i=if i=k then .bld T (.arr key)else if i=key then .arr sz es false else if i=j then .dead else nth .none st.objs i:=fun i=>by
  by_cases h0:i=k
  ·subst h0;rw[qg _ _ _ (by rw[qk,qk];exact a5)];simp
  ·rw[qe _ _ _ (cc h0),if_neg h0];by_cases h1:i=key
   ·subst h1;rw[qg _ _ _ (by rw[qk];exact hlt)];simp
   ·rw[qe _ _ _ (cc h1),if_neg h1];by_cases h2:i=j
    ·subst h2;rw[qg _ _ _ a4];simp
    ·rw[qe _ _ _ (cc h2),if_neg h2]
 generalize hob:upd (upd (upd st.objs j .dead) key (.arr sz es false)) k (.bld T (.arr key))=objs' at *
 let loc':Where:=⟨loc.P,fun i=>if i=key then loc j else if i=j then none else loc i,fun i=>if i=key then loc.ty j else loc.ty i⟩
 have a7:Le st.objs objs' loc loc':=by
  refine⟨rfl,fun i hi=>by
   have:i≠key:=fun e=>by subst e;exact hi hkey
   simp[loc',this],fun i hi=>?_,fun i o' hi hc hbx=>?_,fun i s' es' fz' hi hc=>?_⟩
  ·rw[hn];split
   ·simp
   ·split
    ·simp
    ·split
     ·simp
     ·exact hi
  ·rw[hn]at hc;split at hc
   ·rename_i e0;subst e0;exact⟨by rw[hk];rfl,by simp[loc',a3,a6]⟩
   ·split at hc
    ·rw[←hc]at hbx;simp[zx]at hbx
    ·split at hc
     ·rw[←hc]at hbx;simp[zx]at hbx
     ·rename_i e1 e2;exact⟨by rw[hc];exact hbx,by simp[loc',e1,e2]⟩
  ·rw[hn]at hc;split at hc
   ·simp at hc
   ·split at hc
    ·rename_i e;rw[e]at hi;exact absurd hkey hi
    ·split at hc
     ·simp at hc
     ·exact⟨⟨_,_,hc,rfl⟩,by simp[loc', *]⟩
 refine⟨loc',h.relocate a7 (fun i=>?_) ?_ ?_⟩
 ·rw[hn];split
  ·rename_i e0;subst e0;have h0:=h.objs i;rw[hk]at h0;obtain⟨b,c,p,v,h1,h2,h3,h4,h5,h6,h7⟩:=h0;refine⟨b,c,p,v,by simp[loc',a3,a6,h1],h2,h3,h4,?_,?_,?_⟩
   ·intro s' es' fz' hc;rw[hn,if_neg (cc a3),if_pos rfl]at hc;simp only[I2]at hc;obtain⟨rfl,rfl,rfl⟩:=hc;have:=h5 _ _ _ hj
    simpa [loc']using this
   ·show nth .none objs' key≠ .none;rw[hn,if_neg (cc a3),if_pos rfl];simp
   ·intro j' e;simp only[V.arr.injEq]at e;subst e;simp only[loc',if_pos];exact h7 j rfl
  ·rename_i e0;split
   ·rename_i e;have h0:=h.objs j;rw[hj]at h0;obtain⟨q1,q2,q3,q4⟩:=h0;refine⟨q1,q2,q3,?_⟩;simp only[loc',e,if_pos];exact q4
   ·split
    ·rename_i e;show loc' i=none;simp[loc',e,hne]
    ·rename_i e1 e2;exact I1 (fun _ h=>h) (fun _ _=>rfl) a7 (by simp[loc',e1,e2]) (by simp[loc',e1]) (fun _ _ _=>⟨rfl,fun h=>h⟩) (h.objs i)
 ·intro i i' b c c' g1 g2;simp only[loc']at g1 g2;split at g1<;>split at g2
  ·rw[‹i=key›,‹i'=key›]
  ·split at g2
   ·simp at g2
   ·exact absurd (h.inj _ _ _ _ _ g1 g2).symm ‹_›
  ·split at g1
   ·simp at g1
   ·exact absurd (h.inj _ _ _ _ _ g1 g2) ‹_›
  ·split at g1
   ·simp at g1
   ·split at g2
    ·simp at g2
    ·exact h.inj _ _ _ _ _ g1 g2
 ·intro i b c g1;simp only[loc']at g1;split at g1
  ·exact h.fresh _ _ _ g1
  ·split at g1
   ·simp at g1
   ·exact h.fresh _ _ _ g1
theorem Conc.nilB {k key T:Nat} {d:List Nat} (h:Conc C B F0 w0 F loc st a w) (hk:nth .none st.objs k= .bld T .nilS) (hkey:nth .none st.objs key= .none) (hlt:key<st.objs.length):
 ∃loc',Conc C B F0 w0 F loc' ⟨st.tmps,upd (upd st.objs key (.arr 1 [] false)) k (.bld T (.arr key)),d⟩ a w:=by
 have a4:k≠key:=fun e=>by subst e;rw[hk]at hkey;simp at hkey
 have a3:k<st.objs.length:=by
  rcases be k st.objs.length with h|h
  ·exact h
  ·rw[qJ _ h]at hk;simp at hk
 have a6:loc key=none:=by have:=h.objs key;rw[hkey]at this;exact this
 have hn:∀i,nth .none (upd (upd st.objs key (.arr 1 [] false)) k (.bld T (.arr key))) i=if i=k then .bld T (.arr key)else if i=key then .arr 1 [] false else nth .none st.objs i:=fun i=>by
  by_cases h0:i=k
  ·subst h0;rw[qg _ _ _ (by rw[qk];exact a3)];simp
  ·rw[qe _ _ _ (cc h0),if_neg h0];by_cases h1:i=key
   ·subst h1;rw[qg _ _ _ hlt];simp
   ·rw[qe _ _ _ (cc h1),if_neg h1]
 generalize hob:upd (upd st.objs key (.arr 1 [] false)) k (.bld T (.arr key))=objs' at *
 let loc':Where:=⟨loc.P,loc.at',fun i=>if i=key then RK loc.P T else loc.ty i⟩
 have a5:Le st.objs objs' loc loc':=by
  refine⟨rfl,fun i hi=>by
   have:i≠key:=fun e=>by subst e;exact hi hkey
   simp[loc',this],fun i hi=>?_,fun i o' hi hc hbx=>?_,fun i s' es' fz' hi hc=>?_⟩
  ·rw[hn];split
   ·simp
   ·split
    ·simp
    ·exact hi
  ·rw[hn]at hc;split at hc
   ·rename_i e0;subst e0;exact⟨by rw[hk];rfl,rfl⟩
   ·split at hc
    ·rw[←hc]at hbx;simp[zx]at hbx
    ·exact⟨by rw[hc];exact hbx,rfl⟩
  ·rw[hn]at hc;split at hc
   ·simp at hc
   ·split at hc
    ·rename_i e;rw[e]at hi;exact absurd hkey hi
    ·exact⟨⟨_,_,hc,rfl⟩,rfl⟩
 refine⟨loc',h.relocate a5 (fun i=>?_) h.inj h.fresh⟩;rw[hn];split
 ·rename_i e0;subst e0;have h0:=h.objs i;rw[hk]at h0;obtain⟨b,c,p,v,h1,h2,h3,h4,h5,h6,h7⟩:=h0;have h5:v= .slice none 0 0:=h5;refine⟨b,c,p,v,h1,h2,h3,h4,?_,?_,?_⟩
  ·intro s' es' fz' hc;rw[hn,if_neg (cc a4),if_pos rfl]at hc;simp only[I2]at hc;obtain⟨rfl,rfl,rfl⟩:=hc;exact .inr ⟨a6,rfl,h5⟩
  ·show nth .none objs' key≠ .none;rw[hn,if_neg (cc a4),if_pos rfl];simp
  ·intro j' e;simp only[V.arr.injEq]at e;subst e;simp only[loc',if_pos]
 ·rename_i e0;split
  ·rename_i e;subst e;exact⟨by simp[roomS],by omega,fun e he=>by simp at he,.inl ⟨a6,rfl⟩⟩
  ·rename_i e1;exact I1 (fun _ h=>h) (fun _ _=>rfl) a5 rfl (by simp[loc',e1]) (fun _ _ _=>⟨rfl,fun h=>h⟩) (h.objs i)
theorem vw {loc:Where} {objs:List Obj}:∀{cells:List V} {ds:List D},qD cells=some ds→∀{cs:List Value},All2 (fun v x=>CV loc objs w F v x∧x.oneCell'=true) cells cs→All2 (fun v x=>CV loc objs w F v x∧x.oneCell'=true) (ds.map V.c) cs
 |[],ds,h,cs,hc=>by simp only[qD,cg]at h;subst h;exact hc
 |v::r,ds,h,[],hc=>hc.elim
 |v::r,ds,h,x::cs,hc=>by
  unfold qD at h;split at h
  ·simp_all
  ·rename_i d r' heq;simp only[List.cons.injEq]at heq;obtain⟨rfl,rfl⟩:=heq;rw[Option.map_eq_some_iff]at h;obtain⟨ds',h1,rfl⟩:=h;exact⟨hc.1,vw h1 hc.2⟩
  ·rename_i r' heq;simp only[List.cons.injEq]at heq;obtain⟨rfl,rfl⟩:=heq;rw[Option.map_eq_some_iff]at h;obtain⟨ds',h1,rfl⟩:=h;refine⟨⟨?_,hc.1.2⟩,vw h1 hc.2⟩;have h2:x= .slice none 0 0:=hc.1.1;subst h2;exact CD.nil _ _
  ·simp at h
theorem Conc.boxData {k:Nat} {cells:List V} {ds:List D} {d:List Nat} (h:Conc C B F0 w0 F loc st a w) (hk:nth .none st.objs k= .box cells) (hd:qD cells=some ds):
 Conc C B F0 w0 F loc ⟨st.tmps,upd st.objs k (.box (ds.map V.c)),d⟩ a w:=by
 have hlt:k<st.objs.length:=by
  rcases be k st.objs.length with h|h
  ·exact h
  ·rw[qJ _ h]at hk;simp at hk
 have a3:Le st.objs (upd st.objs k (.box (ds.map V.c))) loc loc:=by
  refine⟨rfl,fun _ _=>rfl,fun j hj=>?_,fun j o' hj hc hbx=>?_,fun j s' es' fz' hj hc=>?_⟩
  ·rw[zm];split
   ·simp
   ·exact hj
  ·rw[zm]at hc;split at hc
   ·rename_i e;rw[←e.1];exact⟨by rw[hk];rfl,rfl⟩
   ·exact⟨by rw[hc];exact hbx,rfl⟩
  ·rw[zm]at hc;split at hc
   ·simp at hc
   ·exact⟨⟨_,_,hc,rfl⟩,rfl⟩
 refine h.relocate a3 (fun j=>?_) h.inj h.fresh;by_cases hj:k=j
 ·subst hj;rw[qg _ _ _ hlt];have h0:=h.objs k;rw[hk]at h0;obtain⟨b,c,cs,t,h1,h2,h3,h4,h5⟩:=h0;refine⟨b,c,cs,t,h1,h2,h3,?_,fun v hv=>?_⟩
  ·exact(vw hd h4).mono_mem fun v hv x hx=>⟨CV.le (fun _ h=>h) (fun _ _=>rfl) a3 (by
    obtain⟨y,_,rfl⟩:=Lv.1 hv;trivial) hx.1,hx.2⟩
  ·obtain⟨y,_,rfl⟩:=Lv.1 hv;trivial
 ·rw[qe _ _ _ hj];exact I1 (fun _ h=>h) (fun _ _=>rfl) a3 rfl rfl (fun _ _ _=>⟨rfl,fun h=>h⟩) (h.objs j)
end
section
variable {C:Cx} {B:Bd} {F0:Nat→Prop} {w0:World} {a:Act} {w:World}
theorem Vb:∀(l:List Nat) {st:St},I3 C B F0 w0 st a w→I3 C B F0 w0 ⟨yf st.tmps l,st.objs,st.dirty⟩ a w
 |[],st,h=>h
 |s::r,st,h=>by obtain⟨F,loc,h⟩:=h;exact Vb r (st:=⟨upd st.tmps s .any,st.objs,st.dirty⟩) ⟨F,loc,h.weakT (fun _ _=>trivial) trivial⟩
theorem Q0 {key:Nat} {st:St} (hg:Ej key st=true) (h:I3 C B F0 w0 st a w):key<st.objs.length∧I3 C B F0 w0 ⟨st.tmps,upd st.objs key .none,st.dirty⟩ a w∧(∀k,nth .none st.objs k≠ .none→nth .none st.objs k≠ .dead→k≠key):=by
 simp only[Ej,Hv,I0,b9]at hg;obtain⟨⟨⟨h1,h2⟩,h3⟩,h4⟩:=hg;refine⟨h1,?_,fun k hk hk' e=>?_⟩
 ·obtain⟨F,loc,h⟩:=h;obtain⟨a3,h'⟩:=h.forgets (ks:=[key]) (objs':=upd st.objs key .none) (d:=st.dirty) (fun k hk=>by
   simp only[Lr]at hk;subst hk;exact qg _ _ _ h1) (fun k hk=>by
   simp only[Lr]at hk;exact qe _ _ _ (cc hk)) h3 (by
   have:∀(l:List Obj) (i:Nat),zK [key] l=false→zK [key] (upd l i .none)=false:=by
    intro l
    induction l with
    |nil=>intro i h;exact h
    |cons o l ih=>
     intro i h;cases i with
     |zero=>cases o<;>simp_all[zK,upd]
     |succ i=>cases o<;>simp_all[zK,upd]
   exact this _ _ h4)
  exact⟨F,a3,h'⟩
 ·subst e;revert h2;cases hn:nth .none st.objs k<;>simp_all[Ic]
structure Frame (mt:List Nat) (s s':St):Prop where
 lt:s'.tmps.length=s.tmps.length
 lo:s'.objs.length=s.objs.length
 tmps:∀t,t∉mt→nth .any s'.tmps t=nth .any s.tmps t
 objs:∀k,k∉s'.dirty→nth .none s'.objs k=nth .none s.objs k
 dirty:∀k,k∈s.dirty→k∈s'.dirty
theorem Frame.refl (mt:List Nat) (s:St):Frame mt s s:=⟨rfl,rfl,fun _ _=>rfl,fun _ _=>rfl,fun _ h=>h⟩
theorem Frame.trans {m m':List Nat} {s s' s'':St} (h:Frame m s s') (h':Frame m' s' s''):Frame (m++m') s s'':=
 ⟨h'.lt.trans h.lt,h'.lo.trans h.lo,fun t ht=>by
  simp only[M1,not_or]at ht;rw[h'.tmps t ht.2,h.tmps t ht.1],fun k hk=>by rw[h'.objs k hk,h.objs k fun hk'=>hk (h'.dirty k hk')],fun k hk=>h'.dirty k (h.dirty k hk)⟩
theorem Frame.mono {m m':List Nat} {s s':St} (h:Frame m s s') (hm:∀t∈m,t∈m'):Frame m' s s':=
 ⟨h.lt,h.lo,fun t ht=>h.tmps t fun h'=>ht (hm t h'),h.objs,h.dirty⟩
theorem Frame.trans' {m:List Nat} {s s' s'':St} (h:Frame m s s') (h':Frame m s' s''):Frame m s s'':=(h.trans h').mono fun t ht=>by simpa using ht
theorem wL:∀(l:List Nat) (tmps:List V),(yf tmps l).length=tmps.length
 |[],_=>rfl
 |s::r,tmps=>by simp only[yf];rw[wL r,qk]
theorem wO {t:Nat}:∀(l:List Nat) (tmps:List V),t∉l→nth .any (yf tmps l) t=nth .any tmps t
 |[],_,_=>rfl
 |s::r,tmps,h=>by simp only[yf];rw[wO r _ fun h'=>h (by simp[h']),qe _ _ _ fun e=>h (by simp[e])]
theorem Xd {t:Nat}:∀(l:List Nat) (tmps:List V),t∈l∨nth .any tmps t= .any→nth .any (yf tmps l) t= .any
 |[],_,h=>by rcases h with h|h;exact absurd h (by simp);exact h
 |s::r,tmps,h=>by
  simp only[yf];refine Xd r _ ?_;by_cases hs:s=t
  ·subst hs;refine .inr ?_;rw[zm];split
   ·rfl
   ·rename_i hlt;rw[qJ _ (by simpa using hlt)]
  ·rcases h with h|h
   ·rcases Ls.1 h with h|h
    ·exact absurd h.symm hs
    ·exact .inl h
   ·exact .inr (by rw[qe _ _ _ hs];exact h)
theorem kw:∀(l:List Nat) (objs:List Obj),(jT objs l).length=objs.length
 |[],_=>rfl
 |s::r,objs=>by simp only[jT];rw[kw r,qk]
theorem jA {t:Nat}:∀(l:List Nat) (objs:List Obj),t∉l→nth .none (jT objs l) t=nth .none objs t
 |[],_,_=>rfl
 |s::r,objs,h=>by simp only[jT];rw[jA r _ fun h'=>h (by simp[h']),qe _ _ _ fun e=>h (by simp[e])]
theorem wP {t:Nat}:∀(l:List Nat) (objs:List Obj),t∈l∨nth .none objs t= .none→nth .none (jT objs l) t= .none
 |[],_,h=>by rcases h with h|h;exact absurd h (by simp);exact h
 |s::r,objs,h=>by
  simp only[jT];refine wP r _ ?_;by_cases hs:s=t
  ·subst hs;refine .inr ?_;rw[zm];split
   ·rfl
   ·rename_i hlt;rw[qJ _ (by simpa using hlt)]
  ·rcases h with h|h
   ·rcases Ls.1 h with h|h
    ·exact absurd h.symm hs
    ·exact .inl h
   ·exact .inr (by rw[qe _ _ _ hs];exact h)
theorem Sk {α:Type} (d:α) {l l':List α} (hl:l.length=l'.length) (h:∀i,nth d l i=nth d l' i):l=l':=by
 apply List.ext_getElem hl;intro i h1 h2;have:=h i
 rwa [qo _ h1,qo _ h2]at this
theorem Ki (l:List Nat):∀(i:Nat) (tmps:List V),(yg l i tmps).length=tmps.length
 |_,[]=>rfl
 |i,v::r=>by simp[yg,Ki l (i+1) r]
theorem Kj (l:List Nat):∀(i:Nat) (tmps:List V) (t:Nat),nth .any (yg l i tmps) t=if i+t∈l then .any else nth .any tmps t
 |_,[],_=>by simp[yg,nth]
 |i,v::r,0=>by
  simp only[yg,nth,cb];split
  ·rename_i h;rw[if_pos (ze.1 h)]
  ·rename_i h;rw[if_neg fun hm=>by rw[ze.2 hm]at h;simp at h]
 |i,v::r,t+1=>by simp only[yg,nth];rw[Kj l (i+1) r t,show i+1+t=i+(t+1)by omega]
theorem Vd (tmps:List V) (l:List Nat):JG tmps l=yf tmps l:=by
 refine Sk .any ?_ fun t=>?_
 ·unfold JG;rw[Ki,wL]
 ·unfold JG;rw[Kj,bm];by_cases h:t∈l
  ·rw[if_pos h,Xd _ _ (.inl h)]
  ·rw[if_neg h,wO _ _ h]
theorem ZF (l:List Nat):∀(i:Nat) (objs:List Obj),(wh l i objs).length=objs.length
 |_,[]=>rfl
 |i,v::r=>by simp[wh,ZF l (i+1) r]
theorem ZG (l:List Nat):∀(i:Nat) (objs:List Obj) (t:Nat),nth .none (wh l i objs) t=if i+t∈l then .none else nth .none objs t
 |_,[],_=>by simp[wh,nth]
 |i,v::r,0=>by
  simp only[wh,nth,cb];split
  ·rename_i h;rw[if_pos (ze.1 h)]
  ·rename_i h;rw[if_neg fun hm=>by rw[ze.2 hm]at h;simp at h]
 |i,v::r,t+1=>by simp only[wh,nth];rw[ZG l (i+1) r t,show i+1+t=i+(t+1)by omega]
theorem Kk (objs:List Obj) (l:List Nat):vi objs l=jT objs l:=by
 refine Sk .none ?_ fun t=>?_
 ·unfold vi;rw[ZF,kw]
 ·unfold vi;rw[ZG,bm];by_cases h:t∈l
  ·rw[if_pos h,wP _ _ (.inl h)]
  ·rw[if_neg h,jA _ _ h]
theorem Xe {t:Nat} {l:List Nat}:∀{m:List Nat},t∈OU m l↔t∈m∧t∉l
 |[]=>by simp[OU]
 |x::r=>by
  unfold OU;split
  ·rename_i h;have:=ze.1 h;rw[Xe];constructor
   ·intro h;exact⟨by simp[h.1],h.2⟩
   ·rintro⟨h1,h2⟩;rcases Ls.1 h1 with rfl|h1
    ·exact absurd this h2
    ·exact⟨h1,h2⟩
  ·rename_i h;have hx:x∉l:=fun hm=>by rw[ze.2 hm]at h;simp at h
   simp only[Ls];rw[Xe];constructor
   ·rintro(rfl|h)
    ·exact⟨.inl rfl,hx⟩
    ·exact⟨.inr h.1,h.2⟩
   ·rintro⟨rfl|h,h'⟩
    ·exact .inl rfl
    ·exact .inr ⟨h,h'⟩
theorem XX {k:Nat}:∀{ms:List MC} {i:Nat} {st m:St},DH k ms i st=some m→k∈st.dirty→Frame [] st m∧(∀j∈z4 ms,j∈m.dirty)∧(I3 C B F0 w0 st a w→I3 C B F0 w0 m a w)
 |[],i,st,m,h,hd=>by simp only[DH,cg]at h;subst h;exact⟨Frame.refl _ _,fun k hk=>by simp[z4]at hk,fun h=>h⟩
 | .dat z::r,i,st,m,h,hd=>by
  simp only[DH]at h;split at h
  ·rename_i cells hk;split at h
   ·rename_i hi;obtain⟨h1,h2,h3⟩:=XX h (by simp);refine⟨Frame.trans' (s':=⟨st.tmps,upd st.objs k (.box (upd cells i (.c (.sl [])))),k::st.dirty⟩) ⟨rfl,by simp only[qk],fun _ _=>rfl,fun j hj=>by
     simp only[Ls,not_or]at hj;exact qe _ _ _ (cc hj.1),fun j hj=>by simp[hj]⟩ h1,h2,fun hh=>h3 ?_⟩
    obtain⟨F,loc,hh⟩:=hh;exact⟨F,loc,hh.dataM hk hi⟩
   ·obtain⟨h1,h2,h3⟩:=XX h hd;exact⟨h1,h2,h3⟩
  ·simp at h
 | .own key size::r,i,st,m,h,hd=>by
  have hkeys:∀{m:St},key∈m.dirty→(∀k∈z4 r,k∈m.dirty)→∀j∈z4 (.own key size::r),j∈m.dirty:=fun h1 h3 j hj=>by
   simp only[z4,Ls]at hj;rcases hj with rfl|hj
   ·exact h1
   ·exact h3 j hj
  simp only[DH]at h;split at h
  ·rename_i cells hk;split at h
   ·rename_i hi;split at h
    ·rename_i hg;simp only[Hv,b9]at hg;obtain⟨h1,h2,h3⟩:=XX h (by simp);refine⟨Frame.trans' (s':=⟨st.tmps,upd (upd st.objs key (.arr size [] false)) k (.box (upd cells i (.arr key))),key::k::st.dirty⟩) ⟨rfl,by simp only[qk],fun _ _=>rfl,fun j hj=>by
      simp only[Ls,not_or]at hj;rw[qe _ _ _ (cc hj.2.1),qe _ _ _ (cc hj.1)],fun j hj=>by simp[hj]⟩ h1,hkeys (h1.dirty _ (by simp)) h2,fun hh=>h3 ?_⟩
     obtain⟨hlt,hh',hne⟩:=Q0 hg.1 hh;obtain⟨F,loc,hh'⟩:=hh';have hkk:k≠key:=hne k (by rw[hk];simp) (by rw[hk];simp);have this:=hh'.nilM (k:=k) (key:=key) (sz:=size) (i0:=i) (cells:=cells) (d:=key::k::st.dirty) (by
      show nth .none (upd st.objs key .none) k=_;rw[qe _ _ _ (cc hkk)];exact hk) hi (qg _ _ _ hlt) (by rw[qk];exact hlt) hg.2
     have he:upd (upd st.objs key .none) key (.arr size [] false)=upd st.objs key (.arr size [] false):=by simp[xr]
     simp only[he]at this;exact⟨F,loc,this⟩
    ·simp at h
   ·rename_i j hi;split at h
    ·obtain⟨h1,h2,h3⟩:=XX h (by simp);exact⟨Frame.trans' (s':=⟨st.tmps,st.objs,key::k::st.dirty⟩) ⟨rfl,rfl,fun _ _=>rfl,fun _ _=>rfl,fun i hi=>by simp[hi]⟩ h1,hkeys (h1.dirty _ (by simp)) h2,fun hh=>h3 (xt hh rfl rfl)⟩
    ·split at h
     ·rename_i sz es hj;split at h
      ·rename_i hg;obtain⟨h1,h2,h3⟩:=XX h (by simp);refine⟨Frame.trans' (s':=⟨st.tmps,upd (upd (upd st.objs j .dead) key (.arr sz es false)) k (.box (upd cells i (.arr key))),key::j::k::st.dirty⟩) ⟨rfl,by simp only[qk],fun _ _=>rfl,fun i hi=>by
        simp only[Ls,not_or]at hi;rw[qe _ _ _ (cc hi.2.2.1),qe _ _ _ (cc hi.1),qe _ _ _ (cc hi.2.1)],fun i hi=>by simp[hi]⟩ h1,
        hkeys (h1.dirty _ (by simp)) h2,fun hh=>h3 ?_⟩
       obtain⟨hlt,hh',hne⟩:=Q0 hg hh;obtain⟨F,loc,hh'⟩:=hh';have hkk:k≠key:=hne k (by rw[hk];simp) (by rw[hk];simp);have a4:j≠key:=hne j (by rw[hj];simp) (by rw[hj];simp);obtain⟨a3,this⟩:=hh'.moveM (k:=k) (j:=j) (key:=key) (sz:=sz) (es:=es) (i0:=i) (cells:=cells) (d:=key::j::k::st.dirty) (by
        show nth .none (upd st.objs key .none) k=_;rw[qe _ _ _ (cc hkk)];exact hk) hi (by
        show nth .none (upd st.objs key .none) j=_;rw[qe _ _ _ (cc a4)];exact hj) (qg _ _ _ hlt) (by rw[qk];exact hlt)
       have he:upd (upd (upd st.objs key .none) j .dead) key (.arr sz es false)=upd (upd st.objs j .dead) key (.arr sz es false):=by rw[yN st.objs key j _ _ (.inl (cc a4))];simp[xr]
       simp only[he]at this;exact⟨F,a3,this⟩
      ·simp at h
     ·simp at h
   ·simp at h
  ·simp at h
theorem zG:∀{locs:List Loc} {st m:St},wE locs st=some m→Frame (qT locs) st m∧(∀k∈xm locs,k∈m.dirty)∧(I3 C B F0 w0 st a w→I3 C B F0 w0 m a w)
 |[],st,m,h=>by simp only[wE,cg]at h;subst h;exact⟨Frame.refl _ _,fun k hk=>by simp[xm]at hk,fun h=>h⟩
 | .slot s z::r,st,m,h=>by
  simp only[wE]at h;split at h
  ·rename_i hv;obtain⟨h1,h2,h3⟩:=zG h;refine⟨Frame.trans' (s':=⟨upd st.tmps s (.c (.sl [])),st.objs,st.dirty⟩) ⟨qk _ _ _,rfl,fun t ht=>qe _ _ _ fun e=>ht (by simp[qT,e]),fun _ _=>rfl,fun _ h=>h⟩ (h1.mono fun t ht=>by simp[qT,ht]),h2,fun hh=>h3 ?_⟩;obtain⟨F,loc,hh⟩:=hh;exact⟨F,loc,hh.weakT (fun x hx=>by
    rw[hv]at hx;have hx:x= .slice none 0 0:=hx;subst hx;exact CD.nil _ _) trivial⟩
  ·rename_i k hv;split at h
   ·rename_i sz es fz hk;have hlt:k<st.objs.length:=by
     rcases be k st.objs.length with h1|h1
     ·exact h1
     ·rw[qJ _ h1]at hk;simp at hk
    obtain⟨h1,h2,h3⟩:=zG h;refine⟨Frame.trans' (s':=⟨upd st.tmps s (.c (.sl es)),upd st.objs k (.arr sz es true),k::st.dirty⟩) ⟨qk _ _ _,qk _ _ _,fun t ht=>qe _ _ _ fun e=>ht (by simp[qT,e]),fun j hj=>qe _ _ _ fun e=>hj (by simp[e]),fun j hj=>by simp[hj]⟩ (h1.mono fun t ht=>by simp[qT,ht]),h2,fun hh=>h3 ?_⟩;obtain⟨F,loc,hh⟩:=hh;have h4:=hh.freeze1 hk;refine⟨_,loc,h4.weakT (t:=s) (v:= .c (.sl es)) (fun x hx=>?_) trivial⟩;have an:nth .none (upd st.objs k (.arr sz es true)) k= .arr sz es true:=qg _ _ _ hlt;have h0:=h4.objs k;simp only at h0 hx;rw[an]at h0;rw[hv]at hx;exact WQ an h0 hx (fun _ h=>h) (fun b c hl=> .inr ⟨c,hl⟩)
   ·simp at h
  ·obtain⟨h1,h2,h3⟩:=zG h;exact⟨h1.mono fun t ht=>by simp[qT,ht],h2,h3⟩
 | .box k z::r,st,m,h=>by
  simp only[wE]at h;split at h
  ·rename_i ag hk;split at h
   ·rename_i ds hd;obtain⟨h1,h2,h3⟩:=zG h;refine⟨Frame.trans' (s':=⟨st.tmps,upd st.objs k (.box (ds.map V.c)),k::st.dirty⟩) ⟨rfl,qk _ _ _,fun _ _=>rfl,fun j hj=>qe _ _ _ fun e=>hj (by simp[e]),fun j hj=>by simp[hj]⟩ h1,fun j hj=>?_,fun hh=>h3 ?_⟩
    ·simp only[xm,Ls]at hj;rcases hj with rfl|hj
     ·exact h1.dirty _ (by simp)
     ·exact h2 j hj
    ·obtain⟨F,loc,hh⟩:=hh;exact⟨F,loc,hh.boxData hk hd⟩
   ·simp at h
  ·simp at h
 | .own s key size::r,st,m,h=>by
  simp only[wE]at h;have a6:∀t,t∈qT r→t∈qT (.own s key size::r):=fun t ht=>by simp[qT,ht]
  have a3:∀{m:St},key∈m.dirty→(∀k∈xm r,k∈m.dirty)→∀k∈xm (.own s key size::r),k∈m.dirty:=fun h1 h2 k hk=>by
   simp only[xm,Ls]at hk;rcases hk with rfl|hk
   ·exact h1
   ·exact h2 k hk
  split at h
  ·rename_i hv;split at h
   ·rename_i hg;simp only[Hv,b9]at hg;obtain⟨h1,h2,h3⟩:=zG h;refine⟨Frame.trans' (s':=⟨upd st.tmps s (.arr key),upd st.objs key (.arr size [] false),key::st.dirty⟩) ⟨qk _ _ _,qk _ _ _,fun t ht=>qe _ _ _ fun e=>ht (by simp[qT,e]),fun j hj=>qe _ _ _ fun e=>hj (by simp[e]),fun j hj=>by simp[hj]⟩ (h1.mono a6),
     a3 (h1.dirty _ (by simp)) h2,fun hh=>h3 ?_⟩
    obtain⟨hlt,a4,_⟩:=Q0 hg.1 hh;obtain⟨F,loc,a4⟩:=a4;have:=a4.nilOwn (s:=s) (key:=key) (sz:=size) (d:=key::st.dirty) hv (qg _ _ _ hlt) (by rw[qk];exact hlt) hg.2;have he:upd (upd st.objs key .none) key (.arr size [] false)=upd st.objs key (.arr size [] false):=by simp[xr]
    simp only[he]at this;exact⟨F,loc,this⟩
   ·simp at h
  ·rename_i k hv;split at h
   ·obtain⟨h1,h2,h3⟩:=zG h;refine⟨Frame.trans' (s':=⟨st.tmps,st.objs,key::st.dirty⟩) ⟨rfl,rfl,fun _ _=>rfl,fun _ _=>rfl,fun j hj=>by simp[hj]⟩ (h1.mono a6),a3 (h1.dirty _ (by simp)) h2,fun hh=>h3 (xt hh rfl rfl)⟩
   ·split at h
    ·rename_i sz es hk;split at h
     ·rename_i hg;obtain⟨h1,h2,h3⟩:=zG h;refine⟨Frame.trans' (s':=⟨upd st.tmps s (.arr key),upd (upd st.objs k .dead) key (.arr sz es false),key::k::st.dirty⟩) ⟨qk _ _ _,by simp only[qk],fun t ht=>qe _ _ _ fun e=>ht (by simp[qT,e]),
       fun j hj=>by
        simp only[Ls,not_or]at hj;rw[qe _ _ _ (cc hj.1),qe _ _ _ (cc hj.2.1)],fun j hj=>by simp[hj]⟩ (h1.mono a6),a3 (h1.dirty _ (by simp)) h2,fun hh=>h3 ?_⟩
      obtain⟨hlt,a4,a8⟩:=Q0 hg hh;obtain⟨F,loc,a4⟩:=a4;have a7:k≠key:=a8 k (by rw[hk];simp) (by rw[hk];simp);obtain⟨a5,this⟩:=a4.move (s:=s) (k:=k) (key:=key) (sz:=sz) (es:=es) (d:=key::k::st.dirty) hv (by
       show nth .none (upd st.objs key .none) k=_;rw[qe _ _ _ (cc a7)];exact hk) (qg _ _ _ hlt) (by rw[qk];exact hlt)
      have he:upd (upd (upd st.objs key .none) k .dead) key (.arr sz es false)=upd (upd st.objs k .dead) key (.arr sz es false):=by rw[yN st.objs key k _ _ (.inl (cc a7))];simp[xr]
      simp only[he]at this;exact⟨F,a5,this⟩
     ·simp at h
    ·simp at h
  ·rename_i k off ad hv;split at h
   ·rename_i sz es hk;split at h
    ·rename_i hg;obtain⟨h1,h2,h3⟩:=zG h;refine⟨Frame.trans' (s':=⟨upd st.tmps s (.arr key),upd (upd st.objs k .dead) key (.arr sz (es.take ad) false),key::k::st.dirty⟩) ⟨qk _ _ _,by simp only[qk],fun t ht=>qe _ _ _ fun e=>ht (by simp[qT,e]),
      fun j hj=>by
       simp only[Ls,not_or]at hj;rw[qe _ _ _ (cc hj.1),qe _ _ _ (cc hj.2.1)],fun j hj=>by simp[hj]⟩ (h1.mono a6),a3 (h1.dirty _ (by simp)) h2,fun hh=>h3 ?_⟩
     obtain⟨hlt,a4,a8⟩:=Q0 hg hh;obtain⟨F,loc,a4⟩:=a4;have a7:k≠key:=a8 k (by rw[hk];simp) (by rw[hk];simp);obtain⟨a5,this⟩:=a4.moveN (s:=s) (k:=k) (key:=key) (sz:=sz) (es:=es) (n:=ad) (d:=key::k::st.dirty) hv (by
      show nth .none (upd st.objs key .none) k=_;rw[qe _ _ _ (cc a7)];exact hk) (qg _ _ _ hlt) (by rw[qk];exact hlt)
     have he:upd (upd (upd st.objs key .none) k .dead) key (.arr sz (es.take ad) false)=upd (upd st.objs k .dead) key (.arr sz (es.take ad) false):=by rw[yN st.objs key k _ _ (.inl (cc a7))];simp[xr]
     simp only[he]at this;exact⟨F,a5,this⟩
    ·simp at h
   ·simp at h
  ·simp at h
 | .bld k T key::r,st,m,h=>by
  simp only[wE]at h;have a3:∀{m:St},key∈m.dirty→k∈m.dirty→(∀k∈xm r,k∈m.dirty)→∀j∈xm (.bld k T key::r),j∈m.dirty:=fun h1 h2 h3 j hj=>by
   simp only[xm,Ls]at hj;rcases hj with rfl|rfl|hj
   ·exact h2
   ·exact h1
   ·exact h3 j hj
  split at h
  ·rename_i T' q hk;split at h
   ·split at h
    ·split at h
     ·rename_i hg;obtain⟨h1,h2,h3⟩:=zG h;refine⟨Frame.trans' (s':=⟨st.tmps,upd (upd st.objs key (.arr 1 [] false)) k (.bld T' (.arr key)),key::k::st.dirty⟩) ⟨rfl,by simp only[qk],fun _ _=>rfl,fun i hi=>by
       simp only[Ls,not_or]at hi;rw[qe _ _ _ (cc hi.2.1),qe _ _ _ (cc hi.1)],fun i hi=>by simp[hi]⟩ h1,
       a3 (h1.dirty _ (by simp)) (h1.dirty _ (by simp)) h2,fun hh=>h3 ?_⟩
      obtain⟨hlt,a4,a8⟩:=Q0 hg hh;obtain⟨F,loc,a4⟩:=a4;have a7:k≠key:=a8 k (by rw[hk];simp) (by rw[hk];simp);obtain⟨a5,this⟩:=a4.nilB (k:=k) (key:=key) (T:=T') (d:=key::k::st.dirty) (by
       show nth .none (upd st.objs key .none) k=_;rw[qe _ _ _ (cc a7)];exact hk) (qg _ _ _ hlt) (by rw[qk];exact hlt)
      have he:upd (upd st.objs key .none) key (.arr 1 [] false)=upd st.objs key (.arr 1 [] false):=by simp[xr]
      simp only[he]at this;exact⟨F,a5,this⟩
     ·simp at h
    ·rename_i j;split at h
     ·obtain⟨h1,h2,h3⟩:=zG h;exact⟨Frame.trans' (s':=⟨st.tmps,st.objs,key::k::st.dirty⟩) ⟨rfl,rfl,fun _ _=>rfl,fun _ _=>rfl,fun i hi=>by simp[hi]⟩ h1,a3 (h1.dirty _ (by simp)) (h1.dirty _ (by simp)) h2,fun hh=>h3 (xt hh rfl rfl)⟩
     ·split at h
      ·rename_i sz es hj;split at h
       ·rename_i hg;simp only[Hv]at hg;obtain⟨h1,h2,h3⟩:=zG h;refine⟨Frame.trans' (s':=⟨st.tmps,upd (upd (upd st.objs j .dead) key (.arr sz es false)) k (.bld T' (.arr key)),key::j::k::st.dirty⟩) ⟨rfl,by simp only[qk],fun _ _=>rfl,fun i hi=>by
         simp only[Ls,not_or]at hi;rw[qe _ _ _ (cc hi.2.2.1),qe _ _ _ (cc hi.1),qe _ _ _ (cc hi.2.1)],fun i hi=>by simp[hi]⟩ h1,
         a3 (h1.dirty _ (by simp)) (h1.dirty _ (by simp)) h2,fun hh=>h3 ?_⟩
        obtain⟨hlt,a4,a8⟩:=Q0 hg.2 hh;obtain⟨F,loc,a4⟩:=a4;have a7:k≠key:=a8 k (by rw[hk];simp) (by rw[hk];simp);have al:j≠key:=a8 j (by rw[hj];simp) (by rw[hj];simp);obtain⟨a5,this⟩:=a4.moveB (k:=k) (j:=j) (key:=key) (T:=T') (sz:=sz) (es:=es) (d:=key::j::k::st.dirty) (by
         show nth .none (upd st.objs key .none) k=_;rw[qe _ _ _ (cc a7)];exact hk) (by
         show nth .none (upd st.objs key .none) j=_;rw[qe _ _ _ (cc al)];exact hj) (qg _ _ _ hlt) (by rw[qk];exact hlt)
        have he:upd (upd (upd st.objs key .none) j .dead) key (.arr sz es false)=upd (upd st.objs j .dead) key (.arr sz es false):=by rw[yN st.objs key j _ _ (.inl (cc al))];simp[xr]
        simp only[he]at this;exact⟨F,a5,this⟩
       ·simp at h
      ·simp at h
    ·simp at h
   ·simp at h
  ·simp at h
 | .mix k ms::r,st,m,h=>by
  simp only[wE]at h;split at h
  ·rename_i st' hm;obtain⟨g1,g2,g3⟩:=XX (C:=C) (B:=B) (F0:=F0) (w0:=w0) (a:=a) (w:=w) hm (by simp);obtain⟨h1,h2,h3⟩:=zG h;refine⟨Frame.trans' (Frame.trans' (s':=⟨st.tmps,st.objs,k::st.dirty⟩) ⟨rfl,rfl,fun _ _=>rfl,fun _ _=>rfl,fun i hi=>by simp[hi]⟩ (g1.mono fun t ht=>by simp at ht)) h1,fun j hj=>?_,fun hh=>h3 (g3 (xt hh rfl rfl))⟩;simp only[xm,Ls,M1]at hj;rcases hj with rfl|hj|hj
   ·exact h1.dirty _ (g1.dirty _ (by simp))
   ·exact h1.dirty _ (g2 j hj)
   ·exact h2 j hj
  ·simp at h
structure Norm (mt ms:List Nat) (locs:List Loc) (st m:St):Prop where
 lt:m.tmps.length=st.tmps.length
 lo:m.objs.length=st.objs.length
 tin:∀t,t∈mt→t∉qT locs→nth .any m.tmps t= .any
 tout:∀t,t∉mt→t∉qT locs→nth .any m.tmps t=nth .any st.tmps t
 oin:∀k,k∈ms→nth .none m.objs k= .none
 oout:∀k,k∉m.dirty→nth .none m.objs k=nth .none st.objs k
 dirty:∀k,k∈st.dirty∨k∈xm locs→k∈m.dirty
 ok:za locs m=true
theorem zY (d d':List Nat) (t:List V) (o:List Obj):∀(locs:List Loc),za locs ⟨t,o,d⟩=za locs ⟨t,o,d'⟩
 |[]=>rfl
 | .slot s z::r=>by simp only[za];rw[zY d d' t o r]
 | .box k z::r=>by simp only[za];rw[zY d d' t o r]
 | .own s key size::r=>by simp only[za];rw[zY d d' t o r]
 | .bld k T key::r=>by simp only[za];rw[zY d d' t o r]
 | .mix k ms::r=>by simp only[za];rw[zY d d' t o r]
theorem TJ {mt ms:List Nat} {locs:List Loc} {st m:St} (h:norm mt ms locs st=some m):Norm mt ms locs st m∧(I3 C B F0 w0 st a w→I3 C B F0 w0 m a w):=by
 unfold norm at h;simp only[Vd,Kk]at h;split at h
 ·simp at h
 ·rename_i s1 h1;split at h
  ·simp at h
  ·rename_i hc;simp only[Hx,Bool.not_eq_false']at hc;obtain⟨⟨hc1,hc2⟩,hc3⟩:=hc;simp only[cg]at h;subst h;obtain⟨f1,f2,f3⟩:=zG (C:=C) (B:=B) (F0:=F0) (w0:=w0) (a:=a) (w:=w) h1;refine⟨⟨f1.lt.trans (wL _ _),(kw _ _).trans f1.lo,fun t ht hs=>?_,fun t ht hs=>?_,fun k hk=>wP _ _ (.inl hk),fun k hk=>?_,fun k hk=>?_,by rw[zY _ []];exact hc3⟩,fun hh=>?_⟩
   ·rw[f1.tmps t hs];exact Xd _ _ (.inl (Xe.2 ⟨ht,hs⟩))
   ·rw[f1.tmps t hs];exact wO _ _ fun h=>ht (Xe.1 h).1
   ·simp only[M1,not_or]at hk;show nth .none (jT s1.objs ms) k=_;rw[jA _ _ hk.1,f1.objs k hk.2]
   ·refine M0 _ ?_;rcases hk with hk|hk
    ·exact f1.dirty k hk
    ·exact f2 k hk
   ·obtain⟨F,loc,a3⟩:=f3 (Vb _ hh);obtain⟨a4,a3⟩:=a3.forgets (ks:=ms) (objs':=jT s1.objs ms) (d:=ms++s1.dirty) (fun k hk=>wP _ _ (.inl hk)) (fun k hk=>jA _ _ hk) hc1 hc2;exact⟨F,a4,a3⟩
end
end Eng
end
