/- The engine, part 17: what an operation looks at, and what it turns. -/
import Derived.Test.YtbehlcfelmbmlaaGreatDoorEngB
open Array renaming toList_append→Aa, getD→Ab, getElem?_eq_some_iff→Ac, getElem?_eq_getElem→Ad
open Bool renaming and_eq_true→Ae, or_eq_false_iff→Af, or_eq_true→Ah, not_eq_true'→Ai
open Eng.CO renaming le→Aj
open Eng.Obj.arr renaming injEq→Ak
open Eng.St renaming has→Al, put→Am
open Go.Call renaming operands→An
open Go.Obj.cells renaming injEq→Ao
open Go.Op renaming operands→Ap
open Go.Region renaming binds→Aq, wanted→Ar
open List renaming mem_cons→As, mem_singleton→At, mem_map→Au, mem_append_right→Av, mem_append→Aw, getElem?_cons_zero→Ax, getElem?_cons_succ→Ay, mem_flatMap→Az, getElem_mem→A0, mem_cons_of_mem→A1, map_congr_left→A2, rel_of_pairwise_cons→A3, getElem?_take_of_lt→A4, pairwise_append→A5, mem_of_mem_take→A6, append_assoc→A7, not_mem_nil→A8, append_nil→A9, mem_range→AA, set_comm→AB, map_nil→AC
open Nat renaming lt_or_ge→AD, eq_of_beq_eq_true→AE, zero_add→AF, not_lt→AG, add_assoc→AH, add_comm→AI, blt_eq→AJ, testBit_or→AK, add_zero→AL
open Ne renaming symm→AM
open Option.some renaming injEq→AN, inj→AO
open Prod.mk renaming injEq→AP
section
namespace Eng
open Go Go.RowKit
section
variable {C:Cx} {ob:List Obj}
theorem kq {ρ ρ':Operand→V}:∀{ps:List (Nat×Operand)},(∀p∈ps,ρ p.2=ρ' p.2)→xG ob ρ ps=xG ob ρ' ps
 |[],_=>rfl
 |(i,x)::ps,h=>by simp only[xG];rw[h (i,x) (by simp),kq fun u hu=>h u (by simp[hu])]
theorem Y9 {o:Oper} {ρ ρ':Operand→V} (h:∀x∈o.op.operands.toList,ρ x=ρ' x):xc C o ρ ob=xc C o ρ' ob:=by
 obtain⟨dst,op,ty,pos,a3,g⟩:=o;cases op with
 |alloc t=>rfl
 |move x|assign x|unOp op t x|convert s t x|field t x f|extract x i|box t x|load t x|nilCheck x|fieldAddr t x f=>simp only[xc];rw[h x (by simp[Ap])]
 |pick c x y=>simp only[xc];rw[h c (by simp[Ap]),h x (by simp[Ap]),h y (by simp[Ap])]
 |binOp op t x y t2=>simp only[xc];rw[h x (by simp[Ap]),h y (by simp[Ap])]
 |index t x y=>simp only[xc];rw[h x (by simp[Ap]),h y (by simp[Ap])]
 |indexAddr t x y=>simp only[xc];rw[h x (by simp[Ap]),h y (by simp[Ap])]
 |makeSlice t x y=>simp only[xc];rw[h x (by simp[Ap]),h y (by simp[Ap])]
 |store t x y=>simp only[xc];rw[h x (by simp[Ap]),h y (by simp[Ap])]
 |slice t x lo hi mx=>
  have ho:∀z:Option Operand,(∀x,z=some x→ρ x=ρ' x)→xF ρ z=xF ρ' z:=fun z hz=>by
   cases z with
   |none=>rfl
   |some x=>simp only[xF];rw[hz x rfl]
  simp only[xc];rw[h x (by simp[Ap]),ho lo (fun y hy=>h y (by subst hy;simp[Ap])),ho hi (fun y hy=>h y (by subst hy;simp[Ap])),ho mx (fun y hy=>h y (by subst hy;simp[Ap]))]
 |build t parts=>
  have h1:xG ob ρ parts.toList=xG ob ρ' parts.toList:=kq fun p hp=>h p.2 (by simp only[Ap];exact Au.2 ⟨p,hp,rfl⟩)
  simp only[xc,h1]
 |buildSlice t len parts=>
  have h1:xG ob ρ parts.toList=xG ob ρ' parts.toList:=kq fun p hp=>h p.2 (by simp only[Ap];exact Au.2 ⟨p,hp,rfl⟩)
  simp only[xc,h1]
 |makeFunc fn first captured=>
  have hc:captured.toList.map ρ=captured.toList.map ρ':=A2 fun x hx=>h x (by simp only[Ap,Aa];exact Av _ hx)
  simp only[xc];rw[hc]
 |call c=>
  obtain⟨a2,a1,ts⟩:=c;have a0:∀x∈a1.toList,ρ x=ρ' x:=fun x hx=>h x (by
   simp only[Ap,An,Aa];exact Av _ hx)
  simp only[xc];split
  ·rw[A2 a0]
  ·rename_i t;rw[A2 a0,h (.tmp t) (by simp[Ap,An])]
  ·split
   ·rename_i x hx;rw[a0 x (by rw[hx];simp)]
   ·rfl
  ·split
   ·rename_i x y hx;rw[a0 x (by rw[hx];simp),a0 y (by rw[hx];simp)]
   ·rfl
  ·split
   ·rename_i x hx;rw[a0 x (by rw[hx];simp)]
   ·rfl
  ·split
   ·rename_i x y hx;rw[a0 x (by rw[hx];simp),a0 y (by rw[hx];simp)]
   ·rfl
  ·split
   ·rename_i x y hx;rw[a0 x (by rw[hx];simp),a0 y (by rw[hx];simp)]
   ·rfl
  ·rfl
 |_=>rfl
def UOk (C:Cx) (o:Oper) (ρ:Operand→V) (ob:List Obj) (up:List (Nat×Obj)) (p:Nat×Obj):Prop:=
 ((p.1∈Hh C o∧qq ob p.1=true)∨(p.1∈opk o ρ ob∧cls C o≠0∧nth .none ob p.1≠ .none∧(cls C o≤1→∃s es fz,nth .none ob p.1= .arr s es fz∧p.2= .arr s es true)))∧
 p.2≠ .none∧∀u∈qM p.2,VOk ob up u
def GoodR (C:Cx) (o:Oper) (ρ:Operand→V) (ob:List Obj):R→Prop
 | .fail=>True
 | .ok v up=>(∀p∈up,UOk C o ρ ob up p)∧VOk ob up v
 | .cond (dc:=_) _ v up=>(∀p∈up,UOk C o ρ ob up p)∧VOk ob up v
 | .look .. =>True
 | .call _ _ _ up=>∀p∈up,UOk C o ρ ob up p
theorem Xh (v:Value):qk (kO v)=[]:=by
 unfold kO;split<;>try rfl
 split<;>rfl
def FzOk (vs:List V) (ob:List Obj) (us:List (Nat×Obj)):Prop:=∀p∈us,(∃v∈vs,p.1∈qk v)∧∃s es fz,nth .none ob p.1= .arr s es fz∧p.2= .arr s es true
theorem XV:∀{cs:List VC} {ds:List D} {us:List (Nat×Obj)},dataC ob cs=some (ds,us)→∀p∈us,p.1∈zW cs∧∃s es fz,nth .none ob p.1= .arr s es fz∧p.2= .arr s es true
 |[],ds,us,h,p,hp=>by simp only[dataC,AN,AP]at h;obtain⟨_,rfl⟩:=h;simp at hp
 |c::r,ds,us,h,p,hp=>by
  simp only[dataC]at h;split at h
  ·rename_i d u ds' us' h1 h2;simp only[AN,AP]at h;obtain⟨_,rfl⟩:=h;rcases Aw.1 hp with hp|hp
   ·unfold Kq at h1;split at h1
    ·simp only[AN,AP]at h1;obtain⟨_,rfl⟩:=h1;simp at hp
    ·simp only[AN,AP]at h1;obtain⟨_,rfl⟩:=h1;simp at hp
    ·split at h1
     ·rename_i k _ s es fz hk;simp only[AN,AP]at h1;obtain⟨_,rfl⟩:=h1;simp only[At]at hp;subst hp;exact⟨by simp[zW],_,_,_,hk,rfl⟩
     ·simp at h1
   ·obtain⟨q1,q2⟩:=XV h2 p hp;exact⟨xi.2 (A1 _ (xi.1 q1)),q2⟩
  ·simp at h
theorem YA {v:V} {ds:List D} {us:List (Nat×Obj)} (h:cellsOf ob v=some (ds,us)):FzOk [v] ob us:=by
 unfold cellsOf at h;split at h<;>try (simp only[AN,AP]at h;obtain⟨_,rfl⟩:=h;exact fun _ hp=>absurd hp (by simp))
 ·split at h
  ·rename_i k _ s es fz hk;simp only[AN,AP]at h;obtain⟨_,rfl⟩:=h;intro p hp;simp only[At]at hp;subst hp;exact⟨⟨.arr k,by simp,by simp[qk]⟩,_,_,_,hk,rfl⟩
  ·simp at h
 ·rename_i cs;intro p hp;obtain⟨q1,q2⟩:=XV h p hp;exact⟨⟨_,At.2 rfl,q1⟩,q2⟩
 ·simp at h
theorem RD {v:V} {d:A} {us:List (Nat×Obj)} (h:toA ob v=some (d,us)):FzOk [v] ob us:=by
 unfold toA at h;split at h<;>try (simp only[AN,AP]at h;obtain⟨_,rfl⟩:=h;exact fun _ hp=>absurd hp (by simp))
 ·split at h
  ·rename_i k _ s es fz hk;simp only[AN,AP]at h;obtain⟨_,rfl⟩:=h;intro p hp;simp only[At]at hp;subst hp;exact⟨⟨.arr k,by simp,by simp[qk]⟩,_,_,_,hk,rfl⟩
  ·simp at h
 ·split at h
  ·rename_i cs ds' us' h2;simp only[AN,AP]at h;obtain⟨_,rfl⟩:=h;intro p hp;obtain⟨q1,q2⟩:=XV h2 p hp;exact⟨⟨_,At.2 rfl,q1⟩,q2⟩
  ·simp at h
 ·simp at h
theorem Lk {v:V} {d:List (List D)} {us:List (Nat×Obj)} (h:kM ob v=some (d,us)):FzOk [v] ob us:=by
 unfold kM at h;split at h<;>try (simp only[AN,AP]at h;obtain⟨_,rfl⟩:=h;exact fun _ hp=>absurd hp (by simp))
 ·split at h
  ·rename_i k _ s es fz hk;simp only[AN,AP]at h;obtain⟨_,rfl⟩:=h;intro p hp;simp only[At]at hp;subst hp;exact⟨⟨.arr k,by simp,by simp[qk]⟩,_,_,_,hk,rfl⟩
  ·simp at h
 ·simp at h
theorem FzOk.mono {vs vs':List V} {us:List (Nat×Obj)} (h:FzOk vs ob us) (hs:∀v∈vs,v∈vs'):FzOk vs' ob us:=fun p hp=>by
 obtain⟨⟨v,h1,h2⟩,h3⟩:=h p hp;exact⟨⟨v,hs v h1,h2⟩,h3⟩
theorem FzOk.append {vs:List V} {us us':List (Nat×Obj)} (h:FzOk vs ob us) (h':FzOk vs ob us'):FzOk vs ob (us++us'):=fun p hp=>by
 rcases Aw.1 hp with hp|hp
 ·exact h p hp
 ·exact h' p hp
theorem yZ:∀{vs:List V} {ds:List A} {us:List (Nat×Obj)},kL ob vs=some (ds,us)→FzOk vs ob us
 |[],ds,us,h=>by simp only[kL,AN,AP]at h;obtain⟨_,rfl⟩:=h;exact fun _ hp=>absurd hp (by simp)
 |v::vs,ds,us,h=>by
  simp only[kL]at h;split at h
  ·rename_i d u as us' h1 h2;simp only[AN,AP]at h;obtain⟨_,rfl⟩:=h;exact((RD h1).mono (by simp)).append ((yZ h2).mono fun v hv=>by simp[hv])
  ·simp at h
theorem wI {ρ:Operand→V}:∀{ps:List (Nat×Operand)} {qs:List (Nat×List D)} {us:List (Nat×Obj)},xG ob ρ ps=some (qs,us)→FzOk (ps.map fun p=>ρ p.2) ob us
 |[],ds,us,h=>by simp only[xG,AN,AP]at h;obtain⟨_,rfl⟩:=h;exact fun _ hp=>absurd hp (by simp)
 |(i,x)::vs,ds,us,h=>by
  simp only[xG]at h;split at h
  ·rename_i d u as us' h1 h2;simp only[AN,AP]at h;obtain⟨_,rfl⟩:=h;exact((YA h1).mono (by simp)).append ((wI h2).mono fun v hv=>by simp only[List.map_cons,As];exact .inr hv)
  ·simp at h
theorem FzOk.up {o:Oper} {ρ:Operand→V} {vs:List V} {us:List (Nat×Obj)} (h:FzOk vs ob us) (hv:∀v∈vs,∃x∈o.op.operands.toList,ρ x=v) (hc:cls C o≠0) (up:List (Nat×Obj)):∀p∈us,UOk C o ρ ob up p:=fun p hp=>by
 obtain⟨⟨v,h1,h2⟩,s,es,fz,h3,h4⟩:=h p hp;obtain⟨x,hx,rfl⟩:=hv v h1;exact⟨.inr ⟨wj hx h2,hc,by rw[h3];simp,fun _=>⟨s,es,fz,h3,h4⟩⟩,by rw[h4];simp,fun u hu=>by rw[h4]at hu;simp[qM]at hu⟩
theorem GoodR.data {o:Oper} {ρ:Operand→V} {v:V} (hv:qk v=[]):GoodR C o ρ ob (.ok v []):=⟨fun _ h=>absurd h (by simp),fun k hk=>by rw[hv]at hk;simp at hk⟩
theorem GoodR.dataC {o:Oper} {ρ:Operand→V} {c:Prop} [Decidable c] {v:V} (hv:qk v=[]):GoodR C o ρ ob (.cond c v []):=⟨fun _ h=>absurd h (by simp),fun k hk=>by rw[hv]at hk;simp at hk⟩
theorem GoodR.same {o:Oper} {ρ:Operand→V} {v:V} (hv:∀k∈qk v,nth .none ob k≠ .none):GoodR C o ρ ob (.ok v []):=⟨fun _ h=>absurd h (by simp),fun k hk=> .inl (hv k hk)⟩
theorem GoodR.sameC {o:Oper} {ρ:Operand→V} {c:Prop} [Decidable c] {v:V} (hv:∀k∈qk v,nth .none ob k≠ .none):GoodR C o ρ ob (.cond c v []):=⟨fun _ h=>absurd h (by simp),fun k hk=> .inl (hv k hk)⟩
theorem GoodR.new {o:Oper} {ρ:Operand→V} {d:Nat} {x:Obj} {us:List (Nat×Obj)} {v:V} (hd:o.dst=some d) (hf:qq ob d=true) (hx:x≠ .none) (hc:∀u∈qM x,qk u=[]) (hu:∀p∈us,UOk C o ρ ob (us++[(d,x)]) p)
 (hv:∀k∈qk v,k=d):(∀p∈us++[(d,x)],UOk C o ρ ob (us++[(d,x)]) p)∧VOk ob (us++[(d,x)]) v:=by
 refine⟨fun p hp=>?_,fun k hk=> .inr ?_⟩
 ·rcases Aw.1 hp with hp|hp
  ·exact hu p hp
  ·simp only[At]at hp;subst hp;exact⟨.inl ⟨yq hd,hf⟩,hx,fun u hu j hj=>by rw[hc u hu]at hj;simp at hj⟩
 ·rw[hv k hk];exact⟨hf,x,by simp⟩
theorem Hz {o:Oper} {ρ:Operand→V} {P:Program} {op:BinOp} {t:TypeId} {x y:V}:GoodR C o ρ ob (eqV P op t x y):=by
 have hb:GoodR C o ρ ob (PW op x y):=by
  unfold PW;split
  ·split
   ·unfold shV;split<;>first|trivial|exact GoodR.data rfl|exact GoodR.dataC rfl
   split
   ·trivial
   ·split<;>first|trivial|exact GoodR.data rfl|exact GoodR.dataC rfl
  ·split<;>first|trivial|exact GoodR.data rfl|exact GoodR.dataC rfl
  ·trivial
 unfold eqV;split
 ·split
  ·split<;>first|trivial|exact GoodR.data rfl
  ·trivial
 ·unfold PY;split
  ·split
   ·split<;>first|trivial|exact GoodR.dataC rfl
   ·trivial
  ·trivial
 ·exact hb
theorem H0 {o:Oper} {ρ:Operand→V} {P:Program} {op:BinOp} {t:TypeId} {xo yo:Operand} {x y:V}:GoodR C o ρ ob (Oc P op t xo yo x y):=by
 unfold Oc;split
 ·split
  ·split
   ·split<;>first|trivial|exact GoodR.data rfl
   ·trivial
  ·trivial
 ·split
  ·split<;>first|trivial|exact GoodR.dataC rfl
  ·trivial
 ·exact Hz
theorem Vb {o:Oper} {ρ:Operand→V} {big:Bool} {x y:V}:GoodR C o ρ ob (mxV big x y):=by
 unfold mxV;split
 ·split
  ·split<;>exact GoodR.data rfl
  ·trivial
 ·trivial
theorem KB:∀{vs:List V} {ps:List D} {us:List (Nat×Obj)},Ks ob vs=some (ps,us)→∀p∈us,(∃v∈vs,p.1∈qk v)∧(∃cells,nth .none ob p.1= .box cells)∧p.2= .dead
 |[],ps,us,h=>by simp only[Ks,AN,AP]at h;obtain⟨_,rfl⟩:=h;exact fun _ hp=>absurd hp (by simp)
 |v::vs,ps,us,h=>by
  unfold Ks at h;split at h
  ·rename_i k;split at h
   ·rename_i cells hk;split at h
    ·rename_i ds ps' us' hds hr;simp only[AN,AP]at h;obtain⟨_,rfl⟩:=h;intro p hp;rcases As.1 hp with rfl|hp
     ·exact⟨⟨_,List.mem_cons_self ..,by simp[qk]⟩,⟨_,hk⟩,rfl⟩
     ·obtain⟨⟨u,q2,q3⟩,q4⟩:=KB hr p hp;exact⟨⟨u,A1 _ q2,q3⟩,q4⟩
    ·simp at h
   ·simp at h
  ·split at h
   ·rename_i ps' us' hr;simp only[AN,AP]at h;obtain⟨_,rfl⟩:=h;intro p hp;obtain⟨⟨u,q2,q3⟩,q4⟩:=KB hr p hp;exact⟨⟨u,A1 _ q2,q3⟩,q4⟩
   ·simp at h
  ·simp at h
theorem H1 (f:Nat) (ps:List D):qk (funV f ps)=[]:=by cases ps<;>rfl
theorem H2 [EffOk C] {o:Oper} {ρ:Operand→V} (hρ:∀x,∀k∈qk (ρ x),nth .none ob k≠ .none) (hb:∀k,∀u∈qM (nth .none ob k),∀j∈qk u,nth .none ob j≠ .none):GoodR C o ρ ob (xc C o ρ ob):=by
 obtain⟨a3,op,ty,a8,a0,g⟩:=o;cases op with
 |move x=>exact GoodR.same (hρ x)
 |assign x=>exact GoodR.same (hρ x)
 |pick c x y=>
  simp only[xc];split
  ·split
   ·exact GoodR.same (hρ x)
   ·exact GoodR.same (hρ y)
  ·trivial
 |binOp op t x y t2=>exact H0
 |unOp op t x=>simp only[xc,unV];split<;>first|trivial|exact GoodR.data rfl
 |convert s t x=>
  simp only[xc];split
  ·split<;>first|trivial|exact GoodR.dataC rfl
  ·split
   ·unfold TJ;split<;>first|trivial|exact GoodR.data rfl|exact GoodR.dataC rfl
   ·trivial
 |field t x f=>
  simp only[xc]
  repeat' split
  all_goals first|trivial|exact GoodR.data rfl
 |index t x i=>simp only[xc];split<;>first|trivial|exact GoodR.dataC rfl
 |extract x i=>
  simp only[xc];split
  ·repeat' split
   all_goals first|trivial|exact GoodR.data rfl
  ·rename_i k as hv;split
   ·exact GoodR.same fun j hj=>hρ x j (by rw[hv];exact hj)
   ·repeat' split
    all_goals first|trivial|exact GoodR.data rfl
  ·trivial
 |alloc t=>
  simp only[xc];split
  ·rename_i d;split
   ·rename_i z hd hz;split
    ·refine GoodR.new (us:=[]) (x:= .box (z.map kO)) rfl hd (by simp) (fun v hv=>?_) (fun _ h=>absurd h (by simp)) (fun k hk=>by simpa [qk]using hk);obtain⟨y,_,rfl⟩:=Au.1 hv;exact Xh y
    ·split
     ·refine GoodR.new (us:=[]) (x:= .bld t .nilS) rfl hd (by simp) (fun v hv=>?_) (fun _ h=>absurd h (by simp)) (fun k hk=>by simpa [qk]using hk);simp[qM]at hv;subst hv;rfl
     ·trivial
   ·trivial
  ·trivial
 |box t x=>
  simp only[xc];split
  ·rename_i d;split
   ·rename_i hd;split
    ·exact GoodR.new (us:=[]) rfl hd (by simp) (fun v hv=>by
      obtain⟨y,_,rfl⟩:=Au.1 hv;rfl) (fun _ h=>absurd h (by simp)) (fun k hk=>by simpa [qk]using hk)
    ·split
     ·rename_i hkc;exact GoodR.new (us:=[]) rfl hd (by simp) (fun v hv=>by
       obtain⟨c,hc,rfl⟩:=Au.1 hv;cases c with
       |arr k=>have:=xi.2 hc;rw[hkc]at this;simp at this
       |_=>rfl) (fun _ h=>absurd h (by simp)) (fun k hk=>by simpa [qk]using hk)
     ·trivial
    ·exact GoodR.new (us:=[]) rfl hd (by simp) (fun v hv=>by
      simp[qM]at hv;subst hv;rfl) (fun _ h=>absurd h (by simp)) (fun k hk=>by simpa [qk]using hk)
    ·exact GoodR.new (us:=[]) rfl hd (by simp) (fun v hv=>by
      simp[qM]at hv;subst hv;rfl) (fun _ h=>absurd h (by simp)) (fun k hk=>by simpa [qk]using hk)
    ·trivial
   ·trivial
  ·trivial
 |makeSlice t x y=>
  simp only[xc];split
  ·rename_i d;split
   ·rename_i e hd he;split
    ·split
     ·exact GoodR.new (us:=[]) rfl hd (by simp) (fun u hu=>by simp[qM]at hu) (fun _ h=>absurd h (by simp)) (fun k hk=>by simpa [qk]using hk)
     ·trivial
    ·trivial
   ·trivial
  ·trivial
 |build t parts=>
  simp only[xc];split
  ·split
   ·rename_i qs us hp;split
    ·split
     ·refine⟨(wI hp).up (fun v hv=>?_) (by simp[cls]) _,fun k hk=>by simp[qk]at hk⟩;obtain⟨p,hp,rfl⟩:=Au.1 hv;exact⟨p.2,by simp only[Ap];exact Au.2 ⟨p,hp,rfl⟩,rfl⟩
     ·trivial
    ·split
     ·rename_i z _ _ _ _ hb;refine⟨(wI hp).up (fun v hv=>?_) (by simp[cls]) _,fun k hk=>?_⟩
      ·obtain⟨p,hp,rfl⟩:=Au.1 hv;exact⟨p.2,by simp only[Ap];exact Au.2 ⟨p,hp,rfl⟩,rfl⟩
      ·have hk:k∈zW _:=hk;rw[yV _ _ _ hb (jL _)]at hk;simp at hk
     ·trivial
   ·trivial
  ·trivial
 |buildSlice t len parts=>
  simp only[xc];split
  ·rename_i d;split
   ·rename_i e hd he;split
    ·rename_i z qs us hz hp;split
     ·split
      ·refine GoodR.new rfl hd (by simp) (fun u hu=>by simp[qM]at hu) ((wI hp).up (fun v hv=>?_) (by simp[cls]) _) (fun k hk=>by simpa [qk]using hk);obtain⟨p,hp,rfl⟩:=Au.1 hv;exact⟨p.2,by simp only[Ap];exact Au.2 ⟨p,hp,rfl⟩,rfl⟩
      ·trivial
     ·trivial
    ·trivial
   ·trivial
  ·trivial
 |load t x=>
  have hx:=hρ x;simp only[xc,TL];split
  ·trivial
  ·split
   ·split
    ·rename_i k a5 hv _ a1 hk;split
     ·split
      ·rename_i ah;split
       ·exact GoodR.data rfl
       ·split
        ·rename_i vcs hvc;refine GoodR.same fun k' hk'=>?_
         have hv2:=vp hvc;have a7:=of_decide_eq_true ah;have hm:V.arr k'∈vcs.map VC.v:=Au.2 ⟨_,xi.1 hk',rfl⟩;rw[←hv2]at hm;rw[yO]at hm;obtain⟨j,_,hj,e⟩:=XR hm;refine hb k (.arr k') ?_ k' (by simp[qk]);rw[hk,←e];show nth .any a1 j∈a1;rw[qn _ (by omega)];exact A0 _
        ·trivial
      ·trivial
     ·split
      ·rename_i af;have af:a5<a1.length:=by simpa using af
       refine GoodR.same (hb k _ ?_);rw[hk,qn _ af];exact A0 af
      ·trivial
    ·trivial
   ·trivial
   ·split<;>trivial
   ·trivial
 |nilCheck x=>
  have hx:=hρ x;simp only[xc];split
  ·rename_i k a5 hv;rw[hv]at hx;split
   ·exact GoodR.same hx
   ·trivial
  ·trivial
 |fieldAddr t x f=>
  have hx:=hρ x;simp only[xc];split
  ·split
   ·trivial
   ·split
    ·rename_i k a5 hv;rw[hv]at hx;split
     ·exact GoodR.same hx
     ·trivial
    ·rename_i k i a5 hv;rw[hv]at hx;split
     ·exact GoodR.same hx
     ·trivial
    ·exact GoodR.data rfl
    ·trivial
  ·trivial
 |indexAddr t x i=>
  have hx:=hρ x;simp only[xc,kC];split
  ·split
   ·split
    ·split
     ·exact GoodR.dataC rfl
     ·trivial
    ·rename_i k hv;rw[hv]at hx;split
     ·split
      ·exact GoodR.sameC hx
      ·trivial
     ·trivial
    ·rename_i k o l hv;rw[hv]at hx;split
     ·split
      ·exact GoodR.sameC hx
      ·trivial
     ·trivial
    ·trivial
   ·split
    ·rename_i k a5 hv;rw[hv]at hx;split
     ·split
      ·split
       ·exact GoodR.same hx
       ·trivial
      ·trivial
     ·trivial
    ·split
     ·exact GoodR.dataC rfl
     ·trivial
    ·trivial
   ·trivial
  ·trivial
 |slice t x lo hi mx=>
  have hx:=hρ x;simp only[xc];split
  ·unfold Hg
   repeat' split
   all_goals first|trivial|exact GoodR.data rfl
  simp only[ZV,ZU,Kr];split
  rotate_left
  ·split
   ·split
    ·rename_i hv;rw[hv]at hx
     repeat' split
     all_goals first|trivial|exact GoodR.same hx
    ·trivial
   ·trivial
  split
  rotate_left
  ·repeat' split
   all_goals first|trivial|exact GoodR.dataC rfl
  split
  ·repeat' split
   all_goals first|trivial|exact GoodR.dataC rfl
  ·split
   ·rename_i z es us hz hel;have hu:=(Lk hel).up (C:=C) (o:=⟨a3,.slice t x lo hi mx,ty,a8,a0,g⟩) (ρ:=ρ) (fun v hv=>⟨x,by simp[Ap],by simp at hv;exact hv.symm⟩) (by simp[cls]) us
    repeat' split
    all_goals first|trivial|exact⟨hu,fun k hk=>by simp[qk]at hk⟩
   ·trivial
  ·trivial
 |store t p x=>
  have hp:=hρ p;have hx:=hρ x;simp only[xc,WO];have ac:∀k∈qk (ρ p),k∈opk ⟨a3,.store t p x,ty,a8,a0,g⟩ ρ ob:=fun k hk=>wj (x:=p) (by simp[Ap]) hk
  have a6:cls C ⟨a3,.store t p x,ty,a8,a0,g⟩=2:=rfl;split
  ·trivial
  ·split
   ·rename_i k a5 hv;rw[hv]at hp ac;split
    ·rename_i a1 hk;have ad:∀a4:List V,(∀v∈a4,v∈a1∨v=ρ x∨qk v=[])→GoodR C ⟨a3,.store t p x,ty,a8,a0,g⟩ ρ ob (.ok .any [(k,.box a4)]):=by
      intro a4 hcs;refine⟨fun q hq=>?_,fun k hk=>by simp[qk]at hk⟩;simp only[At]at hq;subst hq;refine⟨.inr ⟨ac k (by simp[qk]),by rw[a6];simp,by rw[hk];simp,fun a7=>by rw[a6]at a7;omega⟩,by simp,fun v hv j hj=> .inl ?_⟩;rcases hcs v hv with h1|h1|h1
      ·exact hb k v (by rw[hk];exact h1) j hj
      ·subst h1;exact hx j hj
      ·rw[h1]at hj;simp at hj
     have a9:∀(ds:List D) (a1:List V) (a5:Nat) (v:V),v∈Hb a1 a5 ds→v∈a1∨qk v=[]:=by
      intro ds
      induction ds with
      |nil=>intro a1 a5 v hv;exact .inl hv
      |cons d ds ih=>
       intro a1 a5 v hv;rcases ih _ _ _ hv with hv|hv
       ·rcases xC hv with hv|rfl
        ·exact .inl hv
        ·exact .inr rfl
       ·exact .inr hv
     split
     ·split
      ·split
       ·exact ad _ fun v hv=>by
         rcases a9 _ _ _ _ hv with h1|h1
         ·exact .inl h1
         ·exact .inr (.inr h1)
       ·trivial
      ·rename_i ds hds;split
       ·refine⟨fun q hq=>?_,fun k hk=>by simp[qk]at hk⟩;simp only[At]at hq;subst hq;refine⟨.inr ⟨ac k (by simp[qk]),by rw[a6];simp,by rw[hk];simp,fun a7=>by rw[a6]at a7;omega⟩,by simp,fun v hv j hj=> .inl ?_⟩;have hm:∀(l:List VC) (cs:List V) (a5:Nat) (v:V),v∈ZR cs a5 l→v∈cs∨∃c∈l,v=c.v:=by
         intro l
         induction l with
         |nil=>intro cs a5 v hv;exact .inl hv
         |cons d l ih=>
          intro cs a5 v hv;rcases ih _ _ _ hv with hv|⟨c,hc,e⟩
          ·rcases xC hv with hv|rfl
           ·exact .inl hv
           ·exact .inr ⟨d,by simp,rfl⟩
          ·exact .inr ⟨c,by simp[hc],e⟩
        rcases hm _ _ _ _ hv with h1|⟨c,hc,rfl⟩
        ·exact hb k v (by rw[hk];exact h1) j hj
        ·rw[hds]at hx;refine hx j ?_;cases c with
         |arr k2=>simp[VC.v,qk]at hj;subst hj;exact xi.2 hc
         |d d=>simp[VC.v,qk]at hj
         |nil=>simp[VC.v,qk]at hj
       ·trivial
      ·trivial
     ·split
      ·split
       ·exact ad _ fun v hv=>by
         rcases xC hv with h1|rfl
         ·exact .inl h1
         ·exact .inr (.inr rfl)
       ·trivial
      ·split
       ·exact ad _ fun v hv=>by
         rcases xC hv with h1|rfl
         ·exact .inl h1
         ·exact .inr (.inr rfl)
       ·trivial
      ·rename_i j hj;split
       ·split
        ·exact ad _ fun v hv=>by
          rcases xC hv with h1|rfl
          ·exact .inl h1
          ·exact .inr (.inl hj.symm)
        ·trivial
       ·trivial
      ·trivial
    ·trivial
   ·rename_i k i a5 hv;rw[hv]at hp ac;split
    ·rename_i s es hk;have ad:∀(c:Prop) [Decidable c] (ai:List (List D)),GoodR C ⟨a3,.store t p x,ty,a8,a0,g⟩ ρ ob (.cond c .any [(k,.arr s ai false)]):=by intro c _ ai;refine⟨fun q hq=>?_,fun k hk=>by simp[qk]at hk⟩;simp only[At]at hq;subst hq;exact⟨.inr ⟨ac k (by simp[qk]),by rw[a6];simp,by rw[hk];simp,fun a7=>by rw[a6]at a7;omega⟩,by simp,fun u hu=>by simp[qM]at hu⟩
     split
     ·split
      ·exact ad _ _
      ·trivial
     ·split
      ·exact ad _ _
      ·trivial
     ·trivial
    ·trivial
   ·trivial
 |makeFunc fn first captured=>
  simp only[xc];split
  ·split
   ·rename_i ps us hc;refine⟨fun p hp=>?_,fun k hk=>by rw[H1]at hk;simp at hk⟩;obtain⟨⟨v,hv,hk⟩,⟨a1,hb2⟩,h3⟩:=KB hc p hp;obtain⟨x,hx,rfl⟩:=Au.1 hv;refine⟨.inr ⟨wj (x:=x) (by simp only[Ap,Aa];exact Av _ hx) hk,by simp[cls],by rw[hb2];simp,fun a7=>by simp[cls]at a7⟩,by rw[h3];simp,fun u hu=>by rw[h3]at hu;simp[qM]at hu⟩
   ·trivial
  ·trivial
 |call c=>
  obtain⟨ag,a2,ts⟩:=c;simp only[xc];have ab:∀(f:Nat) (ae:Operand) (ps:List D),cls C ⟨a3,.call ⟨.value ae,a2,ts⟩,ty,a8,a0,g⟩≠0→GoodR C ⟨a3,.call ⟨.value ae,a2,ts⟩,ty,a8,a0,g⟩ ρ ob (yd C ob f (a2.toList.map ρ++ps.map V.c)):=by
   intro f ae ps a6;unfold yd;split
   ·trivial
   ·split
    ·trivial
    ·split
     ·rename_i as us sh hto hsh;have hu:∀p∈us,UOk C ⟨a3,.call ⟨.value ae,a2,ts⟩,ty,a8,a0,g⟩ ρ ob us p:=fun p hp=>by
       obtain⟨⟨v,h1,h2⟩,s,es,fz,h3,h4⟩:=yZ hto p hp;rcases Aw.1 h1 with h1|h1
       ·obtain⟨x,hx,rfl⟩:=Au.1 h1;exact⟨.inr ⟨wj (x:=x) (by simp only[Ap,An,Aa];exact Av _ hx) h2,a6,by rw[h3];simp,fun _=>⟨s,es,fz,h3,h4⟩⟩,by rw[h4];simp,fun u hu=>by rw[h4]at hu;simp[qM]at hu⟩
       ·obtain⟨d,_,rfl⟩:=Au.1 h1;simp[qk]at h2
      split
      ·exact hu
      ·exact fun _ h=>absurd h (by simp)
     ·trivial
  split
  ·rename_i f;split
   ·rename_i e he;have a6:cls C ⟨a3,.call ⟨.value (.func f),a2,ts⟩,ty,a8,a0,g⟩=2:=by simp[cls,he]
    have hg:=EffOk.good he a3 (a2.toList.map ρ) ob (fun v hv=>by obtain⟨x,_,rfl⟩:=Au.1 hv;exact hρ x) hb;have hin:∀k,k∈zp ob ((a2.toList.map ρ).flatMap qk)→k∈opk ⟨a3,.call ⟨.value (.func f),a2,ts⟩,ty,a8,a0,g⟩ ρ ob:=fun k hkk=>by show k∈zp ob _;rw[qy]at hkk ⊢;obtain⟨j,h1,h2⟩:=hkk;refine⟨j,?_,h2⟩;rw[vv];obtain⟨v,hv,hj⟩:=Az.1 h1;obtain⟨x,hx,rfl⟩:=Au.1 hv;exact Az.2 ⟨x,by simp only[Ap,An,Aa];exact Av _ hx,hj⟩
    have aj:∀{up:List (Nat×Obj)} {p:Nat×Obj},((Ow (C.wd f) a3 p.1∧qq ob p.1=true)∨(p.1∈zp ob ((a2.toList.map ρ).flatMap qk)∧nth .none ob p.1≠ .none))∧p.2≠ .none∧(∀u∈qM p.2,VOk ob up u)→UOk C ⟨a3,.call ⟨.value (.func f),a2,ts⟩,ty,a8,a0,g⟩ ρ ob up p:=fun{up p} h=>by
     refine⟨?_,h.2⟩;rcases h.1 with h1|⟨h1,h2⟩
     ·exact .inl ⟨Jm.2 h1.1,h1.2⟩
     ·exact .inr ⟨hin _ h1,by rw[a6];simp,h2,fun a7=>by rw[a6]at a7;omega⟩
    generalize e a3 (a2.toList.map ρ) ob=r at *;cases r with
    |fail=>trivial
    |ok v up=>exact⟨fun p hp=>aj (hg.1 p hp),hg.2⟩
    |cond c v up=>exact⟨fun p hp=>aj (hg.1 p hp),hg.2⟩
    |look _ _ _ _=>trivial
    |call _ _ _ _=>exact hg.elim
   ·rename_i he;have:=ab f (.func f) [] (by simp[cls,he]);rw[AC,A9]at this;exact this
  ·rename_i t0;split
   ·rename_i f _;split
    ·trivial
    ·have:=ab f (.tmp t0) [] (by simp[cls]);rw[AC,A9]at this;exact this
   ·split
    ·trivial
    ·exact ab _ _ _ (by simp[cls])
   ·trivial
  ·split
   ·unfold R1
    repeat' split
    all_goals first|trivial|exact GoodR.data rfl
   ·trivial
  ·split
   ·rename_i x y aa;have hx:=hρ x;have a6:cls C ⟨a3,.call ⟨.builtin .append,a2,ts⟩,ty,a8,a0,g⟩=2:=rfl;have ac:∀k∈qk (ρ x),k∈opk ⟨a3,.call ⟨.builtin .append,a2,ts⟩,ty,a8,a0,g⟩ ρ ob:=fun k hk=>wj (x:=x) (by
     simp only[Ap,An,Aa];exact Av _ (by rw[aa];simp)) hk
    unfold yE;split
    ·trivial
    ·rename_i d;split
     ·trivial
     ·rename_i hd;split
      ·split
       ·split
        ·split
         ·split
          ·exact GoodR.new (us:=[]) rfl hd (by simp) (fun u hu=>by simp[qM]at hu) (fun _ h=>absurd h (by simp)) (fun k hk=>by simpa [qk]using hk)
          ·rename_i k hv;rw[hv]at hx ac;split
           ·rename_i s es hk;split
            ·exact GoodR.new (us:=[(k,.dead)]) rfl hd (by simp) (fun u hu=>by simp[qM]at hu) (fun q hq=>by
              simp only[At]at hq;subst hq;exact⟨.inr ⟨ac k (by simp[qk]),by rw[a6];simp,by rw[hk];simp,fun a7=>by rw[a6]at a7;omega⟩,by simp,fun u hu=>by simp[qM]at hu⟩) (fun k hk=>by simpa [qk]using hk)
            ·trivial
           ·trivial
          ·trivial
         ·trivial
        ·trivial
       ·trivial
      ·trivial
   ·trivial
  ·split
   ·rename_i x aa;have ac:∀k∈qk (ρ x),k∈opk ⟨a3,.call ⟨.builtin .clear,a2,ts⟩,ty,a8,a0,g⟩ ρ ob:=fun k hk=>wj (x:=x) (by
     simp only[Ap,An,Aa];exact Av _ (by rw[aa];simp)) hk
    unfold yF;split
    ·split
     ·split
      ·rename_i z k o l hz hv;rw[hv]at ac;split
       ·rename_i s es hk;split
        ·refine⟨fun p hp=>?_,fun k hk=>by simp[qk]at hk⟩;simp only[At]at hp;subst hp;exact⟨.inr ⟨ac k (by simp[qk]),by simp[cls],by rw[hk];simp,fun a7=>by simp[cls]at a7⟩,by simp,fun u hu=>by simp[qM]at hu⟩
        ·trivial
       ·trivial
      ·trivial
     ·trivial
    ·trivial
   ·trivial
  ·split
   ·exact Vb
   ·trivial
  ·split
   ·exact Vb
   ·trivial
  ·trivial
 |_=>trivial
end
end Eng
end

section
namespace Eng
open Go Go.RowKit
theorem kF {α:Type} (l:List α) (i j:Nat) (x y:α) (h:i≠j∨x=y):upd (upd l i x) j y=upd (upd l j y) i x:=by
 simp only[xv];rcases h with h|rfl
 ·exact AB _ _ h
 ·by_cases hij:i=j
  ·subst hij;rfl
  ·exact AB _ _ hij
theorem Vc (k:Nat) (x:Obj):∀(b:List (Nat×Obj)) (ob:List Obj),(∀q∈b,q.1=k→q.2=x)→upds (upd ob k x) b=upd (upds ob b) k x
 |[],_,_=>rfl
 |(j,y)::b,ob,h=>by
  simp only[upds];rw[kF ob k j x y (by
   by_cases hk:k=j
   ·exact .inr (h (j,y) (by simp) hk.symm).symm
   ·exact .inl hk),Vc k x b _ fun q hq=>h q (by simp[hq])]
theorem Jo:∀(a b:List (Nat×Obj)) (ob:List Obj),(∀p∈a,∀q∈b,q.1=p.1→q.2=p.2)→upds (upds ob a) b=upds (upds ob b) a
 |[],_,_,_=>rfl
 |(k,x)::a,b,ob,h=>by simp only[upds];rw[Jo a b _ fun p hp=>h p (by simp[hp]),Vc k x b ob fun q hq hk=>h (k,x) (by simp) q hq hk]
theorem wJ (d:Nat):∀(b:List (Nat×Obj)) (ob:List Obj),nth .none (upds ob b) d=nth .none ob d∨(nth .none (upds ob b) d= .none∧nth .none ob d= .none)∨∃p∈b,p.1=d∧nth .none (upds ob b) d=p.2
 |[],_=> .inl rfl
 |(k,x)::b,ob=>by
  simp only[upds];rcases wJ d b (upd ob k x)with h|⟨h1,h2⟩|⟨p,hp,h1,h2⟩
  ·rw[xB]at h;split at h
   ·rename_i hk;exact .inr (.inr ⟨(k,x),by simp,hk.1,h⟩)
   ·exact .inl h
  ·by_cases hk:k=d∧k<ob.length
   ·rw[xB,if_pos hk]at h2;exact .inr (.inr ⟨(k,x),by simp,hk.1,by rw[h1];exact h2.symm⟩)
   ·rw[xB,if_neg hk]at h2;exact .inr (.inl ⟨h1,h2⟩)
  ·exact .inr (.inr ⟨p,by simp[hp],h1,h2⟩)
theorem jb:∀(b:List (Nat×Obj)) (ob:List Obj),(upds ob b).length=ob.length
 |[],_=>rfl
 |(k,x)::b,ob=>by simp only[upds];rw[jb b,xv];simp
theorem kr {d:Nat}:∀(b:List (Nat×Obj)) (ob:List Obj),(∀p∈b,p.1≠d)→nth .none (upds ob b) d=nth .none ob d
 |[],_,_=>rfl
 |(k,x)::b,ob,h=>by simp only[upds];rw[kr b _ fun p hp=>h p (by simp[hp]),qa _ _ _ (h (k,x) (by simp))]
theorem xQ {d:Nat} {b:List (Nat×Obj)} {ob:List Obj} (h:∀p∈b,p.2≠ .none) (hd:nth .none ob d≠ .none):nth .none (upds ob b) d≠ .none:=by
 rcases wJ d b ob with h1|⟨_,h1⟩|⟨p,hp,_,h2⟩
 ·rw[h1];exact hd
 ·exact absurd h1 hd
 ·rw[h2];exact h p hp
theorem Qa {d:Nat}:∀{b:List (Nat×Obj)} {ob:List Obj},(∀p∈b,p.2≠ .none)→d<ob.length→(∃x,(d,x)∈b)→nth .none (upds ob b) d≠ .none
 |[],_,_,_,h=>by obtain⟨x,hx⟩:=h;exact absurd hx (by simp)
 |(k,x)::b,ob,h,hd,hx=>by
  simp only[upds];by_cases hk:k=d
  ·subst hk;exact xQ (fun p hp=>h p (by simp[hp])) (by rw[qb _ _ _ hd];exact h (k,x) (by simp))
  ·obtain⟨y,hy⟩:=hx;refine Qa (fun p hp=>h p (by simp[hp])) (by rw[xv];simpa using hd) ⟨y,?_⟩;rcases As.1 hy with hy|hy
   ·simp only[AP]at hy;exact absurd hy.1.symm hk
   ·exact hy
section
variable {C:Cx} {Gv:Nat→List A→List A→Prop} {ops:Array Oper}
def Out (Gv:Nat→List A→List A→Prop):R→V→List (Nat×Obj)→Prop
 | .fail,_,_=>False
 | .ok v up,v',up'=>v'=v∧up'=up
 | .cond (dc:=_) c v up,v',up'=>c∧v'=v∧up'=up
 | .look z row off ag,v',up'=>∃ds,cut row off z.length ds∧v'=(match ag with|true=> .ag ds|false=> .c (nth .undef ds 0))∧up'=[]
 | .call f as sh up,v',up'=>∃rs,Gv f as rs∧(zb sh=false→∀r∈rs,XN r=true)∧v'=Ke rs∧up'=up
def wK (ops:Array Oper) (o:Oper) (tmps:List V) (b:Bool):Prop:=
 match o.guard with
 |none=>b=true
 |some (j,want)=>∃t,kR ops j=some t∧((∃c,nth .any tmps t= .c (.bool c)∧b=(c==want))∨(nth .any tmps t= .no∧b=false))
def Stp (C:Cx) (Gv:Nat→List A→List A→Prop) (ops:Array Oper) (o:Oper) (s:St) (v:V) (up:List (Nat×Obj)):Prop:=
 ∃b,wK ops o s.tmps b∧if b then Out Gv (xc C o (ev s) s.objs) v up else v= .no∧up=[]
structure RecOk (C:Cx) (o:Oper) (s:St) (up:List (Nat×Obj)) (rc:Rec):Prop where
 reads:cls C o≠0→∀k∈opk o (ev s) s.objs,k∈rc.1
 ups:∀p∈up,p.1∈rc.2
def Tr (C:Cx) (Gv:Nat→List A→List A→Prop) (ops:Array Oper) (rc:Nat→Rec):List Nat→St→St→Prop
 |[],s,s'=>s.tmps=s'.tmps∧s.objs=s'.objs
 |i::r,s,s'=>∃o,ops[i]? =some o∧∃v up,Stp C Gv ops o s v up∧RecOk C o s up (rc i)∧Tr C Gv ops rc r (s.put o.dst v up) s'
theorem H3 {s s':St} (h:s.tmps=s'.tmps):ev s=ev s':=by
 funext x;cases x with
 |tmp t=>simp only[ev,h]
 |_=>rfl
theorem Stp.same {o:Oper} {s s':St} {v:V} {up:List (Nat×Obj)} (h:Stp C Gv ops o s v up) (h1:s.tmps=s'.tmps) (h2:s.objs=s'.objs):Stp C Gv ops o s' v up:=by
 unfold Stp at *;rw[←h1,←h2,←H3 h1];exact h
theorem RecOk.same {o:Oper} {s s':St} {up:List (Nat×Obj)} {rc:Rec} (h:RecOk C o s up rc) (h1:s.tmps=s'.tmps) (h2:s.objs=s'.objs):RecOk C o s' up rc:=⟨by rw[←H3 h1,←h2];exact h.reads,h.ups⟩
theorem Tr.same {rc:Nat→Rec}:∀{l:List Nat} {s s' e:St},Tr C Gv ops rc l s e→s.tmps=s'.tmps→s.objs=s'.objs→Tr C Gv ops rc l s' e
 |[],_,_,_,h,h1,h2=>⟨h1.symm.trans h.1,h2.symm.trans h.2⟩
 |i::r,s,s',e,h,h1,h2=>by obtain⟨o,ho,v,up,hs,hr,ht⟩:=h;exact⟨o,ho,v,up,hs.same h1 h2,hr.same h1 h2,ht.same (by simp only[Am,h1]) (by simp only[Am,h2])⟩
theorem Tr.recs {rc rc':Nat→Rec}:∀{l:List Nat} {s e:St},Tr C Gv ops rc l s e→(∀i∈l,rc i=rc' i)→Tr C Gv ops rc' l s e
 |[],_,_,h,_=>h
 |i::r,s,e,h,he=>by obtain⟨o,ho,v,up,hs,hr,ht⟩:=h;exact⟨o,ho,v,up,hs,by rw[←he i (by simp)];exact hr,ht.recs fun j hj=>he j (by simp[hj])⟩
theorem KC {o:Oper} {s:St} {K:St→Prop} (h:opW C Gv o s K):∃v up,Out Gv (xc C o (ev s) s.objs) v up∧K (s.put o.dst v up):=by
 unfold opW at h;generalize xc C o (ev s) s.objs=r at *;cases r with
 |fail=>exact h.elim
 |ok v up=>exact⟨v,up,⟨rfl,rfl⟩,h⟩
 |cond c v up=>exact⟨v,up,⟨h.1,rfl,rfl⟩,h.2⟩
 |look z row off ag=>obtain⟨ds,h1,_⟩:=jp h;exact⟨_,[],⟨ds,h1.1,rfl,rfl⟩,h1.2⟩
 |call f as sh up=>obtain⟨rs,h1,h2⟩:=vu h;exact⟨_,up,⟨rs,h1.1,h2,rfl,rfl⟩,h1.2⟩
theorem KD {α:Type} (d:α) (l:List α) (i:Nat) (x:α) (h:nth d l i=x):upd l i x=l:=by
 rw[xv];apply List.ext_getElem?;intro j;rw[List.getElem?_set];split
 ·rename_i hij;subst hij;split
  ·rename_i a0;rw[qn _ a0]at h;rw[List.getElem?_eq_getElem a0,h]
  ·rename_i a0;rw[List.getElem?_eq_none (AG.1 a0)]
 ·rfl
theorem Jp {o:Oper} {s:St} {K:St→Prop} (h:TN C Gv ops o s K):∃v up,Stp C Gv ops o s v up∧K (s.put o.dst v up):=by
 unfold TN at h;split at h
 ·rename_i hg;obtain⟨v,up,h1,h2⟩:=KC h;exact⟨v,up,⟨true,by unfold wK;rw[hg],by rw[if_pos rfl];exact h1⟩,h2⟩
 ·rename_i j a0 hg;split at h
  ·exact h.elim
  ·rename_i t ht;split at h
   ·rename_i d hd;have hb:∃c,d= .bool c:=by
     cases d with
     |bool c=>exact⟨c,rfl⟩
     |_=>exact h.elim
    obtain⟨c,rfl⟩:=hb;have hw:∀b,b=(c==a0)→wK ops o s.tmps b:=fun b hb=>by unfold wK;rw[hg];exact⟨t,ht,.inl ⟨c,hd,hb⟩⟩
    have hs:(⟨upd s.tmps t (.c (.bool c)),s.objs,s.dirty⟩:St)=s:=by rw[KD _ _ _ _ hd]
    cases c<;>cases a0<;>simp only[cnd,isB,br,toB]at h<;>rw[hs]at h
    ·obtain⟨v,up,h1,h2⟩:=KC h;exact⟨v,up,⟨true,hw _ rfl,by rw[if_pos rfl];exact h1⟩,h2⟩
    ·exact⟨.no,[],⟨false,hw _ rfl,by simp⟩,h⟩
    ·exact⟨.no,[],⟨false,hw _ rfl,by simp⟩,h⟩
    ·obtain⟨v,up,h1,h2⟩:=KC h;exact⟨v,up,⟨true,hw _ rfl,by rw[if_pos rfl];exact h1⟩,h2⟩
   ·rename_i hd;exact⟨.no,[],⟨false,by unfold wK;rw[hg];exact⟨t,ht,.inr ⟨hd,rfl⟩⟩,by simp⟩,h⟩
   ·exact h.elim
structure WF (s:St):Prop where
 tmps:∀v∈s.tmps,∀k∈qk v,nth .none s.objs k≠ .none
 objs:∀k,∀u∈qM (nth .none s.objs k),∀j∈qk u,nth .none s.objs j≠ .none
theorem Oy (v:V):qk (un v)=qk v:=by cases v<;>rfl
theorem WF.ev {s:St} (h:WF s) (x:Operand):∀k∈qk (ev s x),nth .none s.objs k≠ .none:=by
 cases x with
 |tmp t=>
  simp only[Eng.ev];by_cases ht:t<s.tmps.length
  ·rw[qn _ ht,Oy];exact h.tmps _ (A0 ht)
  ·rw[qB _ (AG.1 ht)];intro k hk;simp[qk,un]at hk
 |const v=>intro k hk;simp only[Eng.ev,Xh]at hk;simp at hk
 |global g=>intro k hk;simp[Eng.ev,qk]at hk
 |func f=>intro k hk;simp[Eng.ev,qk]at hk
theorem Qb (rs:List A):qk (Ke rs)=[]:=by
 unfold Ke;split<;>first|rfl|(split<;>rfl)
theorem Stp.good [EffOk C] {o:Oper} {s:St} {v:V} {up:List (Nat×Obj)} (hs:WF s) (h:Stp C Gv ops o s v up):(∀p∈up,UOk C o (Eng.ev s) s.objs up p)∧VOk s.objs up v:=by
 obtain⟨b,_,h⟩:=h;cases b with
 |false=>obtain⟨rfl,rfl⟩:=h;exact⟨fun _ h=>absurd h (by simp),fun k hk=>by simp[qk]at hk⟩
 |true=>
  rw[if_pos rfl]at h;have hg:=H2 (C:=C) (o:=o) (ρ:=Eng.ev s) (ob:=s.objs) hs.ev hs.objs;generalize xc C o (Eng.ev s) s.objs=r at *;cases r with
  |fail=>exact h.elim
  |ok v up=>obtain⟨rfl,rfl⟩:=h;exact hg
  |cond c v up=>obtain⟨_,rfl,rfl⟩:=h;exact hg
  |look z row off ag=>obtain⟨ds,_,rfl,rfl⟩:=h;exact⟨fun _ h=>absurd h (by simp),fun k hk=>by cases ag<;>simp[qk]at hk⟩
  |call f as sh up=>obtain⟨rs,_,_,rfl,rfl⟩:=h;exact⟨hg,fun k hk=>by rw[Qb]at hk;simp at hk⟩
theorem WF.put [EffOk C] {o:Oper} {s:St} {v:V} {up:List (Nat×Obj)} (hs:WF s) (h:Stp C Gv ops o s v up):WF (s.put o.dst v up):=by
 obtain⟨hu,hv⟩:=h.good hs;have a1:∀p∈up,p.2≠ .none:=fun p hp=>(hu p hp).2.1
 have a2:∀v,VOk s.objs up v→∀k∈qk v,nth .none (upds s.objs up) k≠ .none:=fun v hv k hk=>by
  rcases hv k hk with h1|⟨h1,h2⟩
  ·exact xQ a1 h1
  ·exact Qa a1 (qE h1).2 h2
 have hvk:=a2 v hv;refine⟨fun u hu' k hk=>?_,fun k u hu' j hj=>?_⟩
 ·have a0:u∈s.tmps→nth .none (upds s.objs up) k≠ .none:=fun h1=>xQ a1 (hs.tmps u h1 k hk)
  simp only[Am]at hu';cases hd:o.dst with
  |none=>rw[hd]at hu';exact a0 hu'
  |some t=>
   rw[hd]at hu';rcases xC hu' with h1|rfl
   ·exact a0 h1
   ·exact hvk k hk
 ·change nth .none (upds s.objs up) j≠ .none;change u∈qM (nth .none (upds s.objs up) k)at hu';rcases wJ k up s.objs with h1|⟨h1,_⟩|⟨p,hp,_,h2⟩
  ·rw[h1]at hu';exact xQ a1 (hs.objs k u hu' j hj)
  ·rw[h1]at hu';simp[qM]at hu'
  ·rw[h2]at hu';exact a2 u ((hu p hp).2.2 u hu') j hj
theorem zg {n:Nat}:∀{l:List Nat},ZE n l=true↔n∈l
 |[]=>by simp[ZE]
 |m::r=>by
  unfold ZE;split
  ·rename_i h;have:=AE h;simp[this]
  ·rename_i h;have:n≠m:=fun e=>by subst e;simp at h
   rw[zg];simp[this]
theorem zQ {a l:List Nat} (h:Tx a l=true):∀x∈a,x∉l:=by
 induction a with
 |nil=>intro x hx;simp at hx
 |cons y r ih=>
  simp only[Tx,Ae,Ai]at h;intro x hx;rcases As.1 hx with rfl|hx
  ·intro hm;rw[zg.2 hm]at h;simp at h
  ·exact ih h.2 x hx
def RE (ra rb:Rec):Prop:=(∀k∈ra.2,k∉rb.1)∧(∀k∈rb.2,k∉ra.1)∧(∀k∈ra.2,k∉rb.2)
structure Free (C:Cx) (ops:Array Oper) (a b:Oper) (ra rb:Rec):Prop where
 dd:∀d,d∈Hh C a→d∉Hh C b
 al:∀d,a.dst=some d→ .tmp d∉b.op.operands.toList
 ag:∀d,a.dst=some d→∀j w,b.guard=some (j,w)→kR ops j≠some d
 bl:∀d,b.dst=some d→ .tmp d∉a.op.operands.toList
 bg:∀d,b.dst=some d→∀j w,a.guard=some (j,w)→kR ops j≠some d
 cl:(cls C a=0∨cls C b=0∨(cls C a=1∧cls C b=1))∨RE ra rb
theorem Free.symm {a b:Oper} {ra rb:Rec} (h:Free C ops a b ra rb):Free C ops b a rb ra:=
 ⟨fun d h1 h2=>h.dd d h2 h1,h.bl,h.bg,h.al,h.ag,by
  rcases h.cl with(h|h|h)|h
  ·exact .inl (.inr (.inl h))
  ·exact .inl (.inl h)
  ·exact .inl (.inr (.inr ⟨h.2,h.1⟩))
  ·exact .inr ⟨h.2.1,h.1,fun k hk hk'=>h.2.2 k hk' hk⟩⟩
theorem Vd {a b:Oper} {ra rb:Rec} (h:TO C ops.toList a b=true) (hc:(cls C a=0∨cls C b=0∨(cls C a=1∧cls C b=1))∨RE ra rb):Free C ops a b ra rb:=by
 simp only[TO,Ae]at h;obtain⟨⟨h1,h2⟩,h3⟩:=h;have dl:∀{o:Oper} {d:Nat},o.dst=some d→d∈SG o:=fun{o} {d} h=>by simp[SG,h]
 have lo:∀{o:Oper} {d:Nat},.tmp d∈o.op.operands.toList→d∈looks ops.toList o:=fun{o} {d} h=>
  List.mem_append_left _ (Az.2 ⟨_,h,by simp[Nt]⟩)
 have lg:∀{o:Oper} {d:Nat} {j:Nat} {w:Bool},o.guard=some (j,w)→kR ops j=some d→d∈looks ops.toList o:=fun{o} {d} {j} {w} h hg=>by
  refine Av _ ?_;rw[h];unfold kR at hg;split at hg
  ·rename_i g hj;have:nth default ops.toList j=g:=by rw[qI];simp[hj]
   dsimp only
   rw[this,hg];simp
  ·simp at hg
 exact⟨fun d ha hb=>zQ h1 d ha hb,fun d ha hb=>zQ h2 d (dl ha) (lo hb),fun d ha j w hg ht=>zQ h2 d (dl ha) (lg hg ht),fun d hb ha=>zQ h3 d (dl hb) (lo ha),
  fun d hb j w hg ht=>zQ h3 d (dl hb) (lg hg ht),hc⟩
theorem Ve {a b:Oper} (h:TP C a b=true):cls C a=0∨cls C b=0∨(cls C a=1∧cls C b=1):=by
 simp only[TP,Ah,Ae]at h;rcases h with(h4|h4)|h4
 ·exact .inl (AE h4)
 ·exact .inr (.inl (AE h4))
 ·exact .inr (.inr ⟨AE h4.1,AE h4.2⟩)
theorem Ll {a b:Oper} {ra rb:Rec} (h:Od C ops.toList a b=true):Free C ops a b ra rb:=by
 simp only[Od,Ae]at h;exact Vd h.1 (.inl (Ve h.2))
theorem H4 {a b:Oper} {ra rb:Rec} (h:Hi C ops.toList a b ra rb=true):Free C ops a b ra rb:=by
 simp only[Hi,Ae,Ah]at h;refine Vd h.1 ?_;rcases h.2 with h|h
 ·exact .inl (Ve h)
 ·simp only[R2,Ae]at h;exact .inr ⟨zQ h.1.1,zQ h.1.2,zQ h.2⟩
theorem N1 {s:St} {dst:Option Nat} {v:V} {up:List (Nat×Obj)} {x:Operand} (h:∀d,dst=some d→x≠ .tmp d):ev (s.put dst v up) x=ev s x:=by
 cases x with
 |tmp t=>
  simp only[ev,Am];cases dst with
  |none=>rfl
  |some d=>exact congrArg un (qa _ _ _ fun e=>h d rfl (by rw[e]))
 |_=>rfl
theorem Vf {a b:Oper} {ra rb:Rec} {s:St} {va:V} {ua:List (Nat×Obj)} (hf:Free C ops a b ra rb):Ku (ev (s.put a.dst va ua)) b.op.operands.toList=Ku (ev s) b.op.operands.toList:=by
 have hev:∀x∈b.op.operands.toList,ev (s.put a.dst va ua) x=ev s x:=fun x hx=>N1 fun d hd hxd=>hf.al d hd (hxd▸hx)
 have:∀l:List Operand,(∀x∈l,ev (s.put a.dst va ua) x=ev s x)→Ku (ev (s.put a.dst va ua)) l=Ku (ev s) l:=by
  intro l
  induction l with
  |nil=>intro _;rfl
  |cons x l ih=>intro h;simp only[Ku];rw[h x (by simp),ih fun y hy=>h y (by simp[hy])]
 exact this _ hev
theorem vz {b:Oper} {s:St} (hs:WF s):∀k∈Ku (ev s) b.op.operands.toList,nth .none s.objs k≠ .none:=fun k hk=>by
 rw[vv]at hk;obtain⟨x,_,hx⟩:=Az.1 hk;exact hs.ev x k hx
theorem Qc {ob ob':List Obj}:∀{l:List Nat},(∀k∈l,nth .none ob k=nth .none ob' k∨∃s es fz s' es' fz',nth .none ob k= .arr s es fz∧nth .none ob' k= .arr s' es' fz')→ZX ob l=ZX ob' l
 |[],_=>rfl
 |k::r,h=>by
  simp only[ZX];rw[Qc fun j hj=>h j (by simp[hj])];rcases h k (by simp)with h1|⟨s,es,fz,s',es',fz',h1,h2⟩
  ·rw[h1]
  ·rw[h1,h2]
theorem Qd {ob ob':List Obj}:∀{l:List Nat},(∀k∈l,nth .none ob k=nth .none ob' k∨∃s es fz s' es' fz',nth .none ob k= .arr s es fz∧nth .none ob' k= .arr s' es' fz')→zp ob l=zp ob' l
 |[],_=>rfl
 |k::r,h=>by
  simp only[zp];rw[Qd fun j hj=>h j (by simp[hj])];rcases h k (by simp)with h1|⟨s,es,fz,s',es',fz',h1,h2⟩
  ·rw[h1]
  ·rw[h1,h2]
theorem H5 {o:Oper} {ρ:Operand→V} {ob:List Obj}:∀k∈Ku ρ o.op.operands.toList,k∈opk o ρ ob:=fun k hk=>by
 unfold opk;split
 ·exact qy.2 ⟨k,hk,.inl rfl⟩
 ·exact wG.2 ⟨k,hk,.inl rfl⟩
theorem H6 [EffOk C] {a b:Oper} {ra rb:Rec} {s:St} {va:V} {ua:List (Nat×Obj)} (hs:WF s) (hf:Free C ops a b ra rb) (ha:Stp C Gv ops a s va ua) (hra:∀p∈ua,p.1∈ra.2) (hb0:cls C b≠0) (hrl:∀k∈Ku (ev s) b.op.operands.toList,k∈rb.1):
 opk b (ev (s.put a.dst va ua)) (s.put a.dst va ua).objs=opk b (ev s) s.objs:=by
 have a1:∀k∈Ku (ev s) b.op.operands.toList,nth .none (upds s.objs ua) k=nth .none s.objs k∨∃sz es fz s' es' fz',nth .none (upds s.objs ua) k= .arr sz es fz∧nth .none s.objs k= .arr s' es' fz':=?_
 ·unfold opk;rw[Vf hf];split
  ·exact Qd a1
  ·exact Qc a1
 obtain⟨hu,_⟩:=ha.good hs;intro k hk;have a0:=vz hs k hk;change nth .none (upds s.objs ua) k=_∨_;rcases wJ k ua s.objs with h1|⟨_,h1⟩|⟨p,hp,rfl,h2⟩
 ·exact .inl h1
 ·exact absurd h1 a0
 ·rcases(hu p hp).1 with⟨_,h3⟩|⟨_,h3,_,h4⟩
  ·exact absurd (qE h3).1 a0
  ·rcases hf.cl with(h|h|h)|h
   ·exact absurd h h3
   ·exact absurd h hb0
   ·obtain⟨sz,es,fz,h5,h6⟩:=h4 (by omega);exact .inr ⟨_,_,_,_,_,_,h2.trans h6,h5⟩
   ·exact absurd (hrl _ hk) (h.1 _ (hra p hp))
theorem Stp.indep [EffOk C] {a b:Oper} {ra rb:Rec} {s:St} {va vb:V} {ua ub:List (Nat×Obj)} (hs:WF s) (hf:Free C ops a b ra rb) (ha:Stp C Gv ops a s va ua) (hra:∀p∈ua,p.1∈ra.2) (hrb:cls C b≠0→∀k∈opk b (ev s) s.objs,k∈rb.1):
 Stp C Gv ops b (s.put a.dst va ua) vb ub↔Stp C Gv ops b s vb ub:=by
 obtain⟨hu,_⟩:=ha.good hs;have hev:∀x∈b.op.operands.toList,ev (s.put a.dst va ua) x=ev s x:=fun x hx=>N1 fun d hd hxd=>hf.al d hd (hxd▸hx)
 have hw:∀c,wK ops b (s.put a.dst va ua).tmps c↔wK ops b s.tmps c:=fun c=>by
  unfold wK;split
  ·exact Iff.rfl
  ·rename_i j a1 hg;have:∀t,kR ops j=some t→nth .any (s.put a.dst va ua).tmps t=nth .any s.tmps t:=fun t ht=>by
    simp only[Am];cases hd:a.dst with
    |none=>rfl
    |some d=>exact qa _ _ _ fun e=>hf.ag d hd j a1 hg (by rw[ht,e])
   constructor
   ·rintro⟨t,h1,h2⟩;exact⟨t,h1,by rw[←this t h1];exact h2⟩
   ·rintro⟨t,h1,h2⟩;exact⟨t,h1,by rw[this t h1];exact h2⟩
 have hop:xc C b (ev (s.put a.dst va ua)) (s.put a.dst va ua).objs=xc C b (ev s) s.objs:=by
  rw[Y9 hev];refine Eq.symm (Ox ?_ fun d hd=>?_)
  ·by_cases hb:cls C b=0
   ·exact .inl hb
   ·refine .inr fun k hk=>?_
    have a0:nth .none s.objs k≠ .none:=by
     unfold opk at hk;split at hk
     ·obtain⟨j,h1,h2⟩:=qy.1 hk;rcases h2 with rfl|⟨q,hq,h2⟩
      ·exact vz hs k h1
      ·exact hs.objs j q hq k h2
     ·obtain⟨j,h1,h2⟩:=wG.1 hk;rcases h2 with rfl|⟨T,q,hq,h2⟩
      ·exact vz hs k h1
      ·exact hs.objs j q (by rw[hq];simp[qM]) k h2
    refine Ag.symm ?_;change Ag _ (nth .none (upds s.objs ua) k) _;rcases wJ k ua s.objs with h1|⟨_,h1⟩|⟨p,hp,rfl,h2⟩
    ·exact .inl h1
    ·exact absurd h1 a0
    ·rcases(hu p hp).1 with⟨_,h3⟩|⟨_,h3,_,h4⟩
     ·exact absurd (qE h3).1 a0
     ·have hca:cls C a=1∧cls C b=1:=by
       rcases hf.cl with(h|h|h)|h
       ·exact absurd h h3
       ·exact absurd h hb
       ·exact h
       ·exact absurd (hrb hb _ hk) (h.1 _ (hra p hp))
      obtain⟨sz,es,fz,h5,h6⟩:=h4 (by omega);exact .inr ⟨by omega,sz,es,true,fz,by rw[h2,h6],h5⟩
  ·refine Eq.symm ?_;have hne:∀p∈ua,p.2≠ .none:=fun p hp=>(hu p hp).2.1
   change qq (upds s.objs ua) d=_;by_cases hex:∃p∈ua,p.1=d
   ·obtain⟨p,hp,rfl⟩:=hex;rcases(hu p hp).1 with⟨h3,_⟩|⟨_,_,h3,_⟩
    ·exact absurd hd (hf.dd _ h3)
    ·have h4:=xQ hne h3;have a2:∀{ob:List Obj} {d:Nat},nth .none ob d≠ .none→qq ob d=false:=fun{ob} {d} h=>by
      cases hfk:qq ob d
      ·rfl
      ·exact absurd (qE hfk).1 h
     rw[a2 h3,a2 h4]
   ·have:nth .none (upds s.objs ua) d=nth .none s.objs d:=kr _ _ fun p hp e=>hex ⟨p,hp,e⟩
    have hl:=jb ua s.objs;unfold qq;by_cases hlt:d<s.objs.length
    ·rw[qn _ hlt,qn _ (by rw[hl];exact hlt)];rw[qn _ hlt,qn _ (by rw[hl];exact hlt)]at this;rw[this]
    ·rw[qB (l:=upds s.objs ua) _ (by rw[hl];exact AG.1 hlt),qB (l:=s.objs) _ (AG.1 hlt)]
 unfold Stp;rw[hop];constructor
 ·rintro⟨c,h1,h2⟩;exact⟨c,(hw c).1 h1,h2⟩
 ·rintro⟨c,h1,h2⟩;exact⟨c,(hw c).2 h1,h2⟩
theorem Stp.swap [EffOk C] {a b:Oper} {ra rb:Rec} {s:St} {va vb:V} {ua ub:List (Nat×Obj)} (hs:WF s) (hf:Free C ops a b ra rb) (ha:Stp C Gv ops a s va ua) (hra:RecOk C a s ua ra) (hb:Stp C Gv ops b (s.put a.dst va ua) vb ub) (hrb:RecOk C b (s.put a.dst va ua) ub rb):
 (Stp C Gv ops b s vb ub∧RecOk C b s ub rb)∧(Stp C Gv ops a (s.put b.dst vb ub) va ua∧RecOk C a (s.put b.dst vb ub) ua ra)∧((s.put a.dst va ua).put b.dst vb ub).tmps=((s.put b.dst vb ub).put a.dst va ua).tmps∧
  ((s.put a.dst va ua).put b.dst vb ub).objs=((s.put b.dst vb ub).put a.dst va ua).objs:=by
 have a0:RecOk C b s ub rb:=⟨fun hb0=>by
  have hl:∀k∈Ku (ev s) b.op.operands.toList,k∈rb.1:=fun k hk=>hrb.reads hb0 k (by
   exact H5 k (by rw[Vf hf];exact hk))
  rw[←H6 hs hf ha hra.ups hb0 hl];exact hrb.reads hb0,hrb.ups⟩
 have a1:=(ha.indep hs hf hra.ups a0.reads).1 hb;refine⟨⟨a1,a0⟩,⟨(a1.indep hs hf.symm hrb.ups hra.reads).2 ha,fun ha0=>by
  rw[H6 hs hf.symm a1 hrb.ups ha0 fun k hk=>hra.reads ha0 k (H5 k hk)];exact hra.reads ha0,hra.ups⟩,?_,?_⟩
 ·simp only[Am];cases hda:a.dst with
  |none=>rfl
  |some d=>
   cases hdb:b.dst with
   |none=>rfl
   |some e=>exact kF _ _ _ _ _ (.inl fun he=>hf.dd d (yq hda) (yq (by rw[hdb,he])))
 ·simp only[Am];refine Jo _ _ _ fun p hp q hq hpq=>?_
  have hp':=((ha.good hs).1 p hp).1;have a2:=((a1.good hs).1 q hq).1;rcases hp' with⟨h1,h2⟩|⟨_,h1,h2,h3⟩
  ·rcases a2 with⟨h4,h5⟩|⟨_,_,h4,_⟩
   ·exact absurd (hpq▸h4) (hf.dd _ h1)
   ·rw[hpq]at h4;exact absurd (qE h2).1 h4
  ·rcases a2 with⟨h4,h5⟩|⟨_,h4,_,h6⟩
   ·rw[hpq]at h5;exact absurd (qE h5).1 h2
   ·have hca:cls C a=1∧cls C b=1:=by
     rcases hf.cl with(h|h|h)|h
     ·exact absurd h h1
     ·exact absurd h h4
     ·exact h
     ·exact absurd (hpq▸hrb.ups q hq) (h.2.2 _ (hra.ups p hp))
    obtain⟨sz,es,fz,h7,h8⟩:=h3 (by omega);obtain⟨sz',es',fz',h9,h10⟩:=h6 (by omega);rw[hpq,h7]at h9;simp only[Ak]at h9;obtain⟨rfl,rfl,_⟩:=h9;rw[h8,h10]
theorem Tr.front [EffOk C] {rc:Nat→Rec} {i:Nat} {o:Oper} (ho:ops[i]? =some o):∀{pre post:List Nat} {s e:St},WF s→(∀j∈pre,∀b,ops[j]? =some b→Free C ops b o (rc j) (rc i))→Tr C Gv ops rc (pre++i::post) s e→Tr C Gv ops rc (i::(pre++post)) s e
 |[],post,s,e,_,_,h=>h
 |j::pre,post,s,e,hs,hf,h=>by
  obtain⟨b,hb,vb,ub,h1,hr1,h2⟩:=h;obtain⟨o',ho',v,up,h3,hr3,h4⟩:=Tr.front ho (hs.put h1) (fun j' hj'=>hf j' (by simp[hj'])) h2;obtain rfl:o=o':=by rw[ho]at ho';exact AO ho'
  obtain⟨h5,h6,h7,h8⟩:=h1.swap hs (hf j (by simp) b hb) hr1 h3 hr3;exact⟨o,ho,v,up,h5.1,h5.2,b,hb,vb,ub,h6.1,h6.2,h4.same h7 h8⟩
end
end Eng
end

section
namespace Eng
open Go Go.RowKit
section
variable {C:Cx} {B:Bd} {F0:Nat→Prop} {w0:World} {ops:Array Oper} {Q:Exit→Act→World→Prop}
theorem xw {s s':St} {a:Act} {w:World} (h:Al C B F0 w0 s a w) (h1:s.tmps=s'.tmps) (h2:s.objs=s'.objs):Al C B F0 w0 s' a w:=by
 obtain⟨F,loc,h⟩:=h;obtain⟨t,o,d⟩:=s;obtain⟨t',o',d'⟩:=s';subst h1 h2;exact⟨F,loc,h.redirty⟩
theorem H7 {o:Oper} {s:St} {a:Act} {w:World} {F:Nat→Prop} {loc:Where} {b:Bool} (h:Conc C B F0 w0 F loc s a w) (hw:wK ops o s.tmps b):Ar o (yielded ops a.tmps)=b:=by
 unfold wK at hw;unfold Ar;split at hw
 ·rename_i hg;rw[hg];exact hw.symm
 ·rename_i j a2 hg;obtain⟨t,h1,hw⟩:=hw;rw[hg];rcases hw with⟨c,h2,rfl⟩|⟨h2,rfl⟩
  rotate_left
  ·have ht:t<s.tmps.length:=by
    rcases AD t s.tmps.length with h|h
    ·exact h
    ·rw[qB _ h]at h2;simp at h2
   have hv:=h.tmps.nth .any undef _ _ t ht;rw[h2,yk]at hv;have a0:a.tmps.getD t undef=undef:=hv;have a1:t<a.tmps.size:=by have:=h.tmps.length;simpa [this]using ht
   have hy:yielded ops a.tmps j=none:=by
    unfold yielded;unfold kR at h1;split at h1
    ·rename_i g hj;have:a.tmps[t]? =some undef:=by rw[Ad a1];simp[Ab,a1]at a0;rw[a0]
     simp[hj,h1,this,undef]
    ·simp at h1
   dsimp only
   rw[hy];cases a2<;>rfl
  have ht:t<s.tmps.length:=by
   rcases AD t s.tmps.length with h|h
   ·exact h
   ·rw[qB _ h]at h2;simp at h2
  have hv:=h.tmps.nth .any undef _ _ t ht;rw[h2,yk]at hv;have a0:a.tmps.getD t undef= .bool c:=(fun(x:Value) (hx:CD w F (.bool c) x)=>(by cases hx;rfl:x= .bool c)) _ hv;have a1:t<a.tmps.size:=by have:=h.tmps.length;simpa [this]using ht
  have hy:yielded ops a.tmps j=some c:=by
   unfold yielded;unfold kR at h1;split at h1
   ·rename_i g hj;have:a.tmps[t]? =some (.bool c):=by rw[Ad a1];simp[Ab,a1]at a0;rw[a0]
    simp[hj,h1,this]
   ·simp at h1
  dsimp only
  rw[hy];cases c<;>cases a2<;>rfl
theorem Stp.wp [EffOk C] {o:Oper} {i:Nat} {s:St} {a:Act} {w:World} {v:V} {up:List (Nat×Obj)} {K:Act→World→Prop} (ho:ops[i]? =some o) (h:Al C B F0 w0 s a w) (hs:Stp C (qe C) ops o s v up)
 (hK:∀a' w',Al C B F0 w0 (s.put o.dst v up) a' w'→K a' w'):wpOp C.P ops Q i K a w:=by
 obtain⟨F,loc,h⟩:=h;obtain⟨b,hw,hs⟩:=hs;unfold wpOp;rw[ho]
 dsimp only
 rw[H7 h hw];cases b with
 |false=>obtain⟨rfl,rfl⟩:=hs;rw[if_neg (by simp)];exact hK _ _ ⟨F,loc,h.pure (v:= .no) rfl trivial⟩
 |true=>
  rw[if_pos rfl]at hs ⊢;refine .inl ?_;have hr:=Bs (o:=o) h;generalize xc C o (ev s) s.objs=r at *;cases r with
  |fail=>exact hs.elim
  |ok v up=>obtain⟨rfl,rfl⟩:=hs;exact hr K Q hK
  |cond c v up=>obtain⟨hc,rfl,rfl⟩:=hs;exact hr hc K Q hK
  |look z row off ag=>obtain⟨ds,hc,rfl,rfl⟩:=hs;exact hr ds hc K Q hK
  |call f as sh up=>obtain⟨rs,h1,h2,rfl,rfl⟩:=hs;exact hr rs h1 h2 K Q hK
theorem N2 {s:St} {a:Act} {w:World} (h:Al C B F0 w0 s a w):WF s:=by
 obtain⟨F,loc,h⟩:=h;have hk:∀v,Ref s.objs v→∀k∈qk v,nth .none s.objs k≠ .none:=fun v hv k hk=>by
  cases v<;>simp only[qk,At,A8]at hk<;>first|(subst hk;exact hv)|exact hv k hk
 refine⟨fun v hv=>hk v (h.refs v hv),fun k u hu=>hk u ?_⟩;have:=h.objs k;cases hc:nth .none s.objs k with
 |box cells=>rw[hc]at this hu;obtain⟨_,_,_,_,_,_,_,_,h5⟩:=this;exact h5 u hu
 |bld T q=>rw[hc]at this hu;obtain⟨_,_,_,_,_,_,_,_,_,h5⟩:=this;simp[qM]at hu;subst hu;exact h5.1
 |_=>rw[hc]at hu;simp[qM]at hu
theorem Vg [EffOk C] {rc:Nat→Rec}:∀{l:List Nat} {s e:St} {a:Act} {w:World},Tr C (qe C) ops rc l s e→Al C B F0 w0 s a w→(∀a w,Al C B F0 w0 e a w→Q .normal a w)→wpOps C.P ops Q l a w
 |[],s,e,a,w,ht,h,hQ=>hQ a w (xw h ht.1 ht.2)
 |i::l,s,e,a,w,ht,h,hQ=>by obtain⟨o,ho,v,up,h1,_,h2⟩:=ht;rw[wpOps_cons];exact h1.wp ho h fun a' w' h'=>Vg h2 h' hQ
theorem Qe (m j:Nat):WP m j=m.testBit j:=by
 unfold WP;rw[Bool.eq_iff_iff,Nat.beq_eq];show(m>>>j)&&&1=1↔_;rw[Nat.testBit,Nat.and_comm,Nat.one_and_eq_mod_two,bne_iff_ne];omega
theorem N3:∀(l:List Oper) (acc:List Nat),∃ext,anc l acc=acc++ext∧ext.length=l.length∧∀i o,l[i]? =some o→nth 0 ext i=kS o.after.toList (acc++ext.take i)
 |[],acc=>⟨[],by simp[anc],rfl,fun i o h=>by simp at h⟩
 |o::l,acc=>by
  obtain⟨ext,h1,h2,h3⟩:=N3 l (acc++[kS o.after.toList acc]);refine⟨kS o.after.toList acc::ext,by simp only[anc];rw[h1,A7];rfl,by simp[h2],fun i p hi=>?_⟩;cases i with
  |zero=>simp only[Ax,AN]at hi;subst hi;simp[nth]
  |succ i=>simp only[Ay]at hi;have:=h3 i p hi;simp only[nth,List.take_succ_cons];rw[this,A7];rfl
theorem Qf {acc:List Nat} {j:Nat}:∀{es:List Edge},WP (kS es acc) j=true→∃e∈es,Aq .any e=true∧(j=e.on∨WP (nth 0 acc e.on) j=true)
 |[],h=>by rw[Qe]at h;simp[kS]at h
 |e::r,h=>by
  simp only[kS]at h;split at h
  ·rename_i hb;have h:WP ((2^e.on|||nth 0 acc e.on)|||kS r acc) j=true:=h;rw[Qe,AK,AK,Nat.testBit_two_pow,Ah,Ah,decide_eq_true_eq,←Qe,←Qe]at h;rcases h with(h|h)|h
   ·exact⟨e,by simp,hb,.inl h.symm⟩
   ·exact⟨e,by simp,hb,.inr h⟩
   ·obtain⟨e',h1,h2,h3⟩:=Qf h;exact⟨e',by simp[h1],h2,h3⟩
  ·obtain⟨e',h1,h2,h3⟩:=Qf h;exact⟨e',by simp[h1],h2,h3⟩
theorem RF {i j:Nat} {o:Oper} {l:List Oper} (ho:l[i]? =some o) (h:WP (nth 0 (anc l []) i) j=true):∃e∈o.after.toList,Aq .any e=true∧(j=e.on∨WP (nth 0 (anc l []) e.on) j=true):=by
 obtain⟨ext,h1,h2,h3⟩:=N3 l [];simp only[List.nil_append]at h1 h3;rw[h1]at h ⊢;rw[h3 i o ho]at h;obtain⟨e,h4,h5,h6⟩:=Qf h;refine⟨e,h4,h5,h6.imp_right fun h6=>?_⟩;by_cases he:e.on<(ext.take i).length
 ·rw[qn _ he]at h6;have hlt:e.on<ext.length:=by simp at he;omega
  rw[qn _ hlt]
  simpa using h6
 ·rw[qB _ (AG.1 he),Qe]at h6;simp at h6
structure ROk (C:Cx) (ops:Array Oper) (rc:Nat→Rec):Prop where
 free:∀i o,ops[i]? =some o→∀j b,j<i→ops[j]? =some b→WP (nth 0 (anc ops.toList []) i) j=true∨Free C ops b o (rc j) (rc i)
 back:∀i o,ops[i]? =some o→∀e∈o.after.toList,Aq .any e=true→e.on<i
theorem XW {i:Nat}:∀{es:List Edge},Kt es i=true→∀e∈es,Aq .any e=true→e.on<i
 |[],_,e,he,_=>by simp at he
 |e'::r,h,e,he,hb=>by
  simp only[Kt,Ae]at h;rcases As.1 he with rfl|he
  ·have:=h.1;rw[hb]at this
   simpa [AJ]using this
  ·exact XW h.2 e he hb
theorem Xi {o:Oper} {an:Nat}:∀{l:List Oper} {j:Nat},yG C ops.toList o an l j=true→∀k b,l[k]? =some b→WP an (j+k)=true∨∀rb ro,Free C ops b o rb ro
 |[],_,_,k,b,hb=>by simp at hb
 |b'::r,j,h,k,b,hb=>by
  simp only[yG,Ae,Ah]at h;cases k with
  |zero=>
   simp only[Ax,AN]at hb;subst hb;rcases h.1 with h1|h1
   ·exact .inl h1
   ·exact .inr fun rb ro=>Ll h1
  |succ k=>
   simp only[Ay]at hb;have:=Xi h.2 k b hb
   rwa [AH,AI 1 k]at this
theorem Qg {an:List Nat} {all:List Oper}:∀{l:List Oper} {k:Nat},kD C all an l k=true→∀i o,l[i]? =some o→yG C all o (nth 0 an (k+i)) (all.take (k+i)) 0=true∧Kt o.after.toList (k+i)=true
 |[],_,_,i,o,h=>by simp at h
 |o'::r,k,h,i,o,ho=>by
  simp only[kD,Ae]at h;cases i with
  |zero=>simp only[Ax,AN]at ho;subst ho;exact h.1
  |succ i=>
   simp only[Ay]at ho;have:=Qg h.2 i o ho
   rwa [AH,AI 1 i]at this
theorem Qh (rc:Nat→Rec) (h:w6 C ops.toList=true):ROk C ops rc:=by
 have hg:=fun i o (ho:ops[i]? =some o)=>Qg (k:=0) h i o (by simpa using ho)
 simp only[AF]at hg;refine⟨fun i o ho j b hj hb=>?_,fun i o ho=>XW (hg i o ho).2⟩;have:=Xi (hg i o ho).1 j b (by rw[A4 hj];simpa using hb);rw[AF]at this;exact this.imp_right fun h=>h _ _
theorem Qi {o:Oper} {ro:Rec} {an:Nat}:∀{l:List Oper} {rs:List Rec} {j:Nat},w7 C ops.toList o ro an l rs j=true→∀k b,l[k]? =some b→WP an (j+k)=true∨Free C ops b o (nth ([],[]) rs k) ro
 |[],_,_,_,k,b,hb=>by simp at hb
 |b'::r,rs,j,h,k,b,hb=>by
  simp only[w7,Ae,Ah]at h;cases k with
  |zero=>
   simp only[Ax,AN]at hb;subst hb;rcases h.1 with h1|h1
   ·exact .inl h1
   ·exact .inr (H4 h1)
  |succ k=>
   simp only[Ay]at hb;have:=Qi h.2 k b hb;rw[AH,AI 1 k]at this;refine this.imp_right fun h=>?_
   have e:nth ([],[]) (rs.drop 1) k=nth ([],[]) rs (k+1):=by rw[qI,qI];simp
   rwa [e]at h
theorem vS {an:List Nat} {all:List Oper} {recs:List Rec}:∀{l:List Oper} {k:Nat},jG C all recs an l k=true→∀i o,l[i]? =some o→w7 C all o (nth ([],[]) recs (k+i)) (nth 0 an (k+i)) (all.take (k+i)) recs 0=true∧Kt o.after.toList (k+i)=true
 |[],_,_,i,o,h=>by simp at h
 |o'::r,k,h,i,o,ho=>by
  simp only[jG,Ae]at h;cases i with
  |zero=>simp only[Ax,AN]at ho;subst ho;exact h.1
  |succ i=>
   simp only[Ay]at ho;have:=vS h.2 i o ho
   rwa [AH,AI 1 i]at this
theorem vT {recs:List Rec} (h:w8 C ops.toList recs=true):ROk C ops (fun i=>nth ([],[]) recs i):=by
 have hg:=fun i o (ho:ops[i]? =some o)=>vS (k:=0) h i o (by simpa using ho)
 simp only[AF]at hg;refine⟨fun i o ho j b hj hb=>?_,fun i o ho=>XW (hg i o ho).2⟩;have:=Qi (hg i o ho).1 j b (by rw[A4 hj];simpa using hb)
 rwa [AF]at this
theorem Lo [EffOk C] {rc:Nat→Rec} (hr:ROk C ops rc):∀{rem:List Nat} {listed:Array Bool} {s e:St} {a:Act} {w:World},Tr C (qe C) ops rc rem s e→Al C B F0 w0 s a w→(∀a w,Al C B F0 w0 e a w→Q .normal a w)→
 rem.Pairwise (· < ·)→listed.size=ops.size→(∀i,i∈rem↔i<ops.size∧listed.getD i true=false)→(∀i,i<ops.size→listed.getD i true=true→∀j,WP (nth 0 (anc ops.toList []) i) j=true→listed.getD j false=true)→
 wpAny C.P .any ops Q rem.length listed a w:=by
 intro rem;generalize hn:rem.length=n
 induction n generalizing rem with
 |zero=>intro listed s e a w ht h hQ a2 ah a0 ac;have a4:rem=[]:=List.eq_nil_of_length_eq_zero hn;subst a4;refine⟨?_,hQ a w (xw h ht.1 ht.2)⟩;apply List.eq_nil_iff_forall_not_mem.2;intro i hi;obtain⟨h0,o,ho,_⟩:=mem_ready.1 hi;have:=(a0 i).2 ⟨(Ac.1 ho).1,h0⟩;simp at this
 |succ n ih=>
  intro listed s e a w ht h hQ a2 ah a0 ac;have a1:∀j,j<listed.size→listed.getD j true=listed.getD j false:=fun j hj=>by simp[Ab,hj]
  refine⟨fun a4=>?_,fun i hi=>?_⟩
  ·cases rem with
   |nil=>simp at hn
   |cons i r=>
    exfalso;have hi:=(a0 i).1 (by simp);obtain⟨o,ho,_⟩:=ht;have:i∈Region.ready .any ops listed:=by
     refine mem_ready.2 ⟨hi.2,o,ho,fun e he hb=>?_⟩;have ad:=hr.back i o ho e (by simpa using he) hb;cases hl:listed.getD e.on true with
     |true=>rw[←a1 _ (by omega)];exact hl
     |false=>
      have:=(a0 e.on).2 ⟨by omega,hl⟩;rcases As.1 this with h1|h1
      ·omega
      ·have:=A3 a2 h1;omega
    rw[a4]at this;simp at this
  ·obtain⟨h0,o,ho,ab⟩:=mem_ready.1 hi;have a8:i<ops.size:=(Ac.1 ho).1;have him:i∈rem:=(a0 i).2 ⟨a8,h0⟩;obtain⟨aa,a3,rfl⟩:=List.append_of_mem him;have a6:∀j,WP (nth 0 (anc ops.toList []) i) j=true→listed.getD j false=true:=fun j hj=>by
    obtain⟨e,h1,h2,h3⟩:=RF (by simpa using ho) hj;have he:=ab e (by simpa using h1) h2;rcases h3 with rfl|h3
    ·exact he
    ·have ad:=hr.back i o ho e h1 h2;exact ac e.on (by omega) (by rw[a1 _ (by omega)];exact he) j h3
   have a5:=A5.1 a2;have a7:∀j∈aa,∀b,ops[j]? =some b→Free C ops b o (rc j) (rc i):=fun j hj b hb=>by
    have ad:j<i:=a5.2.2 j hj i (by simp);rcases hr.free i o ho j b ad hb with h1|h1
    ·have h2:=a6 j h1;have h3:=((a0 j).1 (by simp[hj])).2;rw[a1 j (by omega),h2]at h3;simp at h3
    ·exact h1
   obtain⟨o',ai,v,up,h1,_,h2⟩:=Tr.front ho (N2 h) a7 ht;obtain rfl:o=o':=by rw[ho]at ai;exact AO ai
   refine h1.wp ho h fun a' w' h'=>?_
   have ae:∀j,j∈aa++a3↔j∈aa++i::a3∧j≠i:=fun j=>by
    have af:∀j∈aa,j≠i:=fun j hj he=>by have:=a5.2.2 j hj i (by simp);omega
    have a9:∀j∈a3,j≠i:=fun j hj he=>by have:=A3 a5.2.1 hj;omega
    simp only[Aw,As];constructor
    ·rintro(h|h)
     ·exact⟨.inl h,af j h⟩
     ·exact⟨.inr (.inr h),a9 j h⟩
    ·rintro⟨h|h|h,h'⟩
     ·exact .inl h
     ·exact absurd h h'
     ·exact .inr h
   have ag:∀j,(listed.setIfInBounds i true).getD j true=false↔listed.getD j true=false∧j≠i:=fun j=>by
    by_cases hij:i=j
    ·subst hij;simp[ah,a8]
    ·rw[getD_set_ne true hij];exact⟨fun h=>⟨h,fun e=>hij e.symm⟩,fun h=>h.1⟩
   refine ih (rem:=aa++a3) (by simp at hn ⊢;omega) h2 h' hQ ?_ (by simp[ah]) (fun j=>?_) (fun k hk hlk j hj=>?_)
   ·exact A5.2 ⟨a5.1,(List.pairwise_cons.1 a5.2.1).2,fun x hx y hy=>a5.2.2 x hx y (by simp[hy])⟩
   ·rw[ae,a0,ag];exact⟨fun h=>⟨h.1.1,h.1.2,h.2⟩,fun h=>⟨⟨h.1,h.2.1⟩,h.2.2⟩⟩
   ·by_cases hki:i=k
    ·subst hki;exact getD_set_true (a6 j hj)
    ·rw[getD_set_ne true hki]at hlk;exact getD_set_true (ac k hk hlk j hj)
theorem wL [EffOk C] {rc:Nat→Rec} {id:Nat} {draw:Bool} {s e:St} {a:Act} {w:World} (hm:C.P.follows .mixedOrders=true) (hr:draw=true→ROk C ops rc) (ht:Tr C (qe C) ops rc (List.range ops.size) s e) (h:Al C B F0 w0 s a w)
 (hQ:∀a w,Al C B F0 w0 e a w→Q .normal a w):(Code.region id ops draw).wp C.P Q a w:=by
 cases draw with
 |false=>exact wp_region (Vg ht h hQ)
 |true=>
  refine wp_region_any hm ?_;have hd:Al C B F0 w0 s a {w with drawn:=w.drawn+1}:=by obtain⟨F,loc,h⟩:=h;exact⟨F,loc,h.drew⟩
  have:=Lo (hr rfl) (listed:=Array.replicate ops.size false) ht hd hQ List.pairwise_lt_range (by simp) (fun i=>by
   constructor
   ·intro h;exact⟨by simpa using h,by simp[Ab,AA.1 h]⟩
   ·intro h;exact AA.2 h.1) (fun i hi h=>by simp[Ab,hi]at h)
  rwa [List.length_range]at this
end
end Eng
end

section
namespace Eng
open Go Go.RowKit
section
variable {C:Cx} {B:Bd} {F0:Nat→Prop} {w0:World} {F:Nat→Prop} {loc:Where} {st:St} {a:Act} {w:World}
theorem Jq {α β:Type} {R:α→β→Prop} (d:α) {y:α}:∀{as:List α} {bs:List β} (i:Nat),(∀b,R (nth d as i) b→R y b)→All2 R as bs→All2 R (upd as i y) bs
 |[],[],_,_,_=>trivial
 |_::_,b::_,0,h,h'=>⟨h b h'.1,h'.2⟩
 |_::as,_::bs,i+1,h,h'=>⟨h'.1,Jq (as:=as) (bs:=bs) d i h h'.2⟩
 |[],_::_,_,_,h=>h.elim
 |_::_,[],_,_,h=>h.elim
theorem wM {α β:Type} {R R':α→β→Prop} (d:α) {y:α}:∀{as:List α} {bs:List β} (i:Nat),(∀b,R (nth d as i) b→R' y b)→All2 R as bs→All2 R' as bs→All2 R' (upd as i y) bs
 |[],[],_,_,_,_=>trivial
 |_::_,b::_,0,h,h',h''=>⟨h b h'.1,h''.2⟩
 |_::as,_::bs,i+1,h,h',h''=>⟨h''.1,wM (as:=as) (bs:=bs) d i h h'.2 h''.2⟩
 |[],_::_,_,_,h,_=>h.elim
 |_::_,[],_,_,h,_=>h.elim
theorem Conc.weakT {t:Nat} {v:V} {d:List Nat} (h:Conc C B F0 w0 F loc st a w) (hv:∀x,CV loc st.objs w F (nth .any st.tmps t) x→CV loc st.objs w F v x) (hr:Ref st.objs v):Conc C B F0 w0 F loc ⟨upd st.tmps t v,st.objs,d⟩ a w:=
 ⟨h.prog,h.below,h.hB,h.defers,Jq .any t hv h.tmps,fun u hu=>by
  rcases xC hu with hu|rfl
  ·exact h.refs u hu
  ·exact hr,h.objs,h.inj,h.fresh,h.bound,h.fsub,h.fsup,h.inv⟩
theorem Conc.relocate {objs':List Obj} {loc':Where} {d:List Nat} (h:Conc C B F0 w0 F loc st a w) (hl:Le st.objs objs' loc loc') (hobjs:∀k,CO loc' objs' w F k (nth .none objs' k)) (hinj:∀k k' b c c',loc' k=some (b,c)→loc' k'=some (b,c')→k=k')
 (hfresh:∀k b c,loc' k=some (b,c)→Own B b∧b<w.heap.size):Conc C B F0 w0 F loc' ⟨st.tmps,objs',d⟩ a w:=
 ⟨hl.prog.trans h.prog,h.below,h.hB,h.defers,h.tmps.mono_mem fun v hv _ hx=>CV.le (fun _ h=>h) (fun _ _=>rfl) hl (h.refs v hv) hx,fun v hv=>(h.refs v hv).le hl,hobjs,hinj,hfresh,h.bound,h.fsub,h.fsup,h.inv⟩
theorem Qj {ks:List Nat} {v:V} (h:Kw ks v=false):∀k∈qk v,k∉ks:=by
 intro k hk hm;have ha:∀l:List Nat,SI ks l=false→∀j∈l,ZE j ks=false:=by
  intro l
  induction l with
  |nil=>intro _ j hj;simp at hj
  |cons x l ih=>
   intro h j hj;simp only[SI,Af]at h;rcases As.1 hj with rfl|hj
   ·exact h.1
   ·exact ih h.2 j hj
 cases v<;>simp only[qk,At,A8]at hk<;>first|(subst hk;simp[Kw,zg.2 hm]at h;done)|(have h2:=ha _ h k hk;rw[zg.2 hm]at h2;cases h2)
theorem kG {ks:List Nat}:∀{l:List V},yI ks l=false→∀v∈l,Kw ks v=false
 |[],_,v,hv=>by simp at hv
 |u::r,h,v,hv=>by
  simp only[yI,Af]at h;rcases As.1 hv with rfl|hv
  ·exact h.1
  ·exact kG h.2 v hv
theorem zt {ks:List Nat}:∀{l:List Obj},zd ks l=false→∀o∈l,∀u∈qM o,Kw ks u=false
 |[],_,v,hv=>by simp at hv
 |u::r,h,v,hv=>by
  intro x hx;rcases As.1 hv with e|hm
  ·subst e;cases v with
   |box cells=>simp only[zd,Af]at h;exact kG h.1 x hx
   |bld T q=>simp only[zd,Af]at h;simp[qM]at hx;subst hx;exact h.1
   |_=>simp[qM]at hx
  ·cases u<;>simp only[zd,Af]at h
   ·exact zt h v hm x hx
   ·exact zt h v hm x hx
   ·exact zt h.2 v hm x hx
   ·exact zt h v hm x hx
   ·exact zt h.2 v hm x hx
theorem CV.keep {loc':Where} {objs objs':List Obj} {v:V} {x:Value} (hty:loc'.ty=loc.ty) (hk:∀k∈qk v,nth .none objs' k=nth .none objs k∧loc' k=loc k) (h:CV loc objs w F v x):CV loc' objs' w F v x:=by
 cases v with
 |box k off=>intro a0 hc;rw[(hk k (by simp[qk])).1]at hc;rw[(hk k (by simp[qk])).2];exact h a0 hc
 |arr k=>intro s es fz hc;rw[(hk k (by simp[qk])).1]at hc;rw[(hk k (by simp[qk])).2];exact h s es fz hc
 |elt k i off=>intro s es fz hc;rw[(hk k (by simp[qk])).1]at hc;rw[(hk k (by simp[qk])).2];exact h s es fz hc
 |sub k off len=>intro s es fz hc;rw[(hk k (by simp[qk])).1]at hc;rw[(hk k (by simp[qk])).2];exact h s es fz hc
 |arrAt k g c t=>intro s es fz hc;rw[(hk k (by simp[qk])).1]at hc;rw[(hk k (by simp[qk])).2,hty];exact h s es fz hc
 |boxAt k g=>intro o hc;rw[(hk k (by simp[qk])).1]at hc;rw[(hk k (by simp[qk])).2];exact h o hc
 |tpo k as=>obtain⟨x,ys,rfl,h1,h2⟩:=h;refine⟨x,ys,rfl,fun s es fz hc=>?_,h2⟩;rw[(hk k (by simp[qk])).1]at hc;rw[(hk k (by simp[qk])).2];exact h1 s es fz hc
 |agv cs=>
  obtain⟨vs,rfl,h⟩:=h;refine⟨vs,rfl,h.mono_mem fun c hc y hy=>?_⟩;cases c with
  |arr k=>have hk:=hk k (xi.2 hc);refine⟨fun s es fz hc=>?_,hy.2⟩;rw[hk.1]at hc;rw[hk.2];exact hy.1 s es fz hc
  |_=>exact hy
 |_=>exact h
theorem Ref.keep {objs objs':List Obj} {v:V} (hk:∀k∈qk v,nth .none objs' k=nth .none objs k) (h:Ref objs v):Ref objs' v:=by
 cases v with
 |box k off=>intro hc;rw[hk k (by simp[qk])]at hc;exact h hc
 |arr k=>intro hc;rw[hk k (by simp[qk])]at hc;exact h hc
 |elt k i off=>intro hc;rw[hk k (by simp[qk])]at hc;exact h hc
 |sub k off len=>intro hc;rw[hk k (by simp[qk])]at hc;exact h hc
 |arrAt k g c t=>intro hc;rw[hk k (by simp[qk])]at hc;exact h hc
 |boxAt k g=>intro hc;rw[hk k (by simp[qk])]at hc;exact h hc
 |tpo k as=>intro hc;rw[hk k (by simp[qk])]at hc;exact h hc
 |agv cs=>intro k a0 hc;rw[hk k a0]at hc;exact h k a0 hc
 |_=>trivial
theorem CO.keep {loc':Where} {objs objs':List Obj} {k:Nat} {o:Obj} (hP:loc'.P=loc.P) (hkk:loc' k=loc k) (hty:loc'.ty=loc.ty) (hk:∀v∈qM o,∀j∈qk v,nth .none objs' j=nth .none objs j∧loc' j=loc j) (h:CO loc objs w F k o):CO loc' objs' w F k o:=by
 cases o with
 |none=>exact hkk.trans h
 |dead=>exact hkk.trans h
 |box cells=>obtain⟨b,c,cs,t,h1,h2,h3,h4,h5⟩:=h;exact⟨b,c,cs,t,by rw[hkk];exact h1,h2,h3,h4.mono_mem fun v hv x hx=>⟨CV.keep hty (hk v hv) hx.1,hx.2⟩,fun v hv=>Ref.keep (fun j hj=>(hk v hv j hj).1) (h5 v hv)⟩
 |bld T q=>obtain⟨b,c,p,v,h1,h2,h3,h4,h5,h6⟩:=h;have hq:=hk q (by simp[qM]);exact⟨b,c,p,v,by rw[hkk];exact h1,h2,h3,h4,CV.keep hty hq h5,Ref.keep (fun j hj=>(hq j hj).1) h6.1,by rw[hty,hP];exact h6.2⟩
 |arr s es fz=>obtain⟨h1,h2,h3,h4⟩:=h;refine⟨h1,h2,h3,?_⟩;rw[hkk,hP,hty];exact h4
theorem Oz {α:Type} {d:α} {l:List α} {i:Nat} (h:nth d l i≠d):nth d l i∈l:=by
 by_cases hi:i<l.length
 ·rw[qn _ hi];exact A0 hi
 ·exact absurd (qB _ (AG.1 hi)) h
theorem Conc.forgets {ks:List Nat} {objs':List Obj} {d:List Nat} (h:Conc C B F0 w0 F loc st a w) (hin:∀k∈ks,nth .none objs' k= .none) (hout:∀k,k∉ks→nth .none objs' k=nth .none st.objs k) (ht:yI ks st.tmps=false)
 (ho:zd ks objs'=false):∃loc',Conc C B F0 w0 F loc' ⟨st.tmps,objs',d⟩ a w:=by
 refine⟨⟨loc.P,fun k=>if k∈ks then none else loc k,loc.ty⟩,h.prog,h.below,h.hB,h.defers,?_,?_,?_,?_,?_,h.bound,h.fsub,h.fsup,h.inv⟩
 ·refine h.tmps.mono_mem fun v hv x hx=>?_
  refine CV.keep (loc:=loc) (objs:=st.objs) ?_ (fun k hk=>?_) hx
  ·rfl
  ·have hn:=Qj (kG ht v hv) k hk;exact⟨hout k hn,by simp[hn]⟩
 ·exact fun v hv=>Ref.keep (fun k hk=>hout k (Qj (kG ht v hv) k hk)) (h.refs v hv)
 ·intro k;by_cases hk:k∈ks
  ·change CO _ objs' w F k (nth .none objs' k);rw[hin k hk];show(if k∈ks then none else loc k)=none;simp[hk]
  ·change CO _ objs' w F k (nth .none objs' k);have a0:∀u∈qM (nth .none objs' k),Kw ks u=false:=fun u hu=>by
    have hne:nth .none objs' k≠ .none:=by intro e;rw[e]at hu;simp[qM]at hu
    exact zt ho _ (Oz hne) u hu
   have h0:=h.objs k;rw[←hout k hk]at h0;refine CO.keep (loc:=loc) (objs:=st.objs) rfl (by simp[hk]) rfl (fun v hv j hj=>?_) h0;have hn:=Qj (a0 v hv) j hj;exact⟨hout j hn,by simp[hn]⟩
 ·intro k k' b c c' h1 h2;by_cases hk:k∈ks
  ·simp[hk]at h1
  ·by_cases hk':k'∈ks
   ·simp[hk']at h2
   ·simp only[if_neg hk]at h1;simp only[if_neg hk']at h2;exact h.inj _ _ _ _ _ h1 h2
 ·intro k b c h1;by_cases hk:k∈ks
  ·simp[hk]at h1
  ·simp only[if_neg hk]at h1;exact h.fresh _ _ _ h1
theorem Conc.move {s k key sz:Nat} {es:List (List D)} {d:List Nat} (h:Conc C B F0 w0 F loc st a w) (hs:nth .any st.tmps s= .arr k) (hk:nth .none st.objs k= .arr sz es false) (hkey:nth .none st.objs key= .none) (hlt:key<st.objs.length):
 ∃loc',Conc C B F0 w0 F loc' ⟨upd st.tmps s (.arr key),upd (upd st.objs k .dead) key (.arr sz es false),d⟩ a w:=by
 have hne:k≠key:=fun e=>by subst e;rw[hk]at hkey;simp at hkey
 have a1:k<st.objs.length:=by
  rcases AD k st.objs.length with h|h
  ·exact h
  ·rw[qB _ h]at hk;simp at hk
 have hn:∀j,nth .none (upd (upd st.objs k .dead) key (.arr sz es false)) j=if j=key then .arr sz es false else if j=k then .dead else nth .none st.objs j:=fun j=>by
  by_cases h1:j=key
  ·subst h1;rw[qb _ _ _ (by rw[xv];simpa using hlt)];simp
  ·rw[qa _ _ _ (AM h1),if_neg h1];by_cases h2:j=k
   ·subst h2;rw[qb _ _ _ a1];simp
   ·rw[qa _ _ _ (AM h2),if_neg h2]
 generalize hob:upd (upd st.objs k .dead) key (.arr sz es false)=objs' at *
 let loc':Where:=⟨loc.P,fun j=>if j=key then loc k else if j=k then none else loc j,fun j=>if j=key then loc.ty k else loc.ty j⟩
 have a3:Le st.objs objs' loc loc':=by
  refine⟨rfl,fun j hj=>by
   have:j≠key:=fun e=>by subst e;exact hj hkey
   simp[loc',this],fun j hj=>?_,fun j o' hj hc hbx=>?_,fun j s' es' fz' hj hc=>?_⟩
  ·rw[hn];split
   ·simp
   ·split
    ·simp
    ·exact hj
  ·rw[hn]at hc;split at hc
   ·rw[←hc]at hbx;simp[xE]at hbx
   ·split at hc
    ·rw[←hc]at hbx;simp[xE]at hbx
    ·rename_i e1 e2;exact⟨by rw[hc];exact hbx,by simp[loc',e1,e2]⟩
  ·rw[hn]at hc;split at hc
   ·rename_i e;rw[e]at hj;exact absurd hkey hj
   ·split at hc
    ·simp at hc
    ·exact⟨⟨_,_,hc,rfl⟩,by simp[loc', *]⟩
 have hlk:loc key=none:=by have:=h.objs key;rw[hkey]at this;exact this
 have h1:Conc C B F0 w0 F loc' ⟨st.tmps,objs',d⟩ a w:=by
  refine h.relocate a3 (fun j=>?_) ?_ ?_
  ·rw[hn];split
   ·rename_i e;have h0:=h.objs k;rw[hk]at h0;obtain⟨q1,q2,q3,q4⟩:=h0;refine⟨q1,q2,q3,?_⟩;simp only[loc',e,if_pos];exact q4
   ·split
    ·rename_i e;show loc' j=none;simp[loc',e,hne]
    ·rename_i e1 e2;exact Aj (fun _ h=>h) (fun _ _=>rfl) a3 (by simp[loc',e1,e2]) (by simp[loc',e1]) (fun _ _ _=>⟨rfl,fun h=>h⟩) (h.objs j)
  ·intro j j' b c c' g1 g2;simp only[loc']at g1 g2;split at g1<;>split at g2
   ·rw[‹j=key›,‹j'=key›]
   ·split at g2
    ·simp at g2
    ·exact absurd (h.inj _ _ _ _ _ g1 g2).symm ‹_›
   ·split at g1
    ·simp at g1
    ·exact absurd (h.inj _ _ _ _ _ g1 g2) ‹_›
   ·split at g1
    ·simp at g1
    ·split at g2
     ·simp at g2
     ·exact h.inj _ _ _ _ _ g1 g2
  ·intro j b c g1;simp only[loc']at g1;split at g1
   ·exact h.fresh _ _ _ g1
   ·split at g1
    ·simp at g1
    ·exact h.fresh _ _ _ g1
 refine⟨loc',?_⟩;have a0:Conc C B F0 w0 F loc' ⟨upd st.tmps s (.arr key),objs',d⟩ a w:=by
  refine⟨h1.prog,h1.below,h1.hB,h1.defers,?_,fun u hu=>?_,h1.objs,h1.inj,h1.fresh,h1.bound,h1.fsub,h1.fsup,h1.inv⟩
  ·--slot s:read from the old state
   have hs0:s<st.tmps.length:=by
    rcases AD s st.tmps.length with h|h
    ·exact h
    ·rw[qB _ h]at hs;simp at hs
   have a2:CV loc' objs' w F (.arr key) (nth undef a.tmps.toList s):=by
    have h0:=h.tmps.nth .any undef _ _ s hs0;rw[hs]at h0;intro s' es' fz' hc;rw[hn,if_pos rfl]at hc;simp only[Ak]at hc;obtain⟨rfl,rfl,rfl⟩:=hc;have:=h0 sz es false hk
    simpa [loc']using this
   have hlen:=h.tmps.length;have:upd a.tmps.toList s (nth undef a.tmps.toList s)=a.tmps.toList:=KD undef _ _ _ rfl;have h2:=All2.upd (i:=s) a2 h1.tmps;rw[this]at h2;exact h2
  ·rcases xC hu with hu|rfl
   ·exact h1.refs u hu
   ·show nth .none objs' key≠ .none;rw[hn];simp
 exact a0
theorem Conc.moveN {s k key sz n:Nat} {es:List (List D)} {d:List Nat} (h:Conc C B F0 w0 F loc st a w) (hs:nth .any st.tmps s= .sub k 0 n) (hk:nth .none st.objs k= .arr sz es false) (hkey:nth .none st.objs key= .none) (hlt:key<st.objs.length):
 ∃loc',Conc C B F0 w0 F loc' ⟨upd st.tmps s (.arr key),upd (upd st.objs k .dead) key (.arr sz (es.take n) false),d⟩ a w:=by
 have hnl:n≤es.length:=by
  have hlt:s<st.tmps.length:=by
   rcases AD s st.tmps.length with h1|h1
   ·exact h1
   ·rw[qB _ h1]at hs;simp at hs
  have hc:=h.tmps.nth .any default _ _ _ hlt;rw[hs]at hc;obtain⟨b,c,q1,q2,q3⟩:=hc _ _ _ hk;omega
 have hne:k≠key:=fun e=>by subst e;rw[hk]at hkey;simp at hkey
 have a1:k<st.objs.length:=by
  rcases AD k st.objs.length with h|h
  ·exact h
  ·rw[qB _ h]at hk;simp at hk
 have hn:∀j,nth .none (upd (upd st.objs k .dead) key (.arr sz (es.take n) false)) j=if j=key then .arr sz (es.take n) false else if j=k then .dead else nth .none st.objs j:=fun j=>by
  by_cases h1:j=key
  ·subst h1;rw[qb _ _ _ (by rw[xv];simpa using hlt)];simp
  ·rw[qa _ _ _ (AM h1),if_neg h1];by_cases h2:j=k
   ·subst h2;rw[qb _ _ _ a1];simp
   ·rw[qa _ _ _ (AM h2),if_neg h2]
 generalize hob:upd (upd st.objs k .dead) key (.arr sz (es.take n) false)=objs' at *
 let loc':Where:=⟨loc.P,fun j=>if j=key then loc k else if j=k then none else loc j,fun j=>if j=key then loc.ty k else loc.ty j⟩
 have a3:Le st.objs objs' loc loc':=by
  refine⟨rfl,fun j hj=>by
   have:j≠key:=fun e=>by subst e;exact hj hkey
   simp[loc',this],fun j hj=>?_,fun j o' hj hc hbx=>?_,fun j s' es' fz' hj hc=>?_⟩
  ·rw[hn];split
   ·simp
   ·split
    ·simp
    ·exact hj
  ·rw[hn]at hc;split at hc
   ·rw[←hc]at hbx;simp[xE]at hbx
   ·split at hc
    ·rw[←hc]at hbx;simp[xE]at hbx
    ·rename_i e1 e2;exact⟨by rw[hc];exact hbx,by simp[loc',e1,e2]⟩
  ·rw[hn]at hc;split at hc
   ·rename_i e;rw[e]at hj;exact absurd hkey hj
   ·split at hc
    ·simp at hc
    ·exact⟨⟨_,_,hc,rfl⟩,by simp[loc', *]⟩
 have hlk:loc key=none:=by have:=h.objs key;rw[hkey]at this;exact this
 have h1:Conc C B F0 w0 F loc' ⟨st.tmps,objs',d⟩ a w:=by
  refine h.relocate a3 (fun j=>?_) ?_ ?_
  ·rw[hn];split
   ·rename_i e;have h0:=h.objs k;rw[hk]at h0;obtain⟨q1,q2,q3,q4⟩:=h0;have a4:(es.take n).length=n:=by rw[List.length_take];omega
    refine⟨by unfold room at *;omega,q2,fun e' he'=>q3 e' (A6 he'),?_⟩;simp only[loc',e,if_pos];rcases q4 with⟨q4,q5⟩|⟨b,c,cs,t,q4,q5,q6,q7,q8,q9,q10⟩
    ·exact .inl ⟨q4,by rw[q5];simp⟩
    ·refine .inr ⟨b,c,cs,t,q4,q5,q6,q7,by omega,fun j hj=>?_,q10⟩;rw[a4]at hj;have hj2:j<es.length*sz:=Nat.lt_of_lt_of_le hj (Nat.mul_le_mul_right sz hnl);obtain⟨v,r1,r2⟩:=q9 j hj2;refine⟨v,r1,?_⟩;have hfl:(es.take n).flatten.length=n*sz:=by rw[qm (fun e' he'=>q3 e' (A6 he')),a4]
     have hsp:es.flatten=(es.take n).flatten++(es.drop n).flatten:=by rw[←List.flatten_append,List.take_append_drop]
     have:nth .undef (es.take n).flatten j=nth .undef es.flatten j:=by rw[hsp,qI,qI,List.getElem?_append_left (by omega)]
     rw[this];exact r2
   ·split
    ·rename_i e;show loc' j=none;simp[loc',e,hne]
    ·rename_i e1 e2;exact Aj (fun _ h=>h) (fun _ _=>rfl) a3 (by simp[loc',e1,e2]) (by simp[loc',e1]) (fun _ _ _=>⟨rfl,fun h=>h⟩) (h.objs j)
  ·intro j j' b c c' g1 g2;simp only[loc']at g1 g2;split at g1<;>split at g2
   ·rw[‹j=key›,‹j'=key›]
   ·split at g2
    ·simp at g2
    ·exact absurd (h.inj _ _ _ _ _ g1 g2).symm ‹_›
   ·split at g1
    ·simp at g1
    ·exact absurd (h.inj _ _ _ _ _ g1 g2) ‹_›
   ·split at g1
    ·simp at g1
    ·split at g2
     ·simp at g2
     ·exact h.inj _ _ _ _ _ g1 g2
  ·intro j b c g1;simp only[loc']at g1;split at g1
   ·exact h.fresh _ _ _ g1
   ·split at g1
    ·simp at g1
    ·exact h.fresh _ _ _ g1
 refine⟨loc',?_⟩;have a0:Conc C B F0 w0 F loc' ⟨upd st.tmps s (.arr key),objs',d⟩ a w:=by
  refine⟨h1.prog,h1.below,h1.hB,h1.defers,?_,fun u hu=>?_,h1.objs,h1.inj,h1.fresh,h1.bound,h1.fsub,h1.fsup,h1.inv⟩
  ·--slot s:read from the old state
   have hs0:s<st.tmps.length:=by
    rcases AD s st.tmps.length with h|h
    ·exact h
    ·rw[qB _ h]at hs;simp at hs
   have a2:CV loc' objs' w F (.arr key) (nth undef a.tmps.toList s):=by have h0:=h.tmps.nth .any undef _ _ s hs0;rw[hs]at h0;intro s' es' fz' hc;rw[hn,if_pos rfl]at hc;simp only[Ak]at hc;obtain⟨rfl,rfl,rfl⟩:=hc;obtain⟨b,c,e1,e2,e3⟩:=h0 sz es false hk;refine .inl ⟨b,c,by simpa [loc']using e1,?_⟩;rw[e3];simp;omega
   have hlen:=h.tmps.length;have:upd a.tmps.toList s (nth undef a.tmps.toList s)=a.tmps.toList:=KD undef _ _ _ rfl;have h2:=All2.upd (i:=s) a2 h1.tmps;rw[this]at h2;exact h2
  ·rcases xC hu with hu|rfl
   ·exact h1.refs u hu
   ·show nth .none objs' key≠ .none;rw[hn];simp
 exact a0
theorem Conc.nilOwn {s key sz:Nat} {d:List Nat} (h:Conc C B F0 w0 F loc st a w) (hs:nth .any st.tmps s= .nilS) (hkey:nth .none st.objs key= .none) (hlt:key<st.objs.length) (hsz:0<sz):
 Conc C B F0 w0 F loc ⟨upd st.tmps s (.arr key),upd st.objs key (.arr sz [] false),d⟩ a w:=by
 have a1:loc key=none:=by have:=h.objs key;rw[hkey]at this;exact this
 have a0:Le st.objs (upd st.objs key (.arr sz [] false)) loc loc:=by
  refine⟨rfl,fun _ _=>rfl,fun j hj=>?_,fun j o' hj hc hbx=>?_,fun j s' es' fz' hj hc=>?_⟩
  ·rw[xB];split
   ·simp
   ·exact hj
  ·rw[xB]at hc;split at hc
   ·rw[←hc]at hbx;simp[xE]at hbx
   ·exact⟨by rw[hc];exact hbx,rfl⟩
  ·rw[xB]at hc;split at hc
   ·rename_i e;rw[←e.1]at hj;exact absurd hkey hj
   ·exact⟨⟨_,_,hc,rfl⟩,rfl⟩
 have h1:Conc C B F0 w0 F loc ⟨st.tmps,upd st.objs key (.arr sz [] false),d⟩ a w:=by
  refine h.relocate a0 (fun j=>?_) h.inj h.fresh;by_cases hj:key=j
  ·subst hj;rw[qb _ _ _ hlt];exact⟨by simp[room],hsz,fun e he=>by simp at he,.inl ⟨a1,rfl⟩⟩
  ·rw[qa _ _ _ hj];exact Aj (fun _ h=>h) (fun _ _=>rfl) a0 rfl rfl (fun _ _ _=>⟨rfl,fun h=>h⟩) (h.objs j)
 have h2:=h1.weakT (t:=s) (v:= .arr key) (d:=d) (fun x hx=>by
  have hx:CV loc (upd st.objs key (.arr sz [] false)) w F (nth .any st.tmps s) x:=hx;rw[hs]at hx;intro s' es' fz' hc;change nth .none (upd st.objs key (.arr sz [] false)) key=_ at hc;rw[qb _ _ _ hlt]at hc;simp only[Ak]at hc;obtain⟨_,rfl,_⟩:=hc;exact .inr ⟨a1,rfl,hx⟩) (by
   show nth .none (upd st.objs key (.arr sz [] false)) key≠ .none;rw[qb _ _ _ hlt];simp)
 exact h2
theorem Conc.moveM {k j key sz i0:Nat} {cells:List V} {es:List (List D)} {d:List Nat} (h:Conc C B F0 w0 F loc st a w) (hk:nth .none st.objs k= .box cells) (hi:nth .any cells i0= .arr j) (hj:nth .none st.objs j= .arr sz es false) (hkey:nth .none st.objs key= .none) (hlt:key<st.objs.length):
 ∃loc',Conc C B F0 w0 F loc' ⟨st.tmps,upd (upd (upd st.objs j .dead) key (.arr sz es false)) k (.box (upd cells i0 (.arr key))),d⟩ a w:=by
 have hne:j≠key:=fun e=>by subst e;rw[hj]at hkey;simp at hkey
 have a0:k≠key:=fun e=>by subst e;rw[hk]at hkey;simp at hkey
 have a2:k≠j:=fun e=>by subst e;rw[hk]at hj;simp at hj
 have a1:j<st.objs.length:=by
  rcases AD j st.objs.length with h|h
  ·exact h
  ·rw[qB _ h]at hj;simp at hj
 have a3:k<st.objs.length:=by
  rcases AD k st.objs.length with h|h
  ·exact h
  ·rw[qB _ h]at hk;simp at hk
 have hn:∀i,nth .none (upd (upd (upd st.objs j .dead) key (.arr sz es false)) k (.box (upd cells i0 (.arr key)))) i=if i=k then .box (upd cells i0 (.arr key))else if i=key then .arr sz es false else if i=j then .dead else nth .none st.objs i:=fun i=>by
  by_cases h0:i=k
  ·subst h0;rw[qb _ _ _ (by rw[qi,qi];exact a3)];simp
  ·rw[qa _ _ _ (AM h0),if_neg h0];by_cases h1:i=key
   ·subst h1;rw[qb _ _ _ (by rw[qi];exact hlt)];simp
   ·rw[qa _ _ _ (AM h1),if_neg h1];by_cases h2:i=j
    ·subst h2;rw[qb _ _ _ a1];simp
    ·rw[qa _ _ _ (AM h2),if_neg h2]
 generalize hob:upd (upd (upd st.objs j .dead) key (.arr sz es false)) k (.box (upd cells i0 (.arr key)))=objs' at *
 let loc':Where:=⟨loc.P,fun i=>if i=key then loc j else if i=j then none else loc i,fun i=>if i=key then loc.ty j else loc.ty i⟩
 have a4:Le st.objs objs' loc loc':=by
  refine⟨rfl,fun i hi=>by
   have:i≠key:=fun e=>by subst e;exact hi hkey
   simp[loc',this],fun i hi=>?_,fun i o' hi hc hbx=>?_,fun i s' es' fz' hi hc=>?_⟩
  ·rw[hn];split
   ·simp
   ·split
    ·simp
    ·split
     ·simp
     ·exact hi
  ·rw[hn]at hc;split at hc
   ·rename_i e0;subst e0;exact⟨by rw[hk];rfl,by simp[loc',a0,a2]⟩
   ·split at hc
    ·rw[←hc]at hbx;simp[xE]at hbx
    ·split at hc
     ·rw[←hc]at hbx;simp[xE]at hbx
     ·rename_i e1 e2;exact⟨by rw[hc];exact hbx,by simp[loc',e1,e2]⟩
  ·rw[hn]at hc;split at hc
   ·simp at hc
   ·split at hc
    ·rename_i e;rw[e]at hi;exact absurd hkey hi
    ·split at hc
     ·simp at hc
     ·exact⟨⟨_,_,hc,rfl⟩,by simp[loc', *]⟩
 refine⟨loc',h.relocate a4 (fun i=>?_) ?_ ?_⟩
 ·rw[hn];split
  ·rename_i e0;subst e0;have h0:=h.objs i;rw[hk]at h0;have a5:=h0;have h0:=Aj (F':=F) (w':=w) (fun _ h=>h) (fun _ _=>rfl) a4 (show loc' i=loc i by simp[loc',a0,a2]) (show loc'.ty i=loc.ty i by simp[loc',a0]) (fun _ _ _=>⟨rfl,fun h=>h⟩) h0;obtain⟨b0,c0,cs0,t0,r1,_,r3,r4,_⟩:=a5;obtain⟨b,c,cs,t,h1,h2,h3,h4,h5⟩:=h0;have hbb:b0=b∧c0=c:=by
    have:loc' i=loc i:=by simp[loc',a0,a2]
    rw[this,r1]at h1
    simpa using h1
   obtain⟨rfl,rfl⟩:=hbb;rw[r3]at h3;simp only[AN,Ao]at h3;obtain⟨rfl,rfl,_⟩:=h3;refine⟨b0,c0,cs0,t0,h1,h2,r3,?_,?_⟩
   ·refine wM .any i0 (fun x hx=>⟨?_,hx.2⟩) r4 h4;rw[hi]at hx;intro s' es' fz' hc;rw[hn,if_neg (AM a0),if_pos rfl]at hc;simp only[Ak]at hc;obtain⟨rfl,rfl,rfl⟩:=hc;have:=hx.1 _ _ _ hj
    simpa [loc']using this
   ·intro v hv;rcases xC hv with hv|rfl
    ·exact h5 v hv
    ·show nth .none objs' key≠ .none;rw[hn,if_neg (AM a0),if_pos rfl];simp
  ·rename_i e0;split
   ·rename_i e;have h0:=h.objs j;rw[hj]at h0;obtain⟨q1,q2,q3,q4⟩:=h0;refine⟨q1,q2,q3,?_⟩;simp only[loc',e,if_pos];exact q4
   ·split
    ·rename_i e;show loc' i=none;simp[loc',e,hne]
    ·rename_i e1 e2;exact Aj (fun _ h=>h) (fun _ _=>rfl) a4 (by simp[loc',e1,e2]) (by simp[loc',e1]) (fun _ _ _=>⟨rfl,fun h=>h⟩) (h.objs i)
 ·intro i i' b c c' g1 g2;simp only[loc']at g1 g2;split at g1<;>split at g2
  ·rw[‹i=key›,‹i'=key›]
  ·split at g2
   ·simp at g2
   ·exact absurd (h.inj _ _ _ _ _ g1 g2).symm ‹_›
  ·split at g1
   ·simp at g1
   ·exact absurd (h.inj _ _ _ _ _ g1 g2) ‹_›
  ·split at g1
   ·simp at g1
   ·split at g2
    ·simp at g2
    ·exact h.inj _ _ _ _ _ g1 g2
 ·intro i b c g1;simp only[loc']at g1;split at g1
  ·exact h.fresh _ _ _ g1
  ·split at g1
   ·simp at g1
   ·exact h.fresh _ _ _ g1
theorem Conc.nilM {k key sz i0:Nat} {cells:List V} {d:List Nat} (h:Conc C B F0 w0 F loc st a w) (hk:nth .none st.objs k= .box cells) (hi:nth .any cells i0= .nilS) (hkey:nth .none st.objs key= .none) (hlt:key<st.objs.length) (hsz:0<sz):
 Conc C B F0 w0 F loc ⟨st.tmps,upd (upd st.objs key (.arr sz [] false)) k (.box (upd cells i0 (.arr key))),d⟩ a w:=by
 have a3:k≠key:=fun e=>by subst e;rw[hk]at hkey;simp at hkey
 have a0:k<st.objs.length:=by
  rcases AD k st.objs.length with h|h
  ·exact h
  ·rw[qB _ h]at hk;simp at hk
 have a4:loc key=none:=by have:=h.objs key;rw[hkey]at this;exact this
 have hn:∀i,nth .none (upd (upd st.objs key (.arr sz [] false)) k (.box (upd cells i0 (.arr key)))) i=if i=k then .box (upd cells i0 (.arr key))else if i=key then .arr sz [] false else nth .none st.objs i:=fun i=>by
  by_cases h0:i=k
  ·subst h0;rw[qb _ _ _ (by rw[qi];exact a0)];simp
  ·rw[qa _ _ _ (AM h0),if_neg h0];by_cases h1:i=key
   ·subst h1;rw[qb _ _ _ hlt];simp
   ·rw[qa _ _ _ (AM h1),if_neg h1]
 generalize hob:upd (upd st.objs key (.arr sz [] false)) k (.box (upd cells i0 (.arr key)))=objs' at *;have a1:Le st.objs objs' loc loc:=by
  refine⟨rfl,fun i hi=>rfl,fun i hi=>?_,fun i o' hi hc hbx=>?_,fun i s' es' fz' hi hc=>?_⟩
  ·rw[hn];split
   ·simp
   ·split
    ·simp
    ·exact hi
  ·rw[hn]at hc;split at hc
   ·rename_i e0;subst e0;exact⟨by rw[hk];rfl,rfl⟩
   ·split at hc
    ·rw[←hc]at hbx;simp[xE]at hbx
    ·exact⟨by rw[hc];exact hbx,rfl⟩
  ·rw[hn]at hc;split at hc
   ·simp at hc
   ·split at hc
    ·rename_i e;rw[e]at hi;exact absurd hkey hi
    ·exact⟨⟨_,_,hc,rfl⟩,rfl⟩
 refine h.relocate a1 (fun i=>?_) h.inj h.fresh;rw[hn];split
 ·rename_i e0;subst e0;have h0:=h.objs i;rw[hk]at h0;have a2:=h0;have h0:=Aj (F':=F) (w':=w) (fun _ h=>h) (fun _ _=>rfl) a1 rfl rfl (fun _ _ _=>⟨rfl,fun h=>h⟩) h0;obtain⟨b0,c0,cs0,t0,r1,_,r3,r4,_⟩:=a2;obtain⟨b,c,cs,t,h1,h2,h3,h4,h5⟩:=h0;have hbb:b0=b∧c0=c:=by
   rw[r1]at h1
   simpa using h1
  obtain⟨rfl,rfl⟩:=hbb;rw[r3]at h3;simp only[AN,Ao]at h3;obtain⟨rfl,rfl,_⟩:=h3;refine⟨b0,c0,cs0,t0,h1,h2,r3,?_,?_⟩
  ·refine wM .any i0 (fun x hx=>⟨?_,hx.2⟩) r4 h4;rw[hi]at hx;intro s' es' fz' hc;rw[hn,if_neg (AM a3),if_pos rfl]at hc;simp only[Ak]at hc;obtain⟨rfl,rfl,rfl⟩:=hc;exact .inr ⟨a4,rfl,hx.1⟩
  ·intro v hv;rcases xC hv with hv|rfl
   ·exact h5 v hv
   ·show nth .none objs' key≠ .none;rw[hn,if_neg (AM a3),if_pos rfl];simp
 ·split
  ·rename_i e;subst e;exact⟨by simp[room],hsz,fun e he=>by simp at he,.inl ⟨a4,rfl⟩⟩
  ·exact Aj (fun _ h=>h) (fun _ _=>rfl) a1 rfl rfl (fun _ _ _=>⟨rfl,fun h=>h⟩) (h.objs i)
theorem Conc.dataM {k i0:Nat} {cells:List V} {d:List Nat} (h:Conc C B F0 w0 F loc st a w) (hk:nth .none st.objs k= .box cells) (hi:nth .any cells i0= .nilS):
 Conc C B F0 w0 F loc ⟨st.tmps,upd st.objs k (.box (upd cells i0 (.c (.sl [])))),d⟩ a w:=by
 have a0:k<st.objs.length:=by
  rcases AD k st.objs.length with h|h
  ·exact h
  ·rw[qB _ h]at hk;simp at hk
 have hn:∀i,nth .none (upd st.objs k (.box (upd cells i0 (.c (.sl []))))) i=if i=k then .box (upd cells i0 (.c (.sl [])))else nth .none st.objs i:=fun i=>by
  by_cases h0:i=k
  ·subst h0;rw[qb _ _ _ a0];simp
  ·rw[qa _ _ _ (AM h0),if_neg h0]
 generalize hob:upd st.objs k (.box (upd cells i0 (.c (.sl []))))=objs' at *;have a1:Le st.objs objs' loc loc:=by
  refine⟨rfl,fun i hi=>rfl,fun i hi=>?_,fun i o' hi hc hbx=>?_,fun i s' es' fz' hi hc=>?_⟩
  ·rw[hn];split
   ·simp
   ·exact hi
  ·rw[hn]at hc;split at hc
   ·rename_i e0;subst e0;exact⟨by rw[hk];rfl,rfl⟩
   ·exact⟨by rw[hc];exact hbx,rfl⟩
  ·rw[hn]at hc;split at hc
   ·simp at hc
   ·exact⟨⟨_,_,hc,rfl⟩,rfl⟩
 refine h.relocate a1 (fun i=>?_) h.inj h.fresh;rw[hn];split
 ·rename_i e0;subst e0;have h0:=h.objs i;rw[hk]at h0;have a2:=h0;have h0:=Aj (F':=F) (w':=w) (fun _ h=>h) (fun _ _=>rfl) a1 rfl rfl (fun _ _ _=>⟨rfl,fun h=>h⟩) h0;obtain⟨b0,c0,cs0,t0,r1,_,r3,r4,_⟩:=a2;obtain⟨b,c,cs,t,h1,h2,h3,h4,h5⟩:=h0;have hbb:b0=b∧c0=c:=by
   rw[r1]at h1
   simpa using h1
  obtain⟨rfl,rfl⟩:=hbb;rw[r3]at h3;simp only[AN,Ao]at h3;obtain⟨rfl,rfl,_⟩:=h3;refine⟨b0,c0,cs0,t0,h1,h2,r3,?_,?_⟩
  ·refine wM .any i0 (fun x hx=>⟨?_,hx.2⟩) r4 h4;rw[hi]at hx;have h2:x= .slice none 0 0:=hx.1;subst h2;exact CD.nil _ _
  ·intro v hv;rcases xC hv with hv|rfl
   ·exact h5 v hv
   ·trivial
 ·exact Aj (fun _ h=>h) (fun _ _=>rfl) a1 rfl rfl (fun _ _ _=>⟨rfl,fun h=>h⟩) (h.objs i)
theorem Conc.moveB {k j key T sz:Nat} {es:List (List D)} {d:List Nat} (h:Conc C B F0 w0 F loc st a w) (hk:nth .none st.objs k= .bld T (.arr j)) (hj:nth .none st.objs j= .arr sz es false) (hkey:nth .none st.objs key= .none) (hlt:key<st.objs.length):
 ∃loc',Conc C B F0 w0 F loc' ⟨st.tmps,upd (upd (upd st.objs j .dead) key (.arr sz es false)) k (.bld T (.arr key)),d⟩ a w:=by
 have hne:j≠key:=fun e=>by subst e;rw[hj]at hkey;simp at hkey
 have a0:k≠key:=fun e=>by subst e;rw[hk]at hkey;simp at hkey
 have a3:k≠j:=fun e=>by subst e;rw[hk]at hj;simp at hj
 have a1:j<st.objs.length:=by
  rcases AD j st.objs.length with h|h
  ·exact h
  ·rw[qB _ h]at hj;simp at hj
 have a2:k<st.objs.length:=by
  rcases AD k st.objs.length with h|h
  ·exact h
  ·rw[qB _ h]at hk;simp at hk
 have hn:∀i,nth .none (upd (upd (upd st.objs j .dead) key (.arr sz es false)) k (.bld T (.arr key))) i=if i=k then .bld T (.arr key)else if i=key then .arr sz es false else if i=j then .dead else nth .none st.objs i:=fun i=>by
  by_cases h0:i=k
  ·subst h0;rw[qb _ _ _ (by rw[qi,qi];exact a2)];simp
  ·rw[qa _ _ _ (AM h0),if_neg h0];by_cases h1:i=key
   ·subst h1;rw[qb _ _ _ (by rw[qi];exact hlt)];simp
   ·rw[qa _ _ _ (AM h1),if_neg h1];by_cases h2:i=j
    ·subst h2;rw[qb _ _ _ a1];simp
    ·rw[qa _ _ _ (AM h2),if_neg h2]
 generalize hob:upd (upd (upd st.objs j .dead) key (.arr sz es false)) k (.bld T (.arr key))=objs' at *
 let loc':Where:=⟨loc.P,fun i=>if i=key then loc j else if i=j then none else loc i,fun i=>if i=key then loc.ty j else loc.ty i⟩
 have a4:Le st.objs objs' loc loc':=by
  refine⟨rfl,fun i hi=>by
   have:i≠key:=fun e=>by subst e;exact hi hkey
   simp[loc',this],fun i hi=>?_,fun i o' hi hc hbx=>?_,fun i s' es' fz' hi hc=>?_⟩
  ·rw[hn];split
   ·simp
   ·split
    ·simp
    ·split
     ·simp
     ·exact hi
  ·rw[hn]at hc;split at hc
   ·rename_i e0;subst e0;exact⟨by rw[hk];rfl,by simp[loc',a0,a3]⟩
   ·split at hc
    ·rw[←hc]at hbx;simp[xE]at hbx
    ·split at hc
     ·rw[←hc]at hbx;simp[xE]at hbx
     ·rename_i e1 e2;exact⟨by rw[hc];exact hbx,by simp[loc',e1,e2]⟩
  ·rw[hn]at hc;split at hc
   ·simp at hc
   ·split at hc
    ·rename_i e;rw[e]at hi;exact absurd hkey hi
    ·split at hc
     ·simp at hc
     ·exact⟨⟨_,_,hc,rfl⟩,by simp[loc', *]⟩
 refine⟨loc',h.relocate a4 (fun i=>?_) ?_ ?_⟩
 ·rw[hn];split
  ·rename_i e0;subst e0;have h0:=h.objs i;rw[hk]at h0;obtain⟨b,c,p,v,h1,h2,h3,h4,h5,h6,h7⟩:=h0;refine⟨b,c,p,v,by simp[loc',a0,a3,h1],h2,h3,h4,?_,?_,?_⟩
   ·intro s' es' fz' hc;rw[hn,if_neg (AM a0),if_pos rfl]at hc;simp only[Ak]at hc;obtain⟨rfl,rfl,rfl⟩:=hc;have:=h5 _ _ _ hj
    simpa [loc']using this
   ·show nth .none objs' key≠ .none;rw[hn,if_neg (AM a0),if_pos rfl];simp
   ·intro j' e;simp only[V.arr.injEq]at e;subst e;simp only[loc',if_pos];exact h7 j rfl
  ·rename_i e0;split
   ·rename_i e;have h0:=h.objs j;rw[hj]at h0;obtain⟨q1,q2,q3,q4⟩:=h0;refine⟨q1,q2,q3,?_⟩;simp only[loc',e,if_pos];exact q4
   ·split
    ·rename_i e;show loc' i=none;simp[loc',e,hne]
    ·rename_i e1 e2;exact Aj (fun _ h=>h) (fun _ _=>rfl) a4 (by simp[loc',e1,e2]) (by simp[loc',e1]) (fun _ _ _=>⟨rfl,fun h=>h⟩) (h.objs i)
 ·intro i i' b c c' g1 g2;simp only[loc']at g1 g2;split at g1<;>split at g2
  ·rw[‹i=key›,‹i'=key›]
  ·split at g2
   ·simp at g2
   ·exact absurd (h.inj _ _ _ _ _ g1 g2).symm ‹_›
  ·split at g1
   ·simp at g1
   ·exact absurd (h.inj _ _ _ _ _ g1 g2) ‹_›
  ·split at g1
   ·simp at g1
   ·split at g2
    ·simp at g2
    ·exact h.inj _ _ _ _ _ g1 g2
 ·intro i b c g1;simp only[loc']at g1;split at g1
  ·exact h.fresh _ _ _ g1
  ·split at g1
   ·simp at g1
   ·exact h.fresh _ _ _ g1
theorem Conc.nilB {k key T:Nat} {d:List Nat} (h:Conc C B F0 w0 F loc st a w) (hk:nth .none st.objs k= .bld T .nilS) (hkey:nth .none st.objs key= .none) (hlt:key<st.objs.length):
 ∃loc',Conc C B F0 w0 F loc' ⟨st.tmps,upd (upd st.objs key (.arr 1 [] false)) k (.bld T (.arr key)),d⟩ a w:=by
 have a1:k≠key:=fun e=>by subst e;rw[hk]at hkey;simp at hkey
 have a0:k<st.objs.length:=by
  rcases AD k st.objs.length with h|h
  ·exact h
  ·rw[qB _ h]at hk;simp at hk
 have a3:loc key=none:=by have:=h.objs key;rw[hkey]at this;exact this
 have hn:∀i,nth .none (upd (upd st.objs key (.arr 1 [] false)) k (.bld T (.arr key))) i=if i=k then .bld T (.arr key)else if i=key then .arr 1 [] false else nth .none st.objs i:=fun i=>by
  by_cases h0:i=k
  ·subst h0;rw[qb _ _ _ (by rw[qi];exact a0)];simp
  ·rw[qa _ _ _ (AM h0),if_neg h0];by_cases h1:i=key
   ·subst h1;rw[qb _ _ _ hlt];simp
   ·rw[qa _ _ _ (AM h1),if_neg h1]
 generalize hob:upd (upd st.objs key (.arr 1 [] false)) k (.bld T (.arr key))=objs' at *
 let loc':Where:=⟨loc.P,loc.at',fun i=>if i=key then kZ loc.P T else loc.ty i⟩
 have a2:Le st.objs objs' loc loc':=by
  refine⟨rfl,fun i hi=>by
   have:i≠key:=fun e=>by subst e;exact hi hkey
   simp[loc',this],fun i hi=>?_,fun i o' hi hc hbx=>?_,fun i s' es' fz' hi hc=>?_⟩
  ·rw[hn];split
   ·simp
   ·split
    ·simp
    ·exact hi
  ·rw[hn]at hc;split at hc
   ·rename_i e0;subst e0;exact⟨by rw[hk];rfl,rfl⟩
   ·split at hc
    ·rw[←hc]at hbx;simp[xE]at hbx
    ·exact⟨by rw[hc];exact hbx,rfl⟩
  ·rw[hn]at hc;split at hc
   ·simp at hc
   ·split at hc
    ·rename_i e;rw[e]at hi;exact absurd hkey hi
    ·exact⟨⟨_,_,hc,rfl⟩,rfl⟩
 refine⟨loc',h.relocate a2 (fun i=>?_) h.inj h.fresh⟩;rw[hn];split
 ·rename_i e0;subst e0;have h0:=h.objs i;rw[hk]at h0;obtain⟨b,c,p,v,h1,h2,h3,h4,h5,h6,h7⟩:=h0;have h5:v= .slice none 0 0:=h5;refine⟨b,c,p,v,h1,h2,h3,h4,?_,?_,?_⟩
  ·intro s' es' fz' hc;rw[hn,if_neg (AM a1),if_pos rfl]at hc;simp only[Ak]at hc;obtain⟨rfl,rfl,rfl⟩:=hc;exact .inr ⟨a3,rfl,h5⟩
  ·show nth .none objs' key≠ .none;rw[hn,if_neg (AM a1),if_pos rfl];simp
  ·intro j' e;simp only[V.arr.injEq]at e;subst e;simp only[loc',if_pos]
 ·rename_i e0;split
  ·rename_i e;subst e;exact⟨by simp[room],by omega,fun e he=>by simp at he,.inl ⟨a3,rfl⟩⟩
  ·rename_i e1;exact Aj (fun _ h=>h) (fun _ _=>rfl) a2 rfl (by simp[loc',e1]) (fun _ _ _=>⟨rfl,fun h=>h⟩) (h.objs i)
theorem jN {loc:Where} {objs:List Obj}:∀{cells:List V} {ds:List D},qA cells=some ds→∀{cs:List Value},All2 (fun v x=>CV loc objs w F v x∧x.oneCell'=true) cells cs→All2 (fun v x=>CV loc objs w F v x∧x.oneCell'=true) (ds.map V.c) cs
 |[],ds,h,cs,hc=>by simp only[qA,AN]at h;subst h;exact hc
 |v::r,ds,h,[],hc=>hc.elim
 |v::r,ds,h,x::cs,hc=>by
  unfold qA at h;split at h
  ·simp_all
  ·rename_i d r' heq;simp only[List.cons.injEq]at heq;obtain⟨rfl,rfl⟩:=heq;rw[Option.map_eq_some_iff]at h;obtain⟨ds',h1,rfl⟩:=h;exact⟨hc.1,jN h1 hc.2⟩
  ·rename_i r' heq;simp only[List.cons.injEq]at heq;obtain⟨rfl,rfl⟩:=heq;rw[Option.map_eq_some_iff]at h;obtain⟨ds',h1,rfl⟩:=h;refine⟨⟨?_,hc.1.2⟩,jN h1 hc.2⟩;have h2:x= .slice none 0 0:=hc.1.1;subst h2;exact CD.nil _ _
  ·simp at h
theorem Conc.boxData {k:Nat} {cells:List V} {ds:List D} {d:List Nat} (h:Conc C B F0 w0 F loc st a w) (hk:nth .none st.objs k= .box cells) (hd:qA cells=some ds):
 Conc C B F0 w0 F loc ⟨st.tmps,upd st.objs k (.box (ds.map V.c)),d⟩ a w:=by
 have hlt:k<st.objs.length:=by
  rcases AD k st.objs.length with h|h
  ·exact h
  ·rw[qB _ h]at hk;simp at hk
 have a0:Le st.objs (upd st.objs k (.box (ds.map V.c))) loc loc:=by
  refine⟨rfl,fun _ _=>rfl,fun j hj=>?_,fun j o' hj hc hbx=>?_,fun j s' es' fz' hj hc=>?_⟩
  ·rw[xB];split
   ·simp
   ·exact hj
  ·rw[xB]at hc;split at hc
   ·rename_i e;rw[←e.1];exact⟨by rw[hk];rfl,rfl⟩
   ·exact⟨by rw[hc];exact hbx,rfl⟩
  ·rw[xB]at hc;split at hc
   ·simp at hc
   ·exact⟨⟨_,_,hc,rfl⟩,rfl⟩
 refine h.relocate a0 (fun j=>?_) h.inj h.fresh;by_cases hj:k=j
 ·subst hj;rw[qb _ _ _ hlt];have h0:=h.objs k;rw[hk]at h0;obtain⟨b,c,cs,t,h1,h2,h3,h4,h5⟩:=h0;refine⟨b,c,cs,t,h1,h2,h3,?_,fun v hv=>?_⟩
  ·exact(jN hd h4).mono_mem fun v hv x hx=>⟨CV.le (fun _ h=>h) (fun _ _=>rfl) a0 (by
    obtain⟨y,_,rfl⟩:=Au.1 hv;trivial) hx.1,hx.2⟩
  ·obtain⟨y,_,rfl⟩:=Au.1 hv;trivial
 ·rw[qa _ _ _ hj];exact Aj (fun _ h=>h) (fun _ _=>rfl) a0 rfl rfl (fun _ _ _=>⟨rfl,fun h=>h⟩) (h.objs j)
end
section
variable {C:Cx} {B:Bd} {F0:Nat→Prop} {w0:World} {a:Act} {w:World}
theorem Xj:∀(l:List Nat) {st:St},Al C B F0 w0 st a w→Al C B F0 w0 ⟨km st.tmps l,st.objs,st.dirty⟩ a w
 |[],st,h=>h
 |s::r,st,h=>by obtain⟨F,loc,h⟩:=h;exact Xj r (st:=⟨upd st.tmps s .any,st.objs,st.dirty⟩) ⟨F,loc,h.weakT (fun _ _=>trivial) trivial⟩
theorem wk {key:Nat} {st:St} (hg:TQ key st=true) (h:Al C B F0 w0 st a w):key<st.objs.length∧Al C B F0 w0 ⟨st.tmps,upd st.objs key .none,st.dirty⟩ a w∧(∀k,nth .none st.objs k≠ .none→nth .none st.objs k≠ .dead→k≠key):=by
 simp only[TQ,Ae,Ai,AJ]at hg;obtain⟨⟨⟨h1,h2⟩,h3⟩,h4⟩:=hg;refine⟨h1,?_,fun k hk hk' e=>?_⟩
 ·obtain⟨F,loc,h⟩:=h;obtain⟨a0,h'⟩:=h.forgets (ks:=[key]) (objs':=upd st.objs key .none) (d:=st.dirty) (fun k hk=>by
   simp only[At]at hk;subst hk;exact qb _ _ _ h1) (fun k hk=>by
   simp only[At]at hk;exact qa _ _ _ (AM hk)) h3 (by
   have:∀(l:List Obj) (i:Nat),zd [key] l=false→zd [key] (upd l i .none)=false:=by
    intro l
    induction l with
    |nil=>intro i h;exact h
    |cons o l ih=>
     intro i h;cases i with
     |zero=>cases o<;>simp_all[zd,upd]
     |succ i=>cases o<;>simp_all[zd,upd]
   exact this _ _ h4)
  exact⟨F,a0,h'⟩
 ·subst e;revert h2;cases hn:nth .none st.objs k<;>simp_all[Nu]
structure Frame (mt:List Nat) (s s':St):Prop where
 lt:s'.tmps.length=s.tmps.length
 lo:s'.objs.length=s.objs.length
 tmps:∀t,t∉mt→nth .any s'.tmps t=nth .any s.tmps t
 objs:∀k,k∉s'.dirty→nth .none s'.objs k=nth .none s.objs k
 dirty:∀k,k∈s.dirty→k∈s'.dirty
theorem Frame.refl (mt:List Nat) (s:St):Frame mt s s:=⟨rfl,rfl,fun _ _=>rfl,fun _ _=>rfl,fun _ h=>h⟩
theorem Frame.trans {m m':List Nat} {s s' s'':St} (h:Frame m s s') (h':Frame m' s' s''):Frame (m++m') s s'':=
 ⟨h'.lt.trans h.lt,h'.lo.trans h.lo,fun t ht=>by
  simp only[Aw,not_or]at ht;rw[h'.tmps t ht.2,h.tmps t ht.1],fun k hk=>by rw[h'.objs k hk,h.objs k fun hk'=>hk (h'.dirty k hk')],fun k hk=>h'.dirty k (h.dirty k hk)⟩
theorem Frame.mono {m m':List Nat} {s s':St} (h:Frame m s s') (hm:∀t∈m,t∈m'):Frame m' s s':=
 ⟨h.lt,h.lo,fun t ht=>h.tmps t fun h'=>ht (hm t h'),h.objs,h.dirty⟩
theorem Frame.trans' {m:List Nat} {s s' s'':St} (h:Frame m s s') (h':Frame m s' s''):Frame m s s'':=(h.trans h').mono fun t ht=>by simpa using ht
theorem j2:∀(l:List Nat) (tmps:List V),(km tmps l).length=tmps.length
 |[],_=>rfl
 |s::r,tmps=>by simp only[km];rw[j2 r,qi]
theorem j3 {t:Nat}:∀(l:List Nat) (tmps:List V),t∉l→nth .any (km tmps l) t=nth .any tmps t
 |[],_,_=>rfl
 |s::r,tmps,h=>by simp only[km];rw[j3 r _ fun h'=>h (by simp[h']),qa _ _ _ fun e=>h (by simp[e])]
theorem wN {t:Nat}:∀(l:List Nat) (tmps:List V),t∈l∨nth .any tmps t= .any→nth .any (km tmps l) t= .any
 |[],_,h=>by rcases h with h|h;exact absurd h (by simp);exact h
 |s::r,tmps,h=>by
  simp only[km];refine wN r _ ?_;by_cases hs:s=t
  ·subst hs;refine .inr ?_;rw[xB];split
   ·rfl
   ·rename_i hlt;rw[qB _ (by simpa using hlt)]
  ·rcases h with h|h
   ·rcases As.1 h with h|h
    ·exact absurd h.symm hs
    ·exact .inl h
   ·exact .inr (by rw[qa _ _ _ hs];exact h)
theorem jc:∀(l:List Nat) (objs:List Obj),(zH objs l).length=objs.length
 |[],_=>rfl
 |s::r,objs=>by simp only[zH];rw[jc r,qi]
theorem zu {t:Nat}:∀(l:List Nat) (objs:List Obj),t∉l→nth .none (zH objs l) t=nth .none objs t
 |[],_,_=>rfl
 |s::r,objs,h=>by simp only[zH];rw[zu r _ fun h'=>h (by simp[h']),qa _ _ _ fun e=>h (by simp[e])]
theorem j5 {t:Nat}:∀(l:List Nat) (objs:List Obj),t∈l∨nth .none objs t= .none→nth .none (zH objs l) t= .none
 |[],_,h=>by rcases h with h|h;exact absurd h (by simp);exact h
 |s::r,objs,h=>by
  simp only[zH];refine j5 r _ ?_;by_cases hs:s=t
  ·subst hs;refine .inr ?_;rw[xB];split
   ·rfl
   ·rename_i hlt;rw[qB _ (by simpa using hlt)]
  ·rcases h with h|h
   ·rcases As.1 h with h|h
    ·exact absurd h.symm hs
    ·exact .inl h
   ·exact .inr (by rw[qa _ _ _ hs];exact h)
theorem H8 {α:Type} (d:α) {l l':List α} (hl:l.length=l'.length) (h:∀i,nth d l i=nth d l' i):l=l':=by
 apply List.ext_getElem hl;intro i h1 h2;have:=h i
 rwa [qn _ h1,qn _ h2]at this
theorem Qk (l:List Nat):∀(i:Nat) (tmps:List V),(kn l i tmps).length=tmps.length
 |_,[]=>rfl
 |i,v::r=>by simp[kn,Qk l (i+1) r]
theorem Ql (l:List Nat):∀(i:Nat) (tmps:List V) (t:Nat),nth .any (kn l i tmps) t=if i+t∈l then .any else nth .any tmps t
 |_,[],_=>by simp[kn,nth]
 |i,v::r,0=>by
  simp only[kn,nth,AL];split
  ·rename_i h;rw[if_pos (zg.1 h)]
  ·rename_i h;rw[if_neg fun hm=>by rw[zg.2 hm]at h;simp at h]
 |i,v::r,t+1=>by simp only[kn,nth];rw[Ql l (i+1) r t,show i+1+t=i+(t+1)by omega]
theorem Xk (tmps:List V) (l:List Nat):yH tmps l=km tmps l:=by
 refine H8 .any ?_ fun t=>?_
 ·unfold yH;rw[Qk,j2]
 ·unfold yH;rw[Ql,AF];by_cases h:t∈l
  ·rw[if_pos h,wN _ _ (.inl h)]
  ·rw[if_neg h,j3 _ _ h]
theorem vU (l:List Nat):∀(i:Nat) (objs:List Obj),(jn l i objs).length=objs.length
 |_,[]=>rfl
 |i,v::r=>by simp[jn,vU l (i+1) r]
theorem vW (l:List Nat):∀(i:Nat) (objs:List Obj) (t:Nat),nth .none (jn l i objs) t=if i+t∈l then .none else nth .none objs t
 |_,[],_=>by simp[jn,nth]
 |i,v::r,0=>by
  simp only[jn,nth,AL];split
  ·rename_i h;rw[if_pos (zg.1 h)]
  ·rename_i h;rw[if_neg fun hm=>by rw[zg.2 hm]at h;simp at h]
 |i,v::r,t+1=>by simp only[jn,nth];rw[vW l (i+1) r t,show i+1+t=i+(t+1)by omega]
theorem Qm (objs:List Obj) (l:List Nat):jH objs l=zH objs l:=by
 refine H8 .none ?_ fun t=>?_
 ·unfold jH;rw[vU,jc]
 ·unfold jH;rw[vW,AF];by_cases h:t∈l
  ·rw[if_pos h,j5 _ _ (.inl h)]
  ·rw[if_neg h,zu _ _ h]
theorem wO {t:Nat} {l:List Nat}:∀{m:List Nat},t∈Yw m l↔t∈m∧t∉l
 |[]=>by simp[Yw]
 |x::r=>by
  unfold Yw;split
  ·rename_i h;have:=zg.1 h;rw[wO];constructor
   ·intro h;exact⟨by simp[h.1],h.2⟩
   ·rintro⟨h1,h2⟩;rcases As.1 h1 with rfl|h1
    ·exact absurd this h2
    ·exact⟨h1,h2⟩
  ·rename_i h;have hx:x∉l:=fun hm=>by rw[zg.2 hm]at h;simp at h
   simp only[As];rw[wO];constructor
   ·rintro(rfl|h)
    ·exact⟨.inl rfl,hx⟩
    ·exact⟨.inr h.1,h.2⟩
   ·rintro⟨rfl|h,h'⟩
    ·exact .inl rfl
    ·exact .inr ⟨h,h'⟩
theorem v6 {k:Nat}:∀{ms:List MC} {i:Nat} {st m:St},Ty k ms i st=some m→k∈st.dirty→Frame [] st m∧(∀j∈xH ms,j∈m.dirty)∧(Al C B F0 w0 st a w→Al C B F0 w0 m a w)
 |[],i,st,m,h,hd=>by simp only[Ty,AN]at h;subst h;exact⟨Frame.refl _ _,fun k hk=>by simp[xH]at hk,fun h=>h⟩
 | .dat z::r,i,st,m,h,hd=>by
  simp only[Ty]at h;split at h
  ·rename_i cells hk;split at h
   ·rename_i hi;obtain⟨h1,h2,h3⟩:=v6 h (by simp);refine⟨Frame.trans' (s':=⟨st.tmps,upd st.objs k (.box (upd cells i (.c (.sl [])))),k::st.dirty⟩) ⟨rfl,by simp only[qi],fun _ _=>rfl,fun j hj=>by
     simp only[As,not_or]at hj;exact qa _ _ _ (AM hj.1),fun j hj=>by simp[hj]⟩ h1,h2,fun hh=>h3 ?_⟩
    obtain⟨F,loc,hh⟩:=hh;exact⟨F,loc,hh.dataM hk hi⟩
   ·obtain⟨h1,h2,h3⟩:=v6 h hd;exact⟨h1,h2,h3⟩
  ·simp at h
 | .own key size::r,i,st,m,h,hd=>by
  have hkeys:∀{m:St},key∈m.dirty→(∀k∈xH r,k∈m.dirty)→∀j∈xH (.own key size::r),j∈m.dirty:=fun h1 h3 j hj=>by
   simp only[xH,As]at hj;rcases hj with rfl|hj
   ·exact h1
   ·exact h3 j hj
  simp only[Ty]at h;split at h
  ·rename_i cells hk;split at h
   ·rename_i hi;split at h
    ·rename_i hg;simp only[Ae,AJ]at hg;obtain⟨h1,h2,h3⟩:=v6 h (by simp);refine⟨Frame.trans' (s':=⟨st.tmps,upd (upd st.objs key (.arr size [] false)) k (.box (upd cells i (.arr key))),key::k::st.dirty⟩) ⟨rfl,by simp only[qi],fun _ _=>rfl,fun j hj=>by
      simp only[As,not_or]at hj;rw[qa _ _ _ (AM hj.2.1),qa _ _ _ (AM hj.1)],fun j hj=>by simp[hj]⟩ h1,hkeys (h1.dirty _ (by simp)) h2,fun hh=>h3 ?_⟩
     obtain⟨hlt,hh',hne⟩:=wk hg.1 hh;obtain⟨F,loc,hh'⟩:=hh';have hkk:k≠key:=hne k (by rw[hk];simp) (by rw[hk];simp);have this:=hh'.nilM (k:=k) (key:=key) (sz:=size) (i0:=i) (cells:=cells) (d:=key::k::st.dirty) (by
      show nth .none (upd st.objs key .none) k=_;rw[qa _ _ _ (AM hkk)];exact hk) hi (qb _ _ _ hlt) (by rw[qi];exact hlt) hg.2
     have he:upd (upd st.objs key .none) key (.arr size [] false)=upd st.objs key (.arr size [] false):=by simp[xv]
     simp only[he]at this;exact⟨F,loc,this⟩
    ·simp at h
   ·rename_i j hi;split at h
    ·obtain⟨h1,h2,h3⟩:=v6 h (by simp);exact⟨Frame.trans' (s':=⟨st.tmps,st.objs,key::k::st.dirty⟩) ⟨rfl,rfl,fun _ _=>rfl,fun _ _=>rfl,fun i hi=>by simp[hi]⟩ h1,hkeys (h1.dirty _ (by simp)) h2,fun hh=>h3 (xw hh rfl rfl)⟩
    ·split at h
     ·rename_i sz es hj;split at h
      ·rename_i hg;obtain⟨h1,h2,h3⟩:=v6 h (by simp);refine⟨Frame.trans' (s':=⟨st.tmps,upd (upd (upd st.objs j .dead) key (.arr sz es false)) k (.box (upd cells i (.arr key))),key::j::k::st.dirty⟩) ⟨rfl,by simp only[qi],fun _ _=>rfl,fun i hi=>by
        simp only[As,not_or]at hi;rw[qa _ _ _ (AM hi.2.2.1),qa _ _ _ (AM hi.1),qa _ _ _ (AM hi.2.1)],fun i hi=>by simp[hi]⟩ h1,
        hkeys (h1.dirty _ (by simp)) h2,fun hh=>h3 ?_⟩
       obtain⟨hlt,hh',hne⟩:=wk hg hh;obtain⟨F,loc,hh'⟩:=hh';have hkk:k≠key:=hne k (by rw[hk];simp) (by rw[hk];simp);have a1:j≠key:=hne j (by rw[hj];simp) (by rw[hj];simp);obtain⟨a0,this⟩:=hh'.moveM (k:=k) (j:=j) (key:=key) (sz:=sz) (es:=es) (i0:=i) (cells:=cells) (d:=key::j::k::st.dirty) (by
        show nth .none (upd st.objs key .none) k=_;rw[qa _ _ _ (AM hkk)];exact hk) hi (by
        show nth .none (upd st.objs key .none) j=_;rw[qa _ _ _ (AM a1)];exact hj) (qb _ _ _ hlt) (by rw[qi];exact hlt)
       have he:upd (upd (upd st.objs key .none) j .dead) key (.arr sz es false)=upd (upd st.objs j .dead) key (.arr sz es false):=by rw[kF st.objs key j _ _ (.inl (AM a1))];simp[xv]
       simp only[he]at this;exact⟨F,a0,this⟩
      ·simp at h
     ·simp at h
   ·simp at h
  ·simp at h
theorem xK:∀{locs:List Loc} {st m:St},jy locs st=some m→Frame (qJ locs) st m∧(∀k∈qV locs,k∈m.dirty)∧(Al C B F0 w0 st a w→Al C B F0 w0 m a w)
 |[],st,m,h=>by simp only[jy,AN]at h;subst h;exact⟨Frame.refl _ _,fun k hk=>by simp[qV]at hk,fun h=>h⟩
 | .slot s z::r,st,m,h=>by
  simp only[jy]at h;split at h
  ·rename_i hv;obtain⟨h1,h2,h3⟩:=xK h;refine⟨Frame.trans' (s':=⟨upd st.tmps s (.c (.sl [])),st.objs,st.dirty⟩) ⟨qi _ _ _,rfl,fun t ht=>qa _ _ _ fun e=>ht (by simp[qJ,e]),fun _ _=>rfl,fun _ h=>h⟩ (h1.mono fun t ht=>by simp[qJ,ht]),h2,fun hh=>h3 ?_⟩;obtain⟨F,loc,hh⟩:=hh;exact⟨F,loc,hh.weakT (fun x hx=>by
    rw[hv]at hx;have hx:x= .slice none 0 0:=hx;subst hx;exact CD.nil _ _) trivial⟩
  ·rename_i k hv;split at h
   ·rename_i sz es fz hk;have hlt:k<st.objs.length:=by
     rcases AD k st.objs.length with h1|h1
     ·exact h1
     ·rw[qB _ h1]at hk;simp at hk
    obtain⟨h1,h2,h3⟩:=xK h;refine⟨Frame.trans' (s':=⟨upd st.tmps s (.c (.sl es)),upd st.objs k (.arr sz es true),k::st.dirty⟩) ⟨qi _ _ _,qi _ _ _,fun t ht=>qa _ _ _ fun e=>ht (by simp[qJ,e]),fun j hj=>qa _ _ _ fun e=>hj (by simp[e]),fun j hj=>by simp[hj]⟩ (h1.mono fun t ht=>by simp[qJ,ht]),h2,fun hh=>h3 ?_⟩;obtain⟨F,loc,hh⟩:=hh;have h4:=hh.freeze1 hk;refine⟨_,loc,h4.weakT (t:=s) (v:= .c (.sl es)) (fun x hx=>?_) trivial⟩;have a9:nth .none (upd st.objs k (.arr sz es true)) k= .arr sz es true:=qb _ _ _ hlt;have h0:=h4.objs k;simp only at h0 hx;rw[a9]at h0;rw[hv]at hx;exact QY a9 h0 hx (fun _ h=>h) (fun b c hl=> .inr ⟨c,hl⟩)
   ·simp at h
  ·obtain⟨h1,h2,h3⟩:=xK h;exact⟨h1.mono fun t ht=>by simp[qJ,ht],h2,h3⟩
 | .box k z::r,st,m,h=>by
  simp only[jy]at h;split at h
  ·rename_i a7 hk;split at h
   ·rename_i ds hd;obtain⟨h1,h2,h3⟩:=xK h;refine⟨Frame.trans' (s':=⟨st.tmps,upd st.objs k (.box (ds.map V.c)),k::st.dirty⟩) ⟨rfl,qi _ _ _,fun _ _=>rfl,fun j hj=>qa _ _ _ fun e=>hj (by simp[e]),fun j hj=>by simp[hj]⟩ h1,fun j hj=>?_,fun hh=>h3 ?_⟩
    ·simp only[qV,As]at hj;rcases hj with rfl|hj
     ·exact h1.dirty _ (by simp)
     ·exact h2 j hj
    ·obtain⟨F,loc,hh⟩:=hh;exact⟨F,loc,hh.boxData hk hd⟩
   ·simp at h
  ·simp at h
 | .own s key size::r,st,m,h=>by
  simp only[jy]at h;have a3:∀t,t∈qJ r→t∈qJ (.own s key size::r):=fun t ht=>by simp[qJ,ht]
  have a0:∀{m:St},key∈m.dirty→(∀k∈qV r,k∈m.dirty)→∀k∈qV (.own s key size::r),k∈m.dirty:=fun h1 h2 k hk=>by
   simp only[qV,As]at hk;rcases hk with rfl|hk
   ·exact h1
   ·exact h2 k hk
  split at h
  ·rename_i hv;split at h
   ·rename_i hg;simp only[Ae,AJ]at hg;obtain⟨h1,h2,h3⟩:=xK h;refine⟨Frame.trans' (s':=⟨upd st.tmps s (.arr key),upd st.objs key (.arr size [] false),key::st.dirty⟩) ⟨qi _ _ _,qi _ _ _,fun t ht=>qa _ _ _ fun e=>ht (by simp[qJ,e]),fun j hj=>qa _ _ _ fun e=>hj (by simp[e]),fun j hj=>by simp[hj]⟩ (h1.mono a3),
     a0 (h1.dirty _ (by simp)) h2,fun hh=>h3 ?_⟩
    obtain⟨hlt,a1,_⟩:=wk hg.1 hh;obtain⟨F,loc,a1⟩:=a1;have:=a1.nilOwn (s:=s) (key:=key) (sz:=size) (d:=key::st.dirty) hv (qb _ _ _ hlt) (by rw[qi];exact hlt) hg.2;have he:upd (upd st.objs key .none) key (.arr size [] false)=upd st.objs key (.arr size [] false):=by simp[xv]
    simp only[he]at this;exact⟨F,loc,this⟩
   ·simp at h
  ·rename_i k hv;split at h
   ·obtain⟨h1,h2,h3⟩:=xK h;refine⟨Frame.trans' (s':=⟨st.tmps,st.objs,key::st.dirty⟩) ⟨rfl,rfl,fun _ _=>rfl,fun _ _=>rfl,fun j hj=>by simp[hj]⟩ (h1.mono a3),a0 (h1.dirty _ (by simp)) h2,fun hh=>h3 (xw hh rfl rfl)⟩
   ·split at h
    ·rename_i sz es hk;split at h
     ·rename_i hg;obtain⟨h1,h2,h3⟩:=xK h;refine⟨Frame.trans' (s':=⟨upd st.tmps s (.arr key),upd (upd st.objs k .dead) key (.arr sz es false),key::k::st.dirty⟩) ⟨qi _ _ _,by simp only[qi],fun t ht=>qa _ _ _ fun e=>ht (by simp[qJ,e]),
       fun j hj=>by
        simp only[As,not_or]at hj;rw[qa _ _ _ (AM hj.1),qa _ _ _ (AM hj.2.1)],fun j hj=>by simp[hj]⟩ (h1.mono a3),a0 (h1.dirty _ (by simp)) h2,fun hh=>h3 ?_⟩
      obtain⟨hlt,a1,a5⟩:=wk hg hh;obtain⟨F,loc,a1⟩:=a1;have a4:k≠key:=a5 k (by rw[hk];simp) (by rw[hk];simp);obtain⟨a2,this⟩:=a1.move (s:=s) (k:=k) (key:=key) (sz:=sz) (es:=es) (d:=key::k::st.dirty) hv (by
       show nth .none (upd st.objs key .none) k=_;rw[qa _ _ _ (AM a4)];exact hk) (qb _ _ _ hlt) (by rw[qi];exact hlt)
      have he:upd (upd (upd st.objs key .none) k .dead) key (.arr sz es false)=upd (upd st.objs k .dead) key (.arr sz es false):=by rw[kF st.objs key k _ _ (.inl (AM a4))];simp[xv]
      simp only[he]at this;exact⟨F,a2,this⟩
     ·simp at h
    ·simp at h
  ·rename_i k off a6 hv;split at h
   ·rename_i sz es hk;split at h
    ·rename_i hg;obtain⟨h1,h2,h3⟩:=xK h;refine⟨Frame.trans' (s':=⟨upd st.tmps s (.arr key),upd (upd st.objs k .dead) key (.arr sz (es.take a6) false),key::k::st.dirty⟩) ⟨qi _ _ _,by simp only[qi],fun t ht=>qa _ _ _ fun e=>ht (by simp[qJ,e]),
      fun j hj=>by
       simp only[As,not_or]at hj;rw[qa _ _ _ (AM hj.1),qa _ _ _ (AM hj.2.1)],fun j hj=>by simp[hj]⟩ (h1.mono a3),a0 (h1.dirty _ (by simp)) h2,fun hh=>h3 ?_⟩
     obtain⟨hlt,a1,a5⟩:=wk hg hh;obtain⟨F,loc,a1⟩:=a1;have a4:k≠key:=a5 k (by rw[hk];simp) (by rw[hk];simp);obtain⟨a2,this⟩:=a1.moveN (s:=s) (k:=k) (key:=key) (sz:=sz) (es:=es) (n:=a6) (d:=key::k::st.dirty) hv (by
      show nth .none (upd st.objs key .none) k=_;rw[qa _ _ _ (AM a4)];exact hk) (qb _ _ _ hlt) (by rw[qi];exact hlt)
     have he:upd (upd (upd st.objs key .none) k .dead) key (.arr sz (es.take a6) false)=upd (upd st.objs k .dead) key (.arr sz (es.take a6) false):=by rw[kF st.objs key k _ _ (.inl (AM a4))];simp[xv]
     simp only[he]at this;exact⟨F,a2,this⟩
    ·simp at h
   ·simp at h
  ·simp at h
 | .bld k T key::r,st,m,h=>by
  simp only[jy]at h;have a0:∀{m:St},key∈m.dirty→k∈m.dirty→(∀k∈qV r,k∈m.dirty)→∀j∈qV (.bld k T key::r),j∈m.dirty:=fun h1 h2 h3 j hj=>by
   simp only[qV,As]at hj;rcases hj with rfl|rfl|hj
   ·exact h2
   ·exact h1
   ·exact h3 j hj
  split at h
  ·rename_i T' q hk;split at h
   ·split at h
    ·split at h
     ·rename_i hg;obtain⟨h1,h2,h3⟩:=xK h;refine⟨Frame.trans' (s':=⟨st.tmps,upd (upd st.objs key (.arr 1 [] false)) k (.bld T' (.arr key)),key::k::st.dirty⟩) ⟨rfl,by simp only[qi],fun _ _=>rfl,fun i hi=>by
       simp only[As,not_or]at hi;rw[qa _ _ _ (AM hi.2.1),qa _ _ _ (AM hi.1)],fun i hi=>by simp[hi]⟩ h1,
       a0 (h1.dirty _ (by simp)) (h1.dirty _ (by simp)) h2,fun hh=>h3 ?_⟩
      obtain⟨hlt,a1,a5⟩:=wk hg hh;obtain⟨F,loc,a1⟩:=a1;have a4:k≠key:=a5 k (by rw[hk];simp) (by rw[hk];simp);obtain⟨a2,this⟩:=a1.nilB (k:=k) (key:=key) (T:=T') (d:=key::k::st.dirty) (by
       show nth .none (upd st.objs key .none) k=_;rw[qa _ _ _ (AM a4)];exact hk) (qb _ _ _ hlt) (by rw[qi];exact hlt)
      have he:upd (upd st.objs key .none) key (.arr 1 [] false)=upd st.objs key (.arr 1 [] false):=by simp[xv]
      simp only[he]at this;exact⟨F,a2,this⟩
     ·simp at h
    ·rename_i j;split at h
     ·obtain⟨h1,h2,h3⟩:=xK h;exact⟨Frame.trans' (s':=⟨st.tmps,st.objs,key::k::st.dirty⟩) ⟨rfl,rfl,fun _ _=>rfl,fun _ _=>rfl,fun i hi=>by simp[hi]⟩ h1,a0 (h1.dirty _ (by simp)) (h1.dirty _ (by simp)) h2,fun hh=>h3 (xw hh rfl rfl)⟩
     ·split at h
      ·rename_i sz es hj;split at h
       ·rename_i hg;simp only[Ae]at hg;obtain⟨h1,h2,h3⟩:=xK h;refine⟨Frame.trans' (s':=⟨st.tmps,upd (upd (upd st.objs j .dead) key (.arr sz es false)) k (.bld T' (.arr key)),key::j::k::st.dirty⟩) ⟨rfl,by simp only[qi],fun _ _=>rfl,fun i hi=>by
         simp only[As,not_or]at hi;rw[qa _ _ _ (AM hi.2.2.1),qa _ _ _ (AM hi.1),qa _ _ _ (AM hi.2.1)],fun i hi=>by simp[hi]⟩ h1,
         a0 (h1.dirty _ (by simp)) (h1.dirty _ (by simp)) h2,fun hh=>h3 ?_⟩
        obtain⟨hlt,a1,a5⟩:=wk hg.2 hh;obtain⟨F,loc,a1⟩:=a1;have a4:k≠key:=a5 k (by rw[hk];simp) (by rw[hk];simp);have a8:j≠key:=a5 j (by rw[hj];simp) (by rw[hj];simp);obtain⟨a2,this⟩:=a1.moveB (k:=k) (j:=j) (key:=key) (T:=T') (sz:=sz) (es:=es) (d:=key::j::k::st.dirty) (by
         show nth .none (upd st.objs key .none) k=_;rw[qa _ _ _ (AM a4)];exact hk) (by
         show nth .none (upd st.objs key .none) j=_;rw[qa _ _ _ (AM a8)];exact hj) (qb _ _ _ hlt) (by rw[qi];exact hlt)
        have he:upd (upd (upd st.objs key .none) j .dead) key (.arr sz es false)=upd (upd st.objs j .dead) key (.arr sz es false):=by rw[kF st.objs key j _ _ (.inl (AM a8))];simp[xv]
        simp only[he]at this;exact⟨F,a2,this⟩
       ·simp at h
      ·simp at h
    ·simp at h
   ·simp at h
  ·simp at h
 | .mix k ms::r,st,m,h=>by
  simp only[jy]at h;split at h
  ·rename_i st' hm;obtain⟨g1,g2,g3⟩:=v6 (C:=C) (B:=B) (F0:=F0) (w0:=w0) (a:=a) (w:=w) hm (by simp);obtain⟨h1,h2,h3⟩:=xK h;refine⟨Frame.trans' (Frame.trans' (s':=⟨st.tmps,st.objs,k::st.dirty⟩) ⟨rfl,rfl,fun _ _=>rfl,fun _ _=>rfl,fun i hi=>by simp[hi]⟩ (g1.mono fun t ht=>by simp at ht)) h1,fun j hj=>?_,fun hh=>h3 (g3 (xw hh rfl rfl))⟩;simp only[qV,As,Aw]at hj;rcases hj with rfl|hj|hj
   ·exact h1.dirty _ (g1.dirty _ (by simp))
   ·exact h1.dirty _ (g2 j hj)
   ·exact h2 j hj
  ·simp at h
structure Norm (mt ms:List Nat) (locs:List Loc) (st m:St):Prop where
 lt:m.tmps.length=st.tmps.length
 lo:m.objs.length=st.objs.length
 tin:∀t,t∈mt→t∉qJ locs→nth .any m.tmps t= .any
 tout:∀t,t∉mt→t∉qJ locs→nth .any m.tmps t=nth .any st.tmps t
 oin:∀k,k∈ms→nth .none m.objs k= .none
 oout:∀k,k∉m.dirty→nth .none m.objs k=nth .none st.objs k
 dirty:∀k,k∈st.dirty∨k∈qV locs→k∈m.dirty
 ok:x3 locs m=true
theorem xX (d d':List Nat) (t:List V) (o:List Obj):∀(locs:List Loc),x3 locs ⟨t,o,d⟩=x3 locs ⟨t,o,d'⟩
 |[]=>rfl
 | .slot s z::r=>by simp only[x3];rw[xX d d' t o r]
 | .box k z::r=>by simp only[x3];rw[xX d d' t o r]
 | .own s key size::r=>by simp only[x3];rw[xX d d' t o r]
 | .bld k T key::r=>by simp only[x3];rw[xX d d' t o r]
 | .mix k ms::r=>by simp only[x3];rw[xX d d' t o r]
theorem KE {mt ms:List Nat} {locs:List Loc} {st m:St} (h:R4 mt ms locs st=some m):Norm mt ms locs st m∧(Al C B F0 w0 st a w→Al C B F0 w0 m a w):=by
 unfold R4 at h;simp only[Xk,Qm]at h;split at h
 ·simp at h
 ·rename_i s1 h1;split at h
  ·simp at h
  ·rename_i hc;simp only[Af,Bool.not_eq_false']at hc;obtain⟨⟨hc1,hc2⟩,hc3⟩:=hc;simp only[AN]at h;subst h;obtain⟨f1,f2,f3⟩:=xK (C:=C) (B:=B) (F0:=F0) (w0:=w0) (a:=a) (w:=w) h1;refine⟨⟨f1.lt.trans (j2 _ _),(jc _ _).trans f1.lo,fun t ht hs=>?_,fun t ht hs=>?_,fun k hk=>j5 _ _ (.inl hk),fun k hk=>?_,fun k hk=>?_,by rw[xX _ []];exact hc3⟩,fun hh=>?_⟩
   ·rw[f1.tmps t hs];exact wN _ _ (.inl (wO.2 ⟨ht,hs⟩))
   ·rw[f1.tmps t hs];exact j3 _ _ fun h=>ht (wO.1 h).1
   ·simp only[Aw,not_or]at hk;show nth .none (zH s1.objs ms) k=_;rw[zu _ _ hk.1,f1.objs k hk.2]
   ·refine Av _ ?_;rcases hk with hk|hk
    ·exact f1.dirty k hk
    ·exact f2 k hk
   ·obtain⟨F,loc,a0⟩:=f3 (Xj _ hh);obtain⟨a1,a0⟩:=a0.forgets (ks:=ms) (objs':=zH s1.objs ms) (d:=ms++s1.dirty) (fun k hk=>j5 _ _ (.inl hk)) (fun k hk=>zu _ _ hk) hc1 hc2;exact⟨F,a1,a0⟩
end
end Eng
end
