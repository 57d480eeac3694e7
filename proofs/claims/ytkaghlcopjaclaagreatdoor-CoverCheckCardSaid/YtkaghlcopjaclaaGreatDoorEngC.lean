import Derived.Test.YtkaghlcopjaclaaGreatDoorEngB
open Array renaming getD->B0, getElem?_eq_some_iff->Dd, getElem?_eq_getElem->F2, replicate->Hu
open Bool renaming and_eq_true->Hv, or_eq_false_iff->Hx, or_eq_true->Hy, false_eq_true->HZ, not_eq_true'->I0, not_eq_true->I1
open Eng.CO renaming le->I2
open Eng.Obj.arr renaming injEq->I3
open Eng.St renaming has->J3, put->J4
open Go.Code renaming wp_mono->J5, region->J7
open Go.Obj.cells renaming injEq->J8
open Go.Region renaming binds->J9, wanted->Lm
open List renaming mem_cons->Lr, mem_append->Ls, append_assoc->Lv, length_append->M0, singleton_append->M1, mem_append_right->M2, length_singleton->M3, getElem?_cons_zero->No, getElem?_cons_succ->Pl, mem_singleton->P1, mem_map->Sz, cons_append->Ts, range_eq_range'->T1, map_cons->U0, not_mem_nil->U3, range'->V1, length_map->W0, replicate->W1, mapM_cons->W2, rel_of_pairwise_cons->W3, getElem?_append_left->W4, getElem?_take_of_lt->aE, pairwise_append->bc, mem_of_mem_take->bd, mem_append_left->be, mem_flatMap->bh, getElem_mem->bk, ext_getElem->bm, append_nil->bv, mem_range->bw
open Nat renaming lt_or_ge->bx, eq_of_beq_eq_true->cb, zero_add->cc, add_zero->cf, beq->cg, add_assoc->ch, blt_eq->cp, add_comm->cr, beq_eq->cv, strongRecOn->c3, testBit_or->c4, beq_refl->c7, le_refl->cH, not_lt->cL
open Ne renaming symm->dk
open Option.some renaming injEq->dn, inj->dp
open Prod.mk renaming injEq->dv
section
namespace Eng
open Go Go.RowKit
theorem X2{α:Type}(l:List α)(i j:Nat)(x y:α)(h:i≠j\/x=y):upd (upd l i x) j y=upd (upd l j y) i x:=by
 grind [xx,List.set_comm]
theorem Nx(k:Nat)(x:Obj):∀(b:List (Nat×Obj)) (ob:List Obj),(∀q∈b,q.1=k->q.2=x)->upds (upd ob k x) b=upd (upds ob b) k x
 |[],_,_=>rfl
 |(j,y)::b,ob,h=>by
  simp only[upds];rw[X2 ob k j x y (by
   by_cases hk:k=j
   .simp_all
   grind),Nx k x b _ λq hq=>h q (by grind)]
theorem HQ:∀(a b:List (Nat×Obj)) (ob:List Obj),(∀p∈a,∀q∈b,q.1=p.1->q.2=p.2)->upds (upds ob a) b=upds (upds ob b) a
 |[],_,_,_=>rfl
 |(k,x)::a,b,ob,h=>by simp only[upds];rw[HQ a b _ λp hp=>h p (by grind),Nx k x b ob λq hq hk=>h (k,x) (by simp) q hq hk]
theorem X3(d:Nat):∀(b:List (Nat×Obj)) (ob:List Obj),nth .none (upds ob b) d=nth .none ob d\/(nth .none (upds ob b) d= .none/\nth .none ob d= .none)\/∃p∈b,p.1=d/\nth .none (upds ob b) d=p.2
 |[],_=> .inl rfl
 |(k,x)::b,ob=>by
  simp only[upds];rcases X3 d b (upd ob k x)with h|⟨h1,h2⟩|⟨p,hp,h1,h2⟩
  .rw[zn]at h;split at h
   .simp_all
   grind
  .by_cases hk:k=d/\k<ob.length
   .rw[zn,if_pos hk]at h2;simp_all
   .rw[zn]at h2
    grind
  grind
theorem vS:∀(b:List (Nat×Obj)) (ob:List Obj),(upds ob b).length=ob.length
 |[],_=>rfl
 |(k,x)::b,ob=>by simp only[upds];rw[vS b,xx];simp
theorem jg{d:Nat}:∀(b:List (Nat×Obj)) (ob:List Obj),(∀p∈b,p.1≠d)->nth .none (upds ob b) d=nth .none ob d
 |[],_,_=>rfl
 |(k,x)::b,ob,h=>by simp only[upds];rw[jg b _ λp hp=>h p (by grind),qb _ _ _ (h (k,x) (by simp))]
theorem zX{d:Nat}{b:List (Nat×Obj)}{ob:List Obj}(h:∀p∈b,p.2≠ .none)(hd:nth .none ob d≠ .none):nth .none (upds ob b) d≠ .none:=by
 grind [X3]
theorem KB{d:Nat}:∀{b:List (Nat×Obj)} {ob:List Obj},(∀p∈b,p.2≠ .none)->d<ob.length->(∃x,(d,x)∈b)->nth .none (upds ob b) d≠ .none
 |[],_,_,_,h=>by grind
 |(k,x)::b,ob,h,hd,hx=>by
  simp only[upds];by_cases hk:k=d
  .subst hk;exact zX (λp hp=>h p (by grind)) (by rw[qc _ _ _ hd];simp_all)
  .obtain⟨y,hy⟩:=hx;refine KB (λp hp=>h p (by grind)) (by rw[xx];grind) ⟨y,?_⟩
   grind
section
variable {C:Cx}{Gv:Nat->List A->List A->Prop}{ops:Array Oper}
def Out (Gv:Nat->List A->List A->Prop):R->V->List (Nat×Obj)->Prop
 | .fail,_,_=>False
 | .ok v up,v',up'=>v'=v/\up'=up
 | .cond (dc:=_) c v up,v',up'=>c/\v'=v/\up'=up
 | .look z row off ag,v',up'=>∃ds,cut row off z.length ds/\v'=(match ag with|true=> .ag ds|false=> .c (nth .undef ds 0))/\up'=[]
 | .call f as sh up,v',up'=>∃rs,Gv f as rs/\(zN sh=false->∀r∈rs,Vr r=true)/\v'=Ht rs/\up'=up
def X4 (ops:Array Oper) (o:Oper) (tmps:List V) (b:Bool):Prop:=
 match o.guard with
 |none=>b=true
 |some (j,want)=>∃t,Q4 ops j=some t/\((∃c,nth .any tmps t= .c (.bool c)/\b=(c==want))\/(nth .any tmps t= .no/\b=false))
def Stp (C:Cx) (Gv:Nat->List A->List A->Prop) (ops:Array Oper) (o:Oper) (s:St) (v:V) (up:List (Nat×Obj)):Prop:=
 ∃b,X4 ops o s.tmps b/\if b then Out Gv (xr C o (ev s) s.objs) v up else v= .no/\up=[]
structure RecOk (C:Cx) (o:Oper) (s:St) (up:List (Nat×Obj)) (rc:Rec):Prop where
 reads:cls C o≠0->∀k∈opk o (ev s) s.objs,k∈rc.1
 ups:∀p∈up,p.1∈rc.2
def Tr (C:Cx) (Gv:Nat->List A->List A->Prop) (ops:Array Oper) (rc:Nat->Rec):List Nat->St->St->Prop
 |[],s,s'=>s.tmps=s'.tmps/\s.objs=s'.objs
 |i::r,s,s'=>∃o,ops[i]? =some o/\∃v up,Stp C Gv ops o s v up/\RecOk C o s up (rc i)/\Tr C Gv ops rc r (s.put o.dst v up) s'
theorem SX{s s':St}(h:s.tmps=s'.tmps):ev s=ev s':=by
 funext x;cases x with
 |tmp t=>simp only[ev,h]
 |_=>rfl
theorem Stp.same{o:Oper}{s s':St}{v:V}{up:List (Nat×Obj)}(h:Stp C Gv ops o s v up)(h1:s.tmps=s'.tmps)(h2:s.objs=s'.objs):Stp C Gv ops o s' v up:=by
 unfold Stp at *;rw[<-h1,<-h2,<-SX h1];exact h
theorem RecOk.same{o:Oper}{s s':St}{up:List (Nat×Obj)}{rc:Rec}(h:RecOk C o s up rc)(h1:s.tmps=s'.tmps)(h2:s.objs=s'.objs):RecOk C o s' up rc:=⟨by rw[<-SX h1,<-h2];exact h.reads,h.ups⟩
theorem Tr.same{rc:Nat->Rec}:∀{l:List Nat} {s s' e:St},Tr C Gv ops rc l s e->s.tmps=s'.tmps->s.objs=s'.objs->Tr C Gv ops rc l s' e
 |[],_,_,_,h,h1,h2=>⟨h1.symm.trans h.1,h2.symm.trans h.2⟩
 |i::r,s,s',e,h,h1,h2=>by obtain⟨o,ho,v,up,hs,hr,ht⟩:=h;exact⟨o,ho,v,up,hs.same h1 h2,hr.same h1 h2,ht.same (by simp only[J4,h1]) (by simp only[J4,h2])⟩
theorem Tr.recs{rc rc':Nat->Rec}:∀{l:List Nat} {s e:St},Tr C Gv ops rc l s e->(∀i∈l,rc i=rc' i)->Tr C Gv ops rc' l s e
 |[],_,_,h,_=>h
 |i::r,s,e,h,he=>by obtain⟨o,ho,v,up,hs,hr,ht⟩:=h;exact⟨o,ho,v,up,hs,by grind,ht.recs λj hj=>he j (by grind)⟩
theorem Lx{o:Oper}{s:St}{K:St->Prop}(h:opW C Gv o s K):∃v up,Out Gv (xr C o (ev s) s.objs) v up/\K (s.put o.dst v up):=by
 unfold opW at h;generalize xr C o (ev s) s.objs=r at *;cases r with
 |fail=>grind
 |ok v up=>exact⟨v,up,⟨rfl,rfl⟩,h⟩
 |cond c v up=>exact⟨v,up,⟨h.1,rfl,rfl⟩,h.2⟩
 |look z row off ag=>obtain⟨ds,h1,_⟩:=yC h;exact⟨_,[],⟨ds,h1.1,rfl,rfl⟩,h1.2⟩
 |call f as sh up=>obtain⟨rs,h1,h2⟩:=Z3 h;exact⟨_,up,⟨rs,h1.1,h2,rfl,rfl⟩,h1.2⟩
theorem Ly{α:Type}(d:α)(l:List α)(i:Nat)(x:α)(h:nth d l i=x):upd l i x=l:=by
 rw[xx];apply List.ext_getElem?
 grind [qm]
theorem HR{o:Oper}{s:St}{K:St->Prop}(h:Ff C Gv ops o s K):∃v up,Stp C Gv ops o s v up/\K (s.put o.dst v up):=by
 unfold Ff at h;split at h
 .rename_i hg;obtain⟨v,up,h1,h2⟩:=Lx h;exact⟨v,up,⟨true,by unfold X4;rw[hg],by grind⟩,h2⟩
 .rename_i j a3 hg;split at h
  .exact h.elim
  .rename_i t ht;split at h
   .rename_i d hd;have hb:∃c,d= .bool c:=by
     cases d with
     |bool c=>exact⟨c,rfl⟩
     |_=>exact h.elim
    obtain⟨c,rfl⟩:=hb;have hw:∀b,b=(c==a3)->X4 ops o s.tmps b:=λb hb=>by unfold X4;grind
    have hs:(⟨upd s.tmps t (.c (.bool c)),s.objs,s.dirty⟩:St)=s:=by rw[Ly _ _ _ _ hd]
    cases c<;>cases a3<;>simp only[cnd,isB,br,toB]at h<;>rw[hs]at h
    .obtain⟨v,up,h1,h2⟩:=Lx h;exact⟨v,up,⟨true,hw _ rfl,by rw[if_pos rfl];exact h1⟩,h2⟩
    .exact⟨.no,[],⟨false,hw _ rfl,by simp⟩,h⟩
    .exact⟨.no,[],⟨false,hw _ rfl,by simp⟩,h⟩
    .obtain⟨v,up,h1,h2⟩:=Lx h;exact⟨v,up,⟨true,hw _ rfl,by grind⟩,h2⟩
   .rename_i hd;exact⟨.no,[],⟨false,by unfold X4;grind,by simp⟩,h⟩
   grind
structure WF (s:St):Prop where
 tmps:∀v∈s.tmps,∀k∈qn v,nth .none s.objs k≠ .none
 objs:∀k,∀u∈qZ (nth .none s.objs k),∀j∈qn u,nth .none s.objs j≠ .none
theorem df(v:V):qn (un v)=qn v:=by cases v<;>rfl
theorem WF.ev{s:St}(h:WF s)(x:Operand):∀k∈qn (ev s x),nth .none s.objs k≠ .none:=by
 cases x with
 |tmp t=>
  simp only[Eng.ev];by_cases ht:t<s.tmps.length
  .rw[qm _ ht,df];exact h.tmps _ (bk ht)
  .rw[qG _ (cL.1 ht)];intro k hk;simp[qn,un]at hk
 |const v=>intro k hk;simp only[Eng.ev,VG]at hk;grind
 |global g=>intro k hk;simp[Eng.ev,qn]at hk
 |func f=>intro k hk;simp[Eng.ev,qn]at hk
theorem X5(rs:List A):qn (Ht rs)=[]:=by
 unfold Ht;split<;>first|rfl|grind
theorem Stp.good[EffOk C]{o:Oper}{s:St}{v:V}{up:List (Nat×Obj)}(hs:WF s)(h:Stp C Gv ops o s v up):(∀p∈up,UOk C o (Eng.ev s) s.objs up p)/\VOk s.objs up v:=by
 obtain⟨b,_,h⟩:=h;cases b with
 |false=>obtain⟨rfl,rfl⟩:=h;exact⟨λ_ h=>absurd h (by simp),λk hk=>by simp[qn]at hk⟩
 |true=>
  have hg:=SW (C:=C) (o:=o) (ρ:=Eng.ev s) (ob:=s.objs) hs.ev hs.objs;generalize xr C o (Eng.ev s) s.objs=r at *;cases r with
  |fail=>exact h.elim
  |ok v up=>obtain⟨rfl,rfl⟩:=h;exact hg
  |cond c v up=>obtain⟨_,rfl,rfl⟩:=h;exact hg
  |look z row off ag=>obtain⟨ds,_,rfl,rfl⟩:=h;exact⟨λ_ h=>absurd h (by simp),λk hk=>by cases ag<;>simp[qn]at hk⟩
  |call f as sh up=>obtain⟨rs,_,_,rfl,rfl⟩:=h;exact⟨hg,λk hk=>by rw[X5]at hk;grind⟩
theorem WF.put[EffOk C]{o:Oper}{s:St}{v:V}{up:List (Nat×Obj)}(hs:WF s)(h:Stp C Gv ops o s v up):WF (s.put o.dst v up):=by
 obtain⟨hu,hv⟩:=h.good hs;have a4:∀p∈up,p.2≠ .none:=λp hp=>(hu p hp).2.1
 have a5:∀v,VOk s.objs up v->∀k∈qn v,nth .none (upds s.objs up) k≠ .none:=λv hv k hk=>by
  rcases hv k hk with h1|⟨h1,h2⟩
  .exact zX a4 h1
  .exact KB a4 (qR h1).2 h2
 have hvk:=a5 v hv;refine⟨λu hu' k hk=>?_,λk u hu' j hj=>?_⟩
 .have a3:u∈s.tmps->nth .none (upds s.objs up) k≠ .none:=λh1=>zX a4 (hs.tmps u h1 k hk)
  cases hd:o.dst with
  |none=>rw[hd]at hu';exact a3 hu'
  |some t=>
   rw[hd]at hu';rcases zV hu' with h1|rfl
   .exact a3 h1
   .exact hvk k hk
 .change u∈qZ (nth .none (upds s.objs up) k)at hu';rcases X3 k up s.objs with h1|⟨h1,_⟩|⟨p,hp,_,h2⟩
  .rw[h1]at hu';exact zX a4 (hs.objs k u hu' j hj)
  .rw[h1]at hu';simp[qZ]at hu'
  .rw[h2]at hu';exact a5 u ((hu p hp).2.2 u hu') j hj
theorem zq{n:Nat}:∀{l:List Nat},V6 n l=true↔n∈l
 |[]=>by simp[V6]
 |m::r=>by
  unfold V6;split
  .simp_all
  .have:n≠m:=λe=>by simp_all
   rw[zq];grind
theorem wA{a l:List Nat}(h:Fg a l=true):∀x∈a,x∉l:=by
 induction a with
 |nil=>grind
 |cons y r ih=>
  simp only[Fg,Hv,I0]at h;intro x hx;rcases Lr.1 hx with rfl|hx
  .intro hm;rw[zq.2 hm]at h;grind
  grind
def iZ (ra rb:Rec):Prop:=(∀k∈ra.2,k∉rb.1)/\(∀k∈rb.2,k∉ra.1)/\(∀k∈ra.2,k∉rb.2)
structure Free (C:Cx) (ops:Array Oper) (a b:Oper) (ra rb:Rec):Prop where
 dd:∀d,d∈SA C a->d∉SA C b
 al:∀d,a.dst=some d-> .tmp d∉b.op.operands.toList
 ag:∀d,a.dst=some d->∀j w,b.guard=some (j,w)->Q4 ops j≠some d
 bl:∀d,b.dst=some d-> .tmp d∉a.op.operands.toList
 bg:∀d,b.dst=some d->∀j w,a.guard=some (j,w)->Q4 ops j≠some d
 cl:(cls C a=0\/cls C b=0\/(cls C a=1/\cls C b=1))\/iZ ra rb
theorem Free.symm{a b:Oper}{ra rb:Rec}(h:Free C ops a b ra rb):Free C ops b a rb ra:=
 ⟨λd h1 h2=>h.dd d h2 h1,h.bl,h.bg,h.al,h.ag,by
  rcases h.cl with(h|h|h)|h
  .grind
  .grind
  .grind
  .exact .inr ⟨h.2.1,h.1,λk hk hk'=>h.2.2 k hk' hk⟩⟩
theorem Ny{a b:Oper}{ra rb:Rec}(h:Fh C ops.toList a b=true)(hc:(cls C a=0\/cls C b=0\/(cls C a=1/\cls C b=1))\/iZ ra rb):Free C ops a b ra rb:=by
 simp only[Fh,Hv]at h;obtain⟨⟨h1,h2⟩,h3⟩:=h;have dl:∀{o:Oper} {d:Nat},o.dst=some d->d∈oh o:=λ{o} {d} h=>by simp[oh,h]
 have lo:∀{o:Oper} {d:Nat},.tmp d∈o.op.operands.toList->d∈looks ops.toList o:=λ{o} {d} h=>
  be _ (bh.2 ⟨_,h,by simp[ar]⟩)
 have lg:∀{o:Oper} {d:Nat} {j:Nat} {w:Bool},o.guard=some (j,w)->Q4 ops j=some d->d∈looks ops.toList o:=λ{o} {d} {j} {w} h hg=>by
  refine M2 _ ?_;unfold Q4 at hg
  grind [qF]
 exact⟨λd ha hb=>wA h1 d ha hb,λd ha hb=>wA h2 d (dl ha) (lo hb),λd ha j w hg ht=>wA h2 d (dl ha) (lg hg ht),λd hb ha=>wA h3 d (dl hb) (lo ha),
  λd hb j w hg ht=>wA h3 d (dl hb) (lg hg ht),hc⟩
theorem Nz{a b:Oper}(h:Fi C a b=true):cls C a=0\/cls C b=0\/(cls C a=1/\cls C b=1):=by
 simp only[Fi,Hy,Hv]at h
 grind [cb]
theorem F3{a b:Oper}{ra rb:Rec}(h:cB C ops.toList a b=true):Free C ops a b ra rb:=by
 simp only[cB,Hv]at h;exact Ny h.1 (.inl (Nz h.2))
theorem SY{a b:Oper}{ra rb:Rec}(h:SC C ops.toList a b ra rb=true):Free C ops a b ra rb:=by
 simp only[SC,Hv,Hy]at h;refine Ny h.1 ?_;rcases h.2 with h|h
 .exact .inl (Nz h)
 .simp only[iP,Hv]at h;exact .inr ⟨wA h.1.1,wA h.1.2,wA h.2⟩
theorem ay{s:St}{dst:Option Nat}{v:V}{up:List (Nat×Obj)}{x:Operand}(h:∀d,dst=some d->x≠ .tmp d):ev (s.put dst v up) x=ev s x:=by
 cases x with
 |tmp t=>
  cases dst with
  |none=>rfl
  |some d=>exact congrArg un (qb _ _ _ λe=>h d rfl (by rw[e]))
 |_=>rfl
theorem N0{a b:Oper}{ra rb:Rec}{s:St}{va:V}{ua:List (Nat×Obj)}(hf:Free C ops a b ra rb):La (ev (s.put a.dst va ua)) b.op.operands.toList=La (ev s) b.op.operands.toList:=by
 have hev:∀x∈b.op.operands.toList,ev (s.put a.dst va ua) x=ev s x:=λx hx=>ay λd hd hxd=>hf.al d hd (hxd▸hx)
 have:∀l:List Operand,(∀x∈l,ev (s.put a.dst va ua) x=ev s x)->La (ev (s.put a.dst va ua)) l=La (ev s) l:=by
  intro l
  induction l with
  |nil=>intro _;rfl
  |cons x l ih=>simp only[La];grind
 grind
theorem Z6{b:Oper}{s:St}(hs:WF s):∀k∈La (ev s) b.op.operands.toList,nth .none s.objs k≠ .none:=λk hk=>by
 rw[K8]at hk;obtain⟨x,_,hx⟩:=bh.1 hk;exact hs.ev x k hx
theorem KC{ob ob':List Obj}:∀{l:List Nat},(∀k∈l,nth .none ob k=nth .none ob' k\/∃s es fz s' es' fz',nth .none ob k= .arr s es fz/\nth .none ob' k= .arr s' es' fz')->H4 ob l=H4 ob' l
 |[],_=>rfl
 |k::r,h=>by
  simp only[H4];rw[KC λj hj=>h j (by grind)]
  grind
theorem KD{ob ob':List Obj}:∀{l:List Nat},(∀k∈l,nth .none ob k=nth .none ob' k\/∃s es fz s' es' fz',nth .none ob k= .arr s es fz/\nth .none ob' k= .arr s' es' fz')->yy ob l=yy ob' l
 |[],_=>rfl
 |k::r,h=>by
  simp only[yy];rw[KD λj hj=>h j (by grind)]
  grind
theorem SZ{o:Oper}{ρ:Operand->V}{ob:List Obj}:∀k∈La ρ o.op.operands.toList,k∈opk o ρ ob:=λk hk=>by
 unfold opk;split
 .exact qE.2 ⟨k,hk,.inl rfl⟩
 .exact X1.2 ⟨k,hk,.inl rfl⟩
theorem Ba[EffOk C]{a b:Oper}{ra rb:Rec}{s:St}{va:V}{ua:List (Nat×Obj)}(hs:WF s)(hf:Free C ops a b ra rb)(ha:Stp C Gv ops a s va ua)(hra:∀p∈ua,p.1∈ra.2)(hb0:cls C b≠0)(hrl:∀k∈La (ev s) b.op.operands.toList,k∈rb.1):
 opk b (ev (s.put a.dst va ua)) (s.put a.dst va ua).objs=opk b (ev s) s.objs:=by
 have a4:∀k∈La (ev s) b.op.operands.toList,nth .none (upds s.objs ua) k=nth .none s.objs k\/∃sz es fz s' es' fz',nth .none (upds s.objs ua) k= .arr sz es fz/\nth .none s.objs k= .arr s' es' fz':=?_
 .unfold opk;rw[N0 hf];split
  .exact KD a4
  .exact KC a4
 obtain⟨hu,_⟩:=ha.good hs;intro k hk;have a3:=Z6 hs k hk;change nth .none (upds s.objs ua) k=_\/_;rcases X3 k ua s.objs with h1|⟨_,h1⟩|⟨p,hp,rfl,h2⟩
 .exact .inl h1
 .grind
 .rcases(hu p hp).1 with⟨_,h3⟩|⟨_,h3,_,h4⟩
  .exact absurd (qR h3).1 a3
  .rcases hf.cl with(h|h|h)|h
   .grind
   .grind
   .grind
   .exact absurd (hrl _ hk) (h.1 _ (hra p hp))
theorem Stp.indep[EffOk C]{a b:Oper}{ra rb:Rec}{s:St}{va vb:V}{ua ub:List (Nat×Obj)}(hs:WF s)(hf:Free C ops a b ra rb)(ha:Stp C Gv ops a s va ua)(hra:∀p∈ua,p.1∈ra.2)(hrb:cls C b≠0->∀k∈opk b (ev s) s.objs,k∈rb.1):
 Stp C Gv ops b (s.put a.dst va ua) vb ub↔Stp C Gv ops b s vb ub:=by
 obtain⟨hu,_⟩:=ha.good hs;have hev:∀x∈b.op.operands.toList,ev (s.put a.dst va ua) x=ev s x:=λx hx=>ay λd hd hxd=>hf.al d hd (hxd▸hx)
 have hw:∀c,X4 ops b (s.put a.dst va ua).tmps c↔X4 ops b s.tmps c:=λc=>by
  unfold X4;split
  .exact Iff.rfl
  .rename_i j a4 hg;have:∀t,Q4 ops j=some t->nth .any (s.put a.dst va ua).tmps t=nth .any s.tmps t:=λt ht=>by
    simp only[J4];cases hd:a.dst with
    |none=>rfl
    |some d=>exact qb _ _ _ λe=>hf.ag d hd j a4 hg (by rw[ht,e])
   constructor
   .rintro⟨t,h1,h2⟩;exact⟨t,h1,by rw[<-this t h1];exact h2⟩
   .rintro⟨t,h1,h2⟩;exact⟨t,h1,by rw[this t h1];exact h2⟩
 have hop:xr C b (ev (s.put a.dst va ua)) (s.put a.dst va ua).objs=xr C b (ev s) s.objs:=by
  rw[PC hev];refine Eq.symm (de ?_ λd hd=>?_)
  .by_cases hb:cls C b=0
   .exact .inl hb
   .refine .inr λk hk=>?_
    have a3:nth .none s.objs k≠ .none:=by
     unfold opk at hk;split at hk
     .obtain⟨j,h1,h2⟩:=qE.1 hk;rcases h2 with rfl|⟨q,hq,h2⟩
      .exact Z6 hs k h1
      .exact hs.objs j q hq k h2
     .obtain⟨j,h1,h2⟩:=X1.1 hk;rcases h2 with rfl|⟨T,q,hq,h2⟩
      .exact Z6 hs k h1
      .exact hs.objs j q (by rw[hq];simp[qZ]) k h2
    refine Ag.symm ?_;change Ag _ (nth .none (upds s.objs ua) k) _;rcases X3 k ua s.objs with h1|⟨_,h1⟩|⟨p,hp,rfl,h2⟩
    .exact .inl h1
    .exact absurd h1 a3
    .rcases(hu p hp).1 with⟨_,h3⟩|⟨_,h3,_,h4⟩
     .exact absurd (qR h3).1 a3
     .have hca:cls C a=1/\cls C b=1:=by
       rcases hf.cl with(h|h|h)|h
       .exact absurd h h3
       .exact absurd h hb
       .exact h
       .exact absurd (hrb hb _ hk) (h.1 _ (hra p hp))
      obtain⟨sz,es,fz,h5,h6⟩:=h4 (by omega);exact .inr ⟨by omega,sz,es,true,fz,by rw[h2,h6],h5⟩
  .refine Eq.symm ?_;have hne:∀p∈ua,p.2≠ .none:=λp hp=>(hu p hp).2.1
   change qD (upds s.objs ua) d=_;by_cases hex:∃p∈ua,p.1=d
   .obtain⟨p,hp,rfl⟩:=hex;rcases(hu p hp).1 with⟨h3,_⟩|⟨_,_,h3,_⟩
    .exact absurd hd (hf.dd _ h3)
    .have h4:=zX hne h3;have a5:∀{ob:List Obj} {d:Nat},nth .none ob d≠ .none->qD ob d=false:=λ{ob} {d} h=>by
      cases hfk:qD ob d
      .rfl
      .exact absurd (qR hfk).1 h
     rw[a5 h3,a5 h4]
   .have:nth .none (upds s.objs ua) d=nth .none s.objs d:=jg _ _ λp hp e=>hex ⟨p,hp,e⟩
    have hl:=vS ua s.objs;unfold qD
    grind [qm,qG]
 unfold Stp
 grind
theorem Stp.swap[EffOk C]{a b:Oper}{ra rb:Rec}{s:St}{va vb:V}{ua ub:List (Nat×Obj)}(hs:WF s)(hf:Free C ops a b ra rb)(ha:Stp C Gv ops a s va ua)(hra:RecOk C a s ua ra)(hb:Stp C Gv ops b (s.put a.dst va ua) vb ub)(hrb:RecOk C b (s.put a.dst va ua) ub rb):
 (Stp C Gv ops b s vb ub/\RecOk C b s ub rb)/\(Stp C Gv ops a (s.put b.dst vb ub) va ua/\RecOk C a (s.put b.dst vb ub) ua ra)/\((s.put a.dst va ua).put b.dst vb ub).tmps=((s.put b.dst vb ub).put a.dst va ua).tmps/\
  ((s.put a.dst va ua).put b.dst vb ub).objs=((s.put b.dst vb ub).put a.dst va ua).objs:=by
 have a3:RecOk C b s ub rb:=⟨λhb0=>by
  have hl:∀k∈La (ev s) b.op.operands.toList,k∈rb.1:=λk hk=>hrb.reads hb0 k (by
   exact SZ k (by rw[N0 hf];exact hk))
  rw[<-Ba hs hf ha hra.ups hb0 hl];exact hrb.reads hb0,hrb.ups⟩
 have a4:=(ha.indep hs hf hra.ups a3.reads).1 hb;refine⟨⟨a4,a3⟩,⟨(a4.indep hs hf.symm hrb.ups hra.reads).2 ha,λha0=>by
  rw[Ba hs hf.symm a4 hrb.ups ha0 λk hk=>hra.reads ha0 k (SZ k hk)];exact hra.reads ha0,hra.ups⟩,?_,?_⟩
 .simp only[J4];cases hda:a.dst with
  |none=>rfl
  |some d=>
   cases hdb:b.dst with
   |none=>rfl
   |some e=>exact X2 _ _ _ _ _ (.inl λhe=>hf.dd d (JH hda) (JH (by rw[hdb,he])))
 .simp only[J4];refine HQ _ _ _ λp hp q hq hpq=>?_
  have hp':=((ha.good hs).1 p hp).1;have a5:=((a4.good hs).1 q hq).1;rcases hp' with⟨h1,h2⟩|⟨_,h1,h2,h3⟩
  .rcases a5 with⟨h4,h5⟩|⟨_,_,h4,_⟩
   .exact absurd (hpq▸h4) (hf.dd _ h1)
   .rw[hpq]at h4;exact absurd (qR h2).1 h4
  .rcases a5 with⟨h4,h5⟩|⟨_,h4,_,h6⟩
   .rw[hpq]at h5;exact absurd (qR h5).1 h2
   .have hca:cls C a=1/\cls C b=1:=by
     rcases hf.cl with(h|h|h)|h
     .exact absurd h h1
     .grind
     .exact h
     .exact absurd (hpq▸hrb.ups q hq) (h.2.2 _ (hra.ups p hp))
    grind
theorem Tr.front[EffOk C]{rc:Nat->Rec}{i:Nat}{o:Oper}(ho:ops[i]? =some o):∀{pre post:List Nat} {s e:St},WF s->(∀j∈pre,∀b,ops[j]? =some b->Free C ops b o (rc j) (rc i))->Tr C Gv ops rc (pre++i::post) s e->Tr C Gv ops rc (i::(pre++post)) s e
 |[],post,s,e,_,_,h=>h
 |j::pre,post,s,e,hs,hf,h=>by
  obtain⟨b,hb,vb,ub,h1,hr1,h2⟩:=h;obtain⟨o',ho',v,up,h3,hr3,h4⟩:=Tr.front ho (hs.put h1) (λj' hj'=>hf j' (by grind)) h2;obtain rfl:o=o':=by grind
  obtain⟨h5,h6,h7,h8⟩:=h1.swap hs (hf j (by simp) b hb) hr1 h3 hr3;exact⟨o,ho,v,up,h5.1,h5.2,b,hb,vb,ub,h6.1,h6.2,h4.same h7 h8⟩
end
end Eng
end
section
namespace Eng
open Go Go.RowKit
section
variable {C:Cx}{B:Bd}{F0:Nat->Prop}{w0:World}{ops:Array Oper}{Q:Exit->Act->World->Prop}
theorem xE{s s':St}{a:Act}{w:World}(h:J3 C B F0 w0 s a w)(h1:s.tmps=s'.tmps)(h2:s.objs=s'.objs):J3 C B F0 w0 s' a w:=by
 obtain⟨F,loc,h⟩:=h;obtain⟨t,o,d⟩:=s;obtain⟨t',o',d'⟩:=s';subst h1 h2;exact⟨F,loc,h.redirty⟩
theorem Bb{o:Oper}{s:St}{a:Act}{w:World}{F:Nat->Prop}{loc:Where}{b:Bool}(h:Conc C B F0 w0 F loc s a w)(hw:X4 ops o s.tmps b):Lm o (yielded ops a.tmps)=b:=by
 unfold X4 at hw;unfold Lm;split at hw
 .rename_i hg;rw[hg];exact hw.symm
 .rename_i j a5 hg;obtain⟨t,h1,hw⟩:=hw;rw[hg];rcases hw with⟨c,h2,rfl⟩|⟨h2,rfl⟩
  rotate_left
  .have ht:t<s.tmps.length:=by
    rcases bx t s.tmps.length with h|h
    .exact h
    .rw[qG _ h]at h2;simp at h2
   have hv:=h.tmps.nth .any undef _ _ t ht;rw[h2,JE]at hv;have a3:a.tmps.getD t undef=undef:=hv;have a4:t<a.tmps.size:=by have:=h.tmps.length;simpa [this]using ht
   have hy:yielded ops a.tmps j=none:=by
    unfold yielded;unfold Q4 at h1;split at h1
    .rename_i g hj;have:a.tmps[t]? =some undef:=by rw[F2 a4];simp[B0,a4]at a3;rw[a3]
     simp[hj,h1,this,undef]
    .simp at h1
   dsimp only
   rw[hy];cases a5<;>rfl
  have ht:t<s.tmps.length:=by
   rcases bx t s.tmps.length with h|h
   .exact h
   .rw[qG _ h]at h2;simp at h2
  have hv:=h.tmps.nth .any undef _ _ t ht;rw[h2,JE]at hv;have a3:a.tmps.getD t undef= .bool c:=(λ(x:Value) (hx:CD w F (.bool c) x)=>(by cases hx;rfl:x= .bool c)) _ hv;have a4:t<a.tmps.size:=by have:=h.tmps.length;simpa [this]using ht
  have hy:yielded ops a.tmps j=some c:=by
   unfold yielded;unfold Q4 at h1;split at h1
   .rename_i g hj;have:a.tmps[t]? =some (.bool c):=by rw[F2 a4];simp[B0,a4]at a3;rw[a3]
    simp[hj,h1,this]
   .simp at h1
  dsimp only
  rw[hy];cases c<;>cases a5<;>rfl
theorem Stp.wp[EffOk C]{o:Oper}{i:Nat}{s:St}{a:Act}{w:World}{v:V}{up:List (Nat×Obj)}{K:Act->World->Prop}(ho:ops[i]? =some o)(h:J3 C B F0 w0 s a w)(hs:Stp C (qa C) ops o s v up)(hK:∀a' w',J3 C B F0 w0 (s.put o.dst v up) a' w'->K a' w'):wpOp C.P ops Q i K a w:=by
 obtain⟨F,loc,h⟩:=h;obtain⟨b,hw,hs⟩:=hs;unfold wpOp;rw[ho]
 dsimp only
 rw[Bb h hw];cases b with
 |false=>obtain⟨rfl,rfl⟩:=hs;rw[if_neg (by simp)];exact hK _ _ ⟨F,loc,h.pure (v:= .no) rfl trivial⟩
 |true=>
  rw[if_pos rfl]at hs ⊢;refine .inl ?_;have hr:=pt (o:=o) h;generalize xr C o (ev s) s.objs=r at *;cases r with
  |fail=>exact hs.elim
  |ok v up=>obtain⟨rfl,rfl⟩:=hs;exact hr K Q hK
  |cond c v up=>obtain⟨hc,rfl,rfl⟩:=hs;exact hr hc K Q hK
  |look z row off ag=>obtain⟨ds,hc,rfl,rfl⟩:=hs;exact hr ds hc K Q hK
  |call f as sh up=>obtain⟨rs,h1,h2,rfl,rfl⟩:=hs;exact hr rs h1 h2 K Q hK
theorem ld{s:St}{a:Act}{w:World}(h:J3 C B F0 w0 s a w):WF s:=by
 obtain⟨F,loc,h⟩:=h;have hk:∀v,Ref s.objs v->∀k∈qn v,nth .none s.objs k≠ .none:=λv hv k hk=>by
  cases v<;>simp only[qn,P1,U3]at hk<;>first|(subst hk;exact hv)|exact hv k hk
 refine⟨λv hv=>hk v (h.refs v hv),λk u hu=>hk u ?_⟩;have:=h.objs k;cases hc:nth .none s.objs k with
 |box cells=>rw[hc]at this hu;obtain⟨_,_,_,_,_,_,_,_,h5⟩:=this;exact h5 u hu
 |bld T q=>rw[hc]at this hu;obtain⟨_,_,_,_,_,_,_,_,_,h5⟩:=this;simp[qZ]at hu;subst hu;exact h5.1
 |_=>rw[hc]at hu;simp[qZ]at hu
theorem N1[EffOk C]{rc:Nat->Rec}:∀{l:List Nat} {s e:St} {a:Act} {w:World},Tr C (qa C) ops rc l s e->J3 C B F0 w0 s a w->(∀a w,J3 C B F0 w0 e a w->Q .normal a w)->wpOps C.P ops Q l a w
 |[],s,e,a,w,ht,h,hQ=>hQ a w (xE h ht.1 ht.2)
 |i::l,s,e,a,w,ht,h,hQ=>by obtain⟨o,ho,v,up,h1,_,h2⟩:=ht;rw[wpOps_cons];exact h1.wp ho h λa' w' h'=>N1 h2 h' hQ
theorem KE(m j:Nat):Nl m j=m.testBit j:=by
 unfold Nl;rw[Bool.eq_iff_iff,cv];show(m>>>j)&&&1=1↔_;rw[Nat.testBit,Nat.and_comm,Nat.one_and_eq_mod_two,bne_iff_ne];omega
theorem az:∀(l:List Oper) (acc:List Nat),∃ext,anc l acc=acc++ext/\ext.length=l.length/\∀i o,l[i]? =some o->nth 0 ext i=Q5 o.after.toList (acc++ext.take i)
 |[],acc=>⟨[],by simp[anc],rfl,λi o h=>by simp at h⟩
 |o::l,acc=>by
  obtain⟨ext,h1,h2,h3⟩:=az l (acc++[Q5 o.after.toList acc]);refine⟨Q5 o.after.toList acc::ext,by simp only[anc];rw[h1,Lv];rfl,by simp[h2],λi p hi=>?_⟩;cases i with
  |zero=>simp only[No,dn]at hi;subst hi;simp[nth]
  |succ i=>simp only[Pl]at hi;have:=h3 i p hi;simp only[nth,List.take_succ_cons];rw[this,Lv];rfl
theorem KF{acc:List Nat}{j:Nat}:∀{es:List Edge},Nl (Q5 es acc) j=true->∃e∈es,J9 .any e=true/\(j=e.on\/Nl (nth 0 acc e.on) j=true)
 |[],h=>by rw[KE]at h;simp[Q5]at h
 |e::r,h=>by
  simp only[Q5]at h;split at h
  .rename_i hb;have h:Nl ((2^e.on|||nth 0 acc e.on)|||Q5 r acc) j=true:=h;rw[KE,c4,c4,Nat.testBit_two_pow,Hy,Hy,decide_eq_true_eq,<-KE,<-KE]at h;rcases h with(h|h)|h
   .exact⟨e,by simp,hb,.inl h.symm⟩
   .exact⟨e,by simp,hb,.inr h⟩
   .obtain⟨e',h1,h2,h3⟩:=KF h;exact⟨e',by simp[h1],h2,h3⟩
  .obtain⟨e',h1,h2,h3⟩:=KF h;exact⟨e',by simp[h1],h2,h3⟩
theorem lf{i j:Nat}{o:Oper}{l:List Oper}(ho:l[i]? =some o)(h:Nl (nth 0 (anc l []) i) j=true):∃e∈o.after.toList,J9 .any e=true/\(j=e.on\/Nl (nth 0 (anc l []) e.on) j=true):=by
 obtain⟨ext,h1,h2,h3⟩:=az l [];simp only[List.nil_append]at h1 h3;rw[h1]at h ⊢;rw[h3 i o ho]at h;obtain⟨e,h4,h5,h6⟩:=KF h;refine⟨e,h4,h5,h6.imp_right λh6=>?_⟩;by_cases he:e.on<(ext.take i).length
 .rw[qm _ he]at h6;have hlt:e.on<ext.length:=by simp at he;omega
  rw[qm _ hlt]
  simpa using h6
 .rw[qG _ (cL.1 he),KE]at h6;simp at h6
structure ROk (C:Cx) (ops:Array Oper) (rc:Nat->Rec):Prop where
 free:∀i o,ops[i]? =some o->∀j b,j<i->ops[j]? =some b->Nl (nth 0 (anc ops.toList []) i) j=true\/Free C ops b o (rc j) (rc i)
 back:∀i o,ops[i]? =some o->∀e∈o.after.toList,J9 .any e=true->e.on<i
theorem YO{i:Nat}:∀{es:List Edge},TZ es i=true->∀e∈es,J9 .any e=true->e.on<i
 |[],_,e,he,_=>by simp at he
 |e'::r,h,e,he,hb=>by
  simp only[TZ,Hv]at h;rcases Lr.1 he with rfl|he
  .have:=h.1;rw[hb]at this
   simpa [cp]using this
  .exact YO h.2 e he hb
theorem VH{o:Oper}{an:Nat}:∀{l:List Oper} {j:Nat},Ku C ops.toList o an l j=true->∀k b,l[k]? =some b->Nl an (j+k)=true\/∀rb ro,Free C ops b o rb ro
 |[],_,_,k,b,hb=>by simp at hb
 |b'::r,j,h,k,b,hb=>by
  simp only[Ku,Hv,Hy]at h;cases k with
  |zero=>
   simp only[No,dn]at hb;subst hb;rcases h.1 with h1|h1
   .exact .inl h1
   .exact .inr λrb ro=>F3 h1
  |succ k=>
   simp only[Pl]at hb;have:=VH h.2 k b hb
   rwa [ch,cr 1 k]at this
theorem KG{an:List Nat}{all:List Oper}:∀{l:List Oper} {k:Nat},Qb C all an l k=true->∀i o,l[i]? =some o->Ku C all o (nth 0 an (k+i)) (all.take (k+i)) 0=true/\TZ o.after.toList (k+i)=true
 |[],_,_,i,o,h=>by simp at h
 |o'::r,k,h,i,o,ho=>by
  simp only[Qb,Hv]at h;cases i with
  |zero=>simp only[No,dn]at ho;subst ho;exact h.1
  |succ i=>
   simp only[Pl]at ho;have:=KG h.2 i o ho
   rwa [ch,cr 1 i]at this
theorem KH(rc:Nat->Rec)(h:Xs C ops.toList=true):ROk C ops rc:=by
 have hg:=λi o (ho:ops[i]? =some o)=>KG (k:=0) h i o (by simpa using ho)
 simp only[cc]at hg;refine⟨λi o ho j b hj hb=>?_,λi o ho=>YO (hg i o ho).2⟩;have:=VH (hg i o ho).1 j b (by rw[aE hj];simpa using hb);rw[cc]at this;exact this.imp_right λh=>h _ _
theorem KI{o:Oper}{ro:Rec}{an:Nat}:∀{l:List Oper} {rs:List Rec} {j:Nat},Xt C ops.toList o ro an l rs j=true->∀k b,l[k]? =some b->Nl an (j+k)=true\/Free C ops b o (nth ([],[]) rs k) ro
 |[],_,_,_,k,b,hb=>by simp at hb
 |b'::r,rs,j,h,k,b,hb=>by
  simp only[Xt,Hv,Hy]at h;cases k with
  |zero=>
   simp only[No,dn]at hb;subst hb;rcases h.1 with h1|h1
   .exact .inl h1
   .exact .inr (SY h1)
  |succ k=>
   simp only[Pl]at hb;have:=KI h.2 k b hb;rw[ch,cr 1 k]at this;refine this.imp_right λh=>?_
   have e:nth ([],[]) (rs.drop 1) k=nth ([],[]) rs (k+1):=by rw[qF,qF];simp
   rwa [e]at h
theorem Jk{an:List Nat}{all:List Oper}{recs:List Rec}:∀{l:List Oper} {k:Nat},vJ C all recs an l k=true->∀i o,l[i]? =some o->Xt C all o (nth ([],[]) recs (k+i)) (nth 0 an (k+i)) (all.take (k+i)) recs 0=true/\TZ o.after.toList (k+i)=true
 |[],_,_,i,o,h=>by simp at h
 |o'::r,k,h,i,o,ho=>by
  simp only[vJ,Hv]at h;cases i with
  |zero=>simp only[No,dn]at ho;subst ho;exact h.1
  |succ i=>
   simp only[Pl]at ho;have:=Jk h.2 i o ho
   rwa [ch,cr 1 i]at this
theorem Jl{recs:List Rec}(h:Xu C ops.toList recs=true):ROk C ops (λi=>nth ([],[]) recs i):=by
 have hg:=λi o (ho:ops[i]? =some o)=>Jk (k:=0) h i o (by simpa using ho)
 simp only[cc]at hg;refine⟨λi o ho j b hj hb=>?_,λi o ho=>YO (hg i o ho).2⟩;have:=KI (hg i o ho).1 j b (by rw[aE hj];simpa using hb)
 rwa [cc]at this
theorem F4[EffOk C]{rc:Nat->Rec}(hr:ROk C ops rc):∀{rem:List Nat} {listed:Array Bool} {s e:St} {a:Act} {w:World},Tr C (qa C) ops rc rem s e->J3 C B F0 w0 s a w->(∀a w,J3 C B F0 w0 e a w->Q .normal a w)->
 rem.Pairwise (· < ·)->listed.size=ops.size->(∀i,i∈rem↔i<ops.size/\listed.getD i true=false)->(∀i,i<ops.size->listed.getD i true=true->∀j,Nl (nth 0 (anc ops.toList []) i) j=true->listed.getD j false=true)->
 wpAny C.P .any ops Q rem.length listed a w:=by
 intro rem;generalize hn:rem.length=n
 induction n generalizing rem with
 |zero=>intro listed s e a w ht h hQ a5 b6 a3 b1;have a7:rem=[]:=List.eq_nil_of_length_eq_zero hn;subst a7;refine⟨?_,hQ a w (xE h ht.1 ht.2)⟩;apply List.eq_nil_iff_forall_not_mem.2;intro i hi;obtain⟨h0,o,ho,_⟩:=mem_ready.1 hi;have:=(a3 i).2 ⟨(Dd.1 ho).1,h0⟩;simp at this
 |succ n ih=>
  intro listed s e a w ht h hQ a5 b6 a3 b1;have a4:∀j,j<listed.size->listed.getD j true=listed.getD j false:=λj hj=>by simp[B0,hj]
  refine⟨λa7=>?_,λi hi=>?_⟩
  .cases rem with
   |nil=>simp at hn
   |cons i r=>
    exfalso;have hi:=(a3 i).1 (by simp);obtain⟨o,ho,_⟩:=ht;have:i∈Region.ready .any ops listed:=by
     refine mem_ready.2 ⟨hi.2,o,ho,λe he hb=>?_⟩;have b2:=hr.back i o ho e (by simpa using he) hb;cases hl:listed.getD e.on true with
     |true=>rw[<-a4 _ (by omega)];exact hl
     |false=>
      have:=(a3 e.on).2 ⟨by omega,hl⟩;rcases Lr.1 this with h1|h1
      .omega
      .have:=W3 a5 h1;omega
    rw[a7]at this;simp at this
  .obtain⟨h0,o,ho,ap⟩:=mem_ready.1 hi;have ag:i<ops.size:=(Dd.1 ho).1;have him:i∈rem:=(a3 i).2 ⟨ag,h0⟩;obtain⟨an,a6,rfl⟩:=List.append_of_mem him;have a9:∀j,Nl (nth 0 (anc ops.toList []) i) j=true->listed.getD j false=true:=λj hj=>by
    obtain⟨e,h1,h2,h3⟩:=lf (by simpa using ho) hj;have he:=ap e (by simpa using h1) h2;rcases h3 with rfl|h3
    .exact he
    .have b2:=hr.back i o ho e h1 h2;exact b1 e.on (by omega) (by rw[a4 _ (by omega)];exact he) j h3
   have a8:=bc.1 a5;have ad:∀j∈an,∀b,ops[j]? =some b->Free C ops b o (rc j) (rc i):=λj hj b hb=>by
    have b2:j<i:=a8.2.2 j hj i (by simp);rcases hr.free i o ho j b b2 hb with h1|h1
    .have h2:=a9 j h1;have h3:=((a3 j).1 (by simp[hj])).2;rw[a4 j (by omega),h2]at h3;simp at h3
    .exact h1
   obtain⟨o',b7,v,up,h1,_,h2⟩:=Tr.front ho (ld h) ad ht;obtain rfl:o=o':=by rw[ho]at b7;exact dp b7
   refine h1.wp ho h λa' w' h'=>?_
   have b3:∀j,j∈an++a6↔j∈an++i::a6/\j≠i:=λj=>by
    have b4:∀j∈an,j≠i:=λj hj he=>by have:=a8.2.2 j hj i (by simp);omega
    have al:∀j∈a6,j≠i:=λj hj he=>by have:=W3 a8.2.1 hj;omega
    simp only[Ls,Lr];constructor
    .rintro(h|h)
     .exact⟨.inl h,b4 j h⟩
     .exact⟨.inr (.inr h),al j h⟩
    .rintro⟨h|h|h,h'⟩
     .exact .inl h
     .exact absurd h h'
     .exact .inr h
   have b5:∀j,(listed.setIfInBounds i true).getD j true=false↔listed.getD j true=false/\j≠i:=λj=>by
    by_cases hij:i=j
    .subst hij;simp[b6,ag]
    .rw[getD_set_ne true hij];exact⟨λh=>⟨h,λe=>hij e.symm⟩,λh=>h.1⟩
   refine ih (rem:=an++a6) (by simp at hn ⊢;omega) h2 h' hQ ?_ (by simp[b6]) (λj=>?_) (λk hk hlk j hj=>?_)
   .exact bc.2 ⟨a8.1,(List.pairwise_cons.1 a8.2.1).2,λx hx y hy=>a8.2.2 x hx y (by simp[hy])⟩
   .rw[b3,a3,b5];exact⟨λh=>⟨h.1.1,h.1.2,h.2⟩,λh=>⟨⟨h.1,h.2.1⟩,h.2.2⟩⟩
   .by_cases hki:i=k
    .subst hki;exact getD_set_true (a9 j hj)
    .rw[getD_set_ne true hki]at hlk;exact getD_set_true (b1 k hk hlk j hj)
theorem X6[EffOk C]{rc:Nat->Rec}{id:Nat}{draw:Bool}{s e:St}{a:Act}{w:World}(hm:C.P.follows .mixedOrders=true)(hr:draw=true->ROk C ops rc)(ht:Tr C (qa C) ops rc (List.range ops.size) s e)(h:J3 C B F0 w0 s a w)(hQ:∀a w,J3 C B F0 w0 e a w->Q .normal a w):(J7 id ops draw).wp C.P Q a w:=by
 cases draw with
 |false=>exact wp_region (N1 ht h hQ)
 |true=>
  refine wp_region_any hm ?_;have hd:J3 C B F0 w0 s a {w with drawn:=w.drawn+1}:=by obtain⟨F,loc,h⟩:=h;exact⟨F,loc,h.drew⟩
  have:=F4 (hr rfl) (listed:=Hu ops.size false) ht hd hQ List.pairwise_lt_range (by simp) (λi=>by
   constructor
   .intro h;exact⟨by simpa using h,by simp[B0,bw.1 h]⟩
   .intro h;exact bw.2 h.1) (λi hi h=>by simp[B0,hi]at h)
  rwa [List.length_range]at this
end
end Eng
end
section
namespace Eng
open Go Go.RowKit
section
variable {C:Cx}{B:Bd}{F0:Nat->Prop}{w0:World}{F:Nat->Prop}{loc:Where}{st:St}{a:Act}{w:World}
theorem HS{α β:Type}{R:α->β->Prop}(d:α){y:α}:∀{as:List α} {bs:List β} (i:Nat),(∀b,R (nth d as i) b->R y b)->All2 R as bs->All2 R (upd as i y) bs
 |[],[],_,_,_=>trivial
 |_::_,b::_,0,h,h'=>⟨h b h'.1,h'.2⟩
 |_::as,_::bs,i+1,h,h'=>⟨h'.1,HS (as:=as) (bs:=bs) d i h h'.2⟩
 |[],_::_,_,_,h=>h.elim
 |_::_,[],_,_,h=>h.elim
theorem X7{α β:Type}{R R':α->β->Prop}(d:α){y:α}:∀{as:List α} {bs:List β} (i:Nat),(∀b,R (nth d as i) b->R' y b)->All2 R as bs->All2 R' as bs->All2 R' (upd as i y) bs
 |[],[],_,_,_,_=>trivial
 |_::_,b::_,0,h,h',h''=>⟨h b h'.1,h''.2⟩
 |_::as,_::bs,i+1,h,h',h''=>⟨h''.1,X7 (as:=as) (bs:=bs) d i h h'.2 h''.2⟩
 |[],_::_,_,_,h,_=>h.elim
 |_::_,[],_,_,h,_=>h.elim
theorem Conc.weakT{t:Nat}{v:V}{d:List Nat}(h:Conc C B F0 w0 F loc st a w)(hv:∀x,CV loc st.objs w F (nth .any st.tmps t) x->CV loc st.objs w F v x)(hr:Ref st.objs v):Conc C B F0 w0 F loc ⟨upd st.tmps t v,st.objs,d⟩ a w:=
 ⟨h.prog,h.below,h.hB,h.defers,HS .any t hv h.tmps,λu hu=>by
  rcases zV hu with hu|rfl
  .exact h.refs u hu
  grind,h.objs,h.inj,h.fresh,h.bound,h.fsub,h.fsup,h.inv⟩
theorem Conc.relocate{objs':List Obj}{loc':Where}{d:List Nat}(h:Conc C B F0 w0 F loc st a w)(hl:Le st.objs objs' loc loc')(hobjs:∀k,CO loc' objs' w F k (nth .none objs' k))(hinj:∀k k' b c c',loc' k=some (b,c)->loc' k'=some (b,c')->k=k')(hfresh:∀k b c,loc' k=some (b,c)->Own B b/\b<w.heap.size):Conc C B F0 w0 F loc' ⟨st.tmps,objs',d⟩ a w:=
 ⟨hl.prog.trans h.prog,h.below,h.hB,h.defers,h.tmps.mono_mem λv hv _ hx=>CV.le (λ_ h=>h) (λ_ _=>rfl) hl (h.refs v hv) hx,λv hv=>(h.refs v hv).le hl,hobjs,hinj,hfresh,h.bound,h.fsub,h.fsup,h.inv⟩
theorem KJ{ks:List Nat}{v:V}(h:Lc ks v=false):∀k∈qn v,k∉ks:=by
 intro k hk hm;have ha:∀l:List Nat,ph ks l=false->∀j∈l,V6 j ks=false:=by
  intro l
  induction l with
  |nil=>grind
  |cons x l ih=>
   intro h j hj;simp only[ph,Hx]at h
   grind
 cases v<;>simp only[qn,P1,U3]at hk<;>first|(subst hk;simp[Lc,zq.2 hm]at h)|(have h2:=ha _ h k hk;rw[zq.2 hm]at h2;cases h2)
theorem Qf{ks:List Nat}:∀{l:List V},Kw ks l=false->∀v∈l,Lc ks v=false
 |[],_,v,hv=>by grind
 |u::r,h,v,hv=>by
  simp only[Kw,Hx]at h;rcases Lr.1 hv with rfl|hv
  .grind
  .exact Qf h.2 v hv
theorem jN{ks:List Nat}:∀{l:List Obj},jp ks l=false->∀o∈l,∀u∈qZ o,Lc ks u=false
 |[],_,v,hv=>by grind
 |u::r,h,v,hv=>by
  intro x hx;rcases Lr.1 hv with e|hm
  .subst e;cases v with
   |box cells=>simp only[jp,Hx]at h;exact Qf h.1 x hx
   |bld T q=>
    simp only[jp,Hx]at h;simp[qZ]at hx
    grind
   |_=>simp[qZ]at hx
  .cases u<;>simp only[jp,Hx]at h
   .exact jN h v hm x hx
   .exact jN h v hm x hx
   .exact jN h.2 v hm x hx
   .exact jN h v hm x hx
   .exact jN h.2 v hm x hx
theorem CV.keep{loc':Where}{objs objs':List Obj}{v:V}{x:Value}(hty:loc'.ty=loc.ty)(hk:∀k∈qn v,nth .none objs' k=nth .none objs k/\loc' k=loc k)(h:CV loc objs w F v x):CV loc' objs' w F v x:=by
 cases v with
 |box k off=>intro a3 hc;rw[(hk k (by simp[qn])).1]at hc;rw[(hk k (by simp[qn])).2];exact h a3 hc
 |arr k=>intro s es fz hc;rw[(hk k (by simp[qn])).1]at hc;rw[(hk k (by simp[qn])).2];exact h s es fz hc
 |elt k i off=>intro s es fz hc;rw[(hk k (by simp[qn])).1]at hc;rw[(hk k (by simp[qn])).2];exact h s es fz hc
 |sub k off len=>intro s es fz hc;rw[(hk k (by simp[qn])).1]at hc;rw[(hk k (by simp[qn])).2];exact h s es fz hc
 |arrAt k g c t=>intro s es fz hc;rw[(hk k (by simp[qn])).1]at hc;rw[(hk k (by simp[qn])).2,hty];exact h s es fz hc
 |boxAt k g=>intro o hc;rw[(hk k (by simp[qn])).1]at hc;rw[(hk k (by simp[qn])).2];exact h o hc
 |_=>exact h
theorem Ref.keep{objs objs':List Obj}{v:V}(hk:∀k∈qn v,nth .none objs' k=nth .none objs k)(h:Ref objs v):Ref objs' v:=by
 cases v with
 |box k off=>intro hc;rw[hk k (by simp[qn])]at hc;exact h hc
 |arr k=>intro hc;rw[hk k (by simp[qn])]at hc;exact h hc
 |elt k i off=>intro hc;rw[hk k (by simp[qn])]at hc;exact h hc
 |sub k off len=>intro hc;rw[hk k (by simp[qn])]at hc;exact h hc
 |arrAt k g c t=>intro hc;rw[hk k (by simp[qn])]at hc;exact h hc
 |boxAt k g=>intro hc;rw[hk k (by simp[qn])]at hc;exact h hc
 |_=>trivial
theorem CO.keep{loc':Where}{objs objs':List Obj}{k:Nat}{o:Obj}(hP:loc'.P=loc.P)(hkk:loc' k=loc k)(hty:loc'.ty=loc.ty)(hk:∀v∈qZ o,∀j∈qn v,nth .none objs' j=nth .none objs j/\loc' j=loc j)(h:CO loc objs w F k o):CO loc' objs' w F k o:=by
 cases o with
 |none=>exact hkk.trans h
 |dead=>exact hkk.trans h
 |box cells=>obtain⟨b,c,cs,t,h1,h2,h3,h4,h5⟩:=h;exact⟨b,c,cs,t,by rw[hkk];exact h1,h2,h3,h4.mono_mem λv hv x hx=>⟨CV.keep hty (hk v hv) hx.1,hx.2⟩,λv hv=>Ref.keep (λj hj=>(hk v hv j hj).1) (h5 v hv)⟩
 |bld T q=>obtain⟨b,c,p,v,h1,h2,h3,h4,h5,h6⟩:=h;have hq:=hk q (by simp[qZ]);exact⟨b,c,p,v,by rw[hkk];exact h1,h2,h3,h4,CV.keep hty hq h5,Ref.keep (λj hj=>(hq j hj).1) h6.1,by grind⟩
 |arr s es fz=>obtain⟨h1,h2,h3,h4⟩:=h;refine⟨h1,h2,h3,?_⟩;simp_all
theorem dh{α:Type}{d:α}{l:List α}{i:Nat}(h:nth d l i≠d):nth d l i∈l:=by
 grind [qm,bk,qG]
theorem Conc.forgets{ks:List Nat}{objs':List Obj}{d:List Nat}(h:Conc C B F0 w0 F loc st a w)(hin:∀k∈ks,nth .none objs' k= .none)(hout:∀k,k∉ks->nth .none objs' k=nth .none st.objs k)(ht:Kw ks st.tmps=false)(ho:jp ks objs'=false):∃loc',Conc C B F0 w0 F loc' ⟨st.tmps,objs',d⟩ a w:=by
 refine⟨⟨loc.P,λk=>if k∈ks then none else loc k,loc.ty⟩,h.prog,h.below,h.hB,h.defers,?_,?_,?_,?_,?_,h.bound,h.fsub,h.fsup,h.inv⟩
 .refine h.tmps.mono_mem λv hv x hx=>?_
  refine CV.keep (loc:=loc) (objs:=st.objs) ?_ (λk hk=>?_) hx
  .rfl
  .have hn:=KJ (Qf ht v hv) k hk;exact⟨hout k hn,by simp[hn]⟩
 .exact λv hv=>Ref.keep (λk hk=>hout k (KJ (Qf ht v hv) k hk)) (h.refs v hv)
 .intro k;by_cases hk:k∈ks
  .change CO _ objs' w F k (nth .none objs' k);rw[hin k hk];show(if k∈ks then none else loc k)=none
   grind
  .change CO _ objs' w F k (nth .none objs' k);have hmem:∀u∈qZ (nth .none objs' k),Lc ks u=false:=λu hu=>by
    have hne:nth .none objs' k≠ .none:=by intro e;rw[e]at hu;simp[qZ]at hu
    exact jN ho _ (dh hne) u hu
   have h0:=h.objs k
   grind [CO.keep,KJ]
 .intro k k' b c c' h1 h2;by_cases hk:k∈ks
  .simp[hk]at h1
  .by_cases hk':k'∈ks
   .simp[hk']at h2
   .simp only[if_neg hk]at h1;simp only[if_neg hk']at h2;exact h.inj _ _ _ _ _ h1 h2
 .intro k b c h1;by_cases hk:k∈ks
  .simp[hk]at h1
  .simp only[if_neg hk]at h1;exact h.fresh _ _ _ h1
theorem Conc.move{s k key sz:Nat}{es:List (List D)}{d:List Nat}(h:Conc C B F0 w0 F loc st a w)(hs:nth .any st.tmps s= .arr k)(hk:nth .none st.objs k= .arr sz es false)(hkey:nth .none st.objs key= .none)(hlt:key<st.objs.length):
 ∃loc',Conc C B F0 w0 F loc' ⟨upd st.tmps s (.arr key),upd (upd st.objs k .dead) key (.arr sz es false),d⟩ a w:=by
 have hne:k≠key:=λe=>by subst e;rw[hk]at hkey;simp at hkey
 have a3:k<st.objs.length:=by
  rcases bx k st.objs.length with h|h
  .exact h
  .rw[qG _ h]at hk;simp at hk
 have hn:∀j,nth .none (upd (upd st.objs k .dead) key (.arr sz es false)) j=if j=key then .arr sz es false else if j=k then .dead else nth .none st.objs j:=λj=>by
  by_cases h1:j=key
  .subst h1;rw[qc _ _ _ (by rw[xx];simpa using hlt)];simp
  .rw[qb _ _ _ (dk h1),if_neg h1];by_cases h2:j=k
   .subst h2;rw[qc _ _ _ a3];simp
   .rw[qb _ _ _ (dk h2),if_neg h2]
 generalize hob:upd (upd st.objs k .dead) key (.arr sz es false)=objs' at *
 let loc':Where:=⟨loc.P,λj=>if j=key then loc k else if j=k then none else loc j,λj=>if j=key then loc.ty k else loc.ty j⟩
 have a5:Le st.objs objs' loc loc':=by
  refine⟨rfl,λj hj=>by
   have:j≠key:=λe=>by subst e;exact hj hkey
   simp[loc',this],λj hj=>?_,λj o' hj hc hbx=>?_,λj s' es' fz' hj hc=>?_⟩
  .rw[hn];split
   .simp
   .split
    .simp
    .exact hj
  .rw[hn]at hc;split at hc
   .rw[<-hc]at hbx;simp[kl]at hbx
   .split at hc
    .rw[<-hc]at hbx;simp[kl]at hbx
    .rename_i e1 e2;exact⟨by rw[hc];exact hbx,by simp[loc',e1,e2]⟩
  .rw[hn]at hc;split at hc
   .rename_i e;rw[e]at hj;exact absurd hkey hj
   .split at hc
    .simp at hc
    .exact⟨⟨_,_,hc,rfl⟩,by simp[loc', *]⟩
 have hlk:loc key=none:=by have:=h.objs key;rw[hkey]at this;exact this
 have h1:Conc C B F0 w0 F loc' ⟨st.tmps,objs',d⟩ a w:=by
  refine h.relocate a5 (λj=>?_) ?_ ?_
  .rw[hn];split
   .rename_i e;have h0:=h.objs k;rw[hk]at h0;obtain⟨q1,q2,q3,q4⟩:=h0;refine⟨q1,q2,q3,?_⟩;simp only[loc',e,if_pos];exact q4
   .split
    .rename_i e;show loc' j=none;simp[loc',e,hne]
    .rename_i e1 e2;exact I2 (λ_ h=>h) (λ_ _=>rfl) a5 (by simp[loc',e1,e2]) (by simp[loc',e1]) (λ_ _ _=>⟨rfl,λh=>h⟩) (h.objs j)
  .intro j j' b c c' g1 g2;simp only[loc']at g1 g2;split at g1<;>split at g2
   .rw[‹j=key›,‹j'=key›]
   .split at g2
    .simp at g2
    .exact absurd (h.inj _ _ _ _ _ g1 g2).symm ‹_›
   .split at g1
    .simp at g1
    .exact absurd (h.inj _ _ _ _ _ g1 g2) ‹_›
   .split at g1
    .simp at g1
    .split at g2
     .simp at g2
     .exact h.inj _ _ _ _ _ g1 g2
  .intro j b c g1;simp only[loc']at g1;split at g1
   .exact h.fresh _ _ _ g1
   .split at g1
    .simp at g1
    .exact h.fresh _ _ _ g1
 refine⟨loc',?_⟩;have hfin:Conc C B F0 w0 F loc' ⟨upd st.tmps s (.arr key),objs',d⟩ a w:=by
  refine⟨h1.prog,h1.below,h1.hB,h1.defers,?_,λu hu=>?_,h1.objs,h1.inj,h1.fresh,h1.bound,h1.fsub,h1.fsup,h1.inv⟩
  ·--slot s:read from the old state
   have hs0:s<st.tmps.length:=by
    rcases bx s st.tmps.length with h|h
    .exact h
    .rw[qG _ h]at hs;simp at hs
   have a4:CV loc' objs' w F (.arr key) (nth undef a.tmps.toList s):=by
    have h0:=h.tmps.nth .any undef _ _ s hs0;rw[hs]at h0;intro s' es' fz' hc;rw[hn,if_pos rfl]at hc;simp only[I3]at hc;obtain⟨rfl,rfl,rfl⟩:=hc;have:=h0 sz es false hk
    simpa [loc']using this
   have hlen:=h.tmps.length;have:upd a.tmps.toList s (nth undef a.tmps.toList s)=a.tmps.toList:=Ly undef _ _ _ rfl;have h2:=All2.upd (i:=s) a4 h1.tmps;rw[this]at h2;exact h2
  .rcases zV hu with hu|rfl
   .exact h1.refs u hu
   .show nth .none objs' key≠ .none;rw[hn];simp
 grind
theorem Conc.moveN{s k key sz n:Nat}{es:List (List D)}{d:List Nat}(h:Conc C B F0 w0 F loc st a w)(hs:nth .any st.tmps s= .sub k 0 n)(hk:nth .none st.objs k= .arr sz es false)(hkey:nth .none st.objs key= .none)(hlt:key<st.objs.length):
 ∃loc',Conc C B F0 w0 F loc' ⟨upd st.tmps s (.arr key),upd (upd st.objs k .dead) key (.arr sz (es.take n) false),d⟩ a w:=by
 have hnl:n<=es.length:=by
  have hlt:s<st.tmps.length:=by
   rcases bx s st.tmps.length with h1|h1
   .exact h1
   .rw[qG _ h1]at hs;simp at hs
  have hc:=h.tmps.nth .any default _ _ _ hlt;rw[hs]at hc;rcases hc _ _ _ hk with⟨b,c,q1,q2,q3⟩|⟨_,_,_,_,h0,_⟩|⟨_,h0,_⟩
  .omega
  .omega
  .omega
 have hne:k≠key:=λe=>by subst e;rw[hk]at hkey;simp at hkey
 have a3:k<st.objs.length:=by
  rcases bx k st.objs.length with h|h
  .exact h
  .rw[qG _ h]at hk;simp at hk
 have hn:∀j,nth .none (upd (upd st.objs k .dead) key (.arr sz (es.take n) false)) j=if j=key then .arr sz (es.take n) false else if j=k then .dead else nth .none st.objs j:=λj=>by
  by_cases h1:j=key
  .subst h1;rw[qc _ _ _ (by rw[xx];simpa using hlt)];simp
  .rw[qb _ _ _ (dk h1),if_neg h1];by_cases h2:j=k
   .subst h2;rw[qc _ _ _ a3];simp
   .rw[qb _ _ _ (dk h2),if_neg h2]
 generalize hob:upd (upd st.objs k .dead) key (.arr sz (es.take n) false)=objs' at *
 let loc':Where:=⟨loc.P,λj=>if j=key then loc k else if j=k then none else loc j,λj=>if j=key then loc.ty k else loc.ty j⟩
 have a5:Le st.objs objs' loc loc':=by
  refine⟨rfl,λj hj=>by
   have:j≠key:=λe=>by subst e;exact hj hkey
   simp[loc',this],λj hj=>?_,λj o' hj hc hbx=>?_,λj s' es' fz' hj hc=>?_⟩
  .rw[hn];split
   .simp
   .split
    .simp
    .exact hj
  .rw[hn]at hc;split at hc
   .rw[<-hc]at hbx;simp[kl]at hbx
   .split at hc
    .rw[<-hc]at hbx;simp[kl]at hbx
    .rename_i e1 e2;exact⟨by rw[hc];exact hbx,by simp[loc',e1,e2]⟩
  .rw[hn]at hc;split at hc
   .rename_i e;rw[e]at hj;exact absurd hkey hj
   .split at hc
    .simp at hc
    .exact⟨⟨_,_,hc,rfl⟩,by simp[loc', *]⟩
 have hlk:loc key=none:=by have:=h.objs key;rw[hkey]at this;exact this
 have h1:Conc C B F0 w0 F loc' ⟨st.tmps,objs',d⟩ a w:=by
  refine h.relocate a5 (λj=>?_) ?_ ?_
  .rw[hn];split
   .rename_i e;have h0:=h.objs k;rw[hk]at h0;obtain⟨q1,q2,q3,q4⟩:=h0;have a6:(es.take n).length=n:=by rw[List.length_take];omega
    refine⟨q1.le (by omega),q2,λe' he'=>q3 e' (bd he'),?_⟩;simp only[loc',e,if_pos];rcases q4 with⟨q4,q5⟩|⟨b,c,cs,t,q4,q5,q6,q7,q8,q9,q10⟩
    .exact .inl ⟨q4,by rw[q5];simp⟩
    .refine .inr ⟨b,c,cs,t,q4,q5,q6,q7,by omega,λj hj=>?_,q10⟩;rw[a6]at hj;have hj2:j<es.length*sz:=Nat.lt_of_lt_of_le hj (Nat.mul_le_mul_right sz hnl);obtain⟨v,r1,r2⟩:=q9 j hj2;refine⟨v,r1,?_⟩;have hfl:(es.take n).flatten.length=n*sz:=by rw[qk (λe' he'=>q3 e' (bd he')),a6]
     have hsp:es.flatten=(es.take n).flatten++(es.drop n).flatten:=by rw[<-List.flatten_append,List.take_append_drop]
     have:nth .undef (es.take n).flatten j=nth .undef es.flatten j:=by rw[hsp,qF,qF,W4 (by omega)]
     rw[this];exact r2
   .split
    .rename_i e;show loc' j=none;simp[loc',e,hne]
    .rename_i e1 e2;exact I2 (λ_ h=>h) (λ_ _=>rfl) a5 (by simp[loc',e1,e2]) (by simp[loc',e1]) (λ_ _ _=>⟨rfl,λh=>h⟩) (h.objs j)
  .intro j j' b c c' g1 g2;simp only[loc']at g1 g2;split at g1<;>split at g2
   .rw[‹j=key›,‹j'=key›]
   .split at g2
    .simp at g2
    .exact absurd (h.inj _ _ _ _ _ g1 g2).symm ‹_›
   .split at g1
    .simp at g1
    .exact absurd (h.inj _ _ _ _ _ g1 g2) ‹_›
   .split at g1
    .simp at g1
    .split at g2
     .simp at g2
     .exact h.inj _ _ _ _ _ g1 g2
  .intro j b c g1;simp only[loc']at g1;split at g1
   .exact h.fresh _ _ _ g1
   .split at g1
    .simp at g1
    .exact h.fresh _ _ _ g1
 refine⟨loc',?_⟩;have hfin:Conc C B F0 w0 F loc' ⟨upd st.tmps s (.arr key),objs',d⟩ a w:=by
  refine⟨h1.prog,h1.below,h1.hB,h1.defers,?_,λu hu=>?_,h1.objs,h1.inj,h1.fresh,h1.bound,h1.fsub,h1.fsup,h1.inv⟩
  ·--slot s:read from the old state
   have hs0:s<st.tmps.length:=by
    rcases bx s st.tmps.length with h|h
    .exact h
    .rw[qG _ h]at hs;simp at hs
   have a4:CV loc' objs' w F (.arr key) (nth undef a.tmps.toList s):=by
    have h0:=h.tmps.nth .any undef _ _ s hs0;rw[hs]at h0;intro s' es' fz' hc;rw[hn,if_pos rfl]at hc;simp only[I3]at hc;obtain⟨rfl,rfl,rfl⟩:=hc;rcases h0 sz es false hk with⟨b,c,e1,e2,e3⟩|⟨_,e1,e2,_,_,e3⟩|⟨_,e1,_⟩
    .refine .inl ⟨b,c,by simpa [loc']using e1,?_⟩;rw[e3];simp;omega
    .refine .inr ⟨by simpa [loc']using e1,by rw[e2];simp,e3⟩
    .omega
   have hlen:=h.tmps.length;have:upd a.tmps.toList s (nth undef a.tmps.toList s)=a.tmps.toList:=Ly undef _ _ _ rfl;have h2:=All2.upd (i:=s) a4 h1.tmps;rw[this]at h2;exact h2
  .rcases zV hu with hu|rfl
   .exact h1.refs u hu
   .show nth .none objs' key≠ .none;rw[hn];simp
 grind
theorem Conc.nilOwn{s key sz:Nat}{d:List Nat}(h:Conc C B F0 w0 F loc st a w)(hs:nth .any st.tmps s= .nilS)(hkey:nth .none st.objs key= .none)(hlt:key<st.objs.length)(hsz:0<sz):
 Conc C B F0 w0 F loc ⟨upd st.tmps s (.arr key),upd st.objs key (.arr sz [] false),d⟩ a w:=by
 have a4:loc key=none:=by have:=h.objs key;rw[hkey]at this;exact this
 have a3:Le st.objs (upd st.objs key (.arr sz [] false)) loc loc:=by
  refine⟨rfl,λ_ _=>rfl,λj hj=>?_,λj o' hj hc hbx=>?_,λj s' es' fz' hj hc=>?_⟩
  .rw[zn];grind
  .grind [zn]
  grind [zn]
 have h1:Conc C B F0 w0 F loc ⟨st.tmps,upd st.objs key (.arr sz [] false),d⟩ a w:=by
  refine h.relocate a3 (λj=>?_) h.inj h.fresh;by_cases hj:key=j
  .subst hj;rw[qc _ _ _ hlt];exact⟨by simp[roomS],hsz,λe he=>by grind,.inl ⟨a4,rfl⟩⟩
  .rw[qb _ _ _ hj];exact I2 (λ_ h=>h) (λ_ _=>rfl) a3 rfl rfl (λ_ _ _=>⟨rfl,λh=>h⟩) (h.objs j)
 have h2:=h1.weakT (t:=s) (v:= .arr key) (d:=d) (λx hx=>by
  have hx:CV loc (upd st.objs key (.arr sz [] false)) w F (nth .any st.tmps s) x:=hx;rw[hs]at hx;intro s' es' fz' hc;change nth .none (upd st.objs key (.arr sz [] false)) key=_ at hc;rw[qc _ _ _ hlt]at hc;simp only[I3]at hc;obtain⟨_,rfl,_⟩:=hc;exact .inr ⟨a4,rfl,hx⟩) (by
   show nth .none (upd st.objs key (.arr sz [] false)) key≠ .none;rw[qc _ _ _ hlt];simp)
 exact h2
theorem Conc.moveM{k j key sz i0:Nat}{cells:List V}{es:List (List D)}{d:List Nat}(h:Conc C B F0 w0 F loc st a w)(hk:nth .none st.objs k= .box cells)(hi:nth .any cells i0= .arr j)(hj:nth .none st.objs j= .arr sz es false)(hkey:nth .none st.objs key= .none)(hlt:key<st.objs.length):
 ∃loc',Conc C B F0 w0 F loc' ⟨st.tmps,upd (upd (upd st.objs j .dead) key (.arr sz es false)) k (.box (upd cells i0 (.arr key))),d⟩ a w:=by
 have hne:j≠key:=λe=>by subst e;rw[hj]at hkey;simp at hkey
 have a3:k≠key:=λe=>by subst e;rw[hk]at hkey;simp at hkey
 have a5:k≠j:=λe=>by subst e;rw[hk]at hj;simp at hj
 have a4:j<st.objs.length:=by
  rcases bx j st.objs.length with h|h
  .exact h
  .rw[qG _ h]at hj;simp at hj
 have a6:k<st.objs.length:=by
  rcases bx k st.objs.length with h|h
  .exact h
  .rw[qG _ h]at hk;simp at hk
 have hn:∀i,nth .none (upd (upd (upd st.objs j .dead) key (.arr sz es false)) k (.box (upd cells i0 (.arr key)))) i=if i=k then .box (upd cells i0 (.arr key))else if i=key then .arr sz es false else if i=j then .dead else nth .none st.objs i:=λi=>by
  by_cases h0:i=k
  .subst h0;rw[qc _ _ _ (by rw[qi,qi];exact a6)];simp
  .rw[qb _ _ _ (dk h0),if_neg h0];by_cases h1:i=key
   .subst h1;rw[qc _ _ _ (by rw[qi];exact hlt)];simp
   .rw[qb _ _ _ (dk h1),if_neg h1];by_cases h2:i=j
    .subst h2;rw[qc _ _ _ a4];simp
    .rw[qb _ _ _ (dk h2),if_neg h2]
 generalize hob:upd (upd (upd st.objs j .dead) key (.arr sz es false)) k (.box (upd cells i0 (.arr key)))=objs' at *
 let loc':Where:=⟨loc.P,λi=>if i=key then loc j else if i=j then none else loc i,λi=>if i=key then loc.ty j else loc.ty i⟩
 have a7:Le st.objs objs' loc loc':=by
  refine⟨rfl,λi hi=>by
   have:i≠key:=λe=>by subst e;exact hi hkey
   simp[loc',this],λi hi=>?_,λi o' hi hc hbx=>?_,λi s' es' fz' hi hc=>?_⟩
  .rw[hn];split
   .simp
   .split
    .simp
    .split
     .simp
     .exact hi
  .rw[hn]at hc;split at hc
   .rename_i e0;subst e0;exact⟨by rw[hk];rfl,by simp[loc',a3,a5]⟩
   .split at hc
    .rw[<-hc]at hbx;simp[kl]at hbx
    .split at hc
     .rw[<-hc]at hbx;simp[kl]at hbx
     .rename_i e1 e2;exact⟨by rw[hc];exact hbx,by simp[loc',e1,e2]⟩
  .rw[hn]at hc;split at hc
   .simp at hc
   .split at hc
    .rename_i e;rw[e]at hi;exact absurd hkey hi
    .split at hc
     .simp at hc
     .exact⟨⟨_,_,hc,rfl⟩,by simp[loc', *]⟩
 refine⟨loc',h.relocate a7 (λi=>?_) ?_ ?_⟩
 .rw[hn];split
  .rename_i e0;subst e0;have h0:=h.objs i;rw[hk]at h0;have a8:=h0;have h0:=I2 (F':=F) (w':=w) (λ_ h=>h) (λ_ _=>rfl) a7 (show loc' i=loc i by simp[loc',a3,a5]) (show loc'.ty i=loc.ty i by simp[loc',a3]) (λ_ _ _=>⟨rfl,λh=>h⟩) h0;obtain⟨b0,c0,cs0,t0,r1,_,r3,r4,_⟩:=a8;obtain⟨b,c,cs,t,h1,h2,h3,h4,h5⟩:=h0;have hbb:b0=b/\c0=c:=by
    have:loc' i=loc i:=by simp[loc',a3,a5]
    rw[this,r1]at h1
    simpa using h1
   obtain⟨rfl,rfl⟩:=hbb;rw[r3]at h3;simp only[dn,J8]at h3;obtain⟨rfl,rfl,_⟩:=h3;refine⟨b0,c0,cs0,t0,h1,h2,r3,?_,?_⟩
   .refine X7 .any i0 (λx hx=>⟨?_,hx.2⟩) r4 h4;rw[hi]at hx;intro s' es' fz' hc;rw[hn,if_neg (dk a3),if_pos rfl]at hc;simp only[I3]at hc;obtain⟨rfl,rfl,rfl⟩:=hc;have:=hx.1 _ _ _ hj
    simpa [loc']using this
   .intro v hv;rcases zV hv with hv|rfl
    .exact h5 v hv
    .show nth .none objs' key≠ .none;rw[hn,if_neg (dk a3),if_pos rfl];simp
  .rename_i e0;split
   .rename_i e;have h0:=h.objs j;rw[hj]at h0;obtain⟨q1,q2,q3,q4⟩:=h0;refine⟨q1,q2,q3,?_⟩;simp only[loc',e,if_pos];exact q4
   .split
    .rename_i e;show loc' i=none;simp[loc',e,hne]
    .rename_i e1 e2;exact I2 (λ_ h=>h) (λ_ _=>rfl) a7 (by simp[loc',e1,e2]) (by simp[loc',e1]) (λ_ _ _=>⟨rfl,λh=>h⟩) (h.objs i)
 .intro i i' b c c' g1 g2;simp only[loc']at g1 g2;split at g1<;>split at g2
  .rw[‹i=key›,‹i'=key›]
  .split at g2
   .simp at g2
   .exact absurd (h.inj _ _ _ _ _ g1 g2).symm ‹_›
  .split at g1
   .simp at g1
   .exact absurd (h.inj _ _ _ _ _ g1 g2) ‹_›
  .split at g1
   .simp at g1
   .split at g2
    .simp at g2
    .exact h.inj _ _ _ _ _ g1 g2
 .intro i b c g1;simp only[loc']at g1;split at g1
  .exact h.fresh _ _ _ g1
  .split at g1
   .simp at g1
   .exact h.fresh _ _ _ g1
theorem Conc.nilM{k key sz i0:Nat}{cells:List V}{d:List Nat}(h:Conc C B F0 w0 F loc st a w)(hk:nth .none st.objs k= .box cells)(hi:nth .any cells i0= .nilS)(hkey:nth .none st.objs key= .none)(hlt:key<st.objs.length)(hsz:0<sz):
 Conc C B F0 w0 F loc ⟨st.tmps,upd (upd st.objs key (.arr sz [] false)) k (.box (upd cells i0 (.arr key))),d⟩ a w:=by
 have a6:k≠key:=λe=>by subst e;rw[hk]at hkey;simp at hkey
 have a3:k<st.objs.length:=by
  rcases bx k st.objs.length with h|h
  .exact h
  .rw[qG _ h]at hk;simp at hk
 have a7:loc key=none:=by have:=h.objs key;rw[hkey]at this;exact this
 have hn:∀i,nth .none (upd (upd st.objs key (.arr sz [] false)) k (.box (upd cells i0 (.arr key)))) i=if i=k then .box (upd cells i0 (.arr key))else if i=key then .arr sz [] false else nth .none st.objs i:=λi=>by
  by_cases h0:i=k
  .subst h0;rw[qc _ _ _ (by rw[qi];exact a3)];simp
  .rw[qb _ _ _ (dk h0),if_neg h0];by_cases h1:i=key
   .subst h1;rw[qc _ _ _ hlt];simp
   .rw[qb _ _ _ (dk h1),if_neg h1]
 generalize hob:upd (upd st.objs key (.arr sz [] false)) k (.box (upd cells i0 (.arr key)))=objs' at *;have a4:Le st.objs objs' loc loc:=by
  refine⟨rfl,λi hi=>rfl,λi hi=>?_,λi o' hi hc hbx=>?_,λi s' es' fz' hi hc=>?_⟩
  .rw[hn];split
   .simp
   .split
    .simp
    .exact hi
  .rw[hn]at hc;split at hc
   .rename_i e0;subst e0;exact⟨by rw[hk];rfl,rfl⟩
   .split at hc
    .rw[<-hc]at hbx;simp[kl]at hbx
    .exact⟨by rw[hc];exact hbx,rfl⟩
  grind
 refine h.relocate a4 (λi=>?_) h.inj h.fresh;rw[hn];split
 .rename_i e0;subst e0;have h0:=h.objs i;rw[hk]at h0;have a5:=h0;have h0:=I2 (F':=F) (w':=w) (λ_ h=>h) (λ_ _=>rfl) a4 rfl rfl (λ_ _ _=>⟨rfl,λh=>h⟩) h0;obtain⟨b0,c0,cs0,t0,r1,_,r3,r4,_⟩:=a5;obtain⟨b,c,cs,t,h1,h2,h3,h4,h5⟩:=h0;have hbb:b0=b/\c0=c:=by
   rw[r1]at h1
   simpa using h1
  obtain⟨rfl,rfl⟩:=hbb;rw[r3]at h3;simp only[dn,J8]at h3;obtain⟨rfl,rfl,_⟩:=h3;refine⟨b0,c0,cs0,t0,h1,h2,r3,?_,?_⟩
  .refine X7 .any i0 (λx hx=>⟨?_,hx.2⟩) r4 h4;rw[hi]at hx;intro s' es' fz' hc;rw[hn,if_neg (dk a6),if_pos rfl]at hc;simp only[I3]at hc;obtain⟨rfl,rfl,rfl⟩:=hc;exact .inr ⟨a7,rfl,hx.1⟩
  .intro v hv;rcases zV hv with hv|rfl
   .exact h5 v hv
   .show nth .none objs' key≠ .none;rw[hn,if_neg (dk a6),if_pos rfl];simp
 .split
  .rename_i e;subst e;exact⟨by simp[roomS],hsz,λe he=>by simp at he,.inl ⟨a7,rfl⟩⟩
  .exact I2 (λ_ h=>h) (λ_ _=>rfl) a4 rfl rfl (λ_ _ _=>⟨rfl,λh=>h⟩) (h.objs i)
theorem Conc.dataM{k i0:Nat}{cells:List V}{d:List Nat}(h:Conc C B F0 w0 F loc st a w)(hk:nth .none st.objs k= .box cells)(hi:nth .any cells i0= .nilS):
 Conc C B F0 w0 F loc ⟨st.tmps,upd st.objs k (.box (upd cells i0 (.c (.sl [])))),d⟩ a w:=by
 have a3:k<st.objs.length:=by
  rcases bx k st.objs.length with h|h
  .exact h
  .rw[qG _ h]at hk;simp at hk
 have hn:∀i,nth .none (upd st.objs k (.box (upd cells i0 (.c (.sl []))))) i=if i=k then .box (upd cells i0 (.c (.sl [])))else nth .none st.objs i:=λi=>by
  by_cases h0:i=k
  .subst h0;rw[qc _ _ _ a3];simp
  .rw[qb _ _ _ (dk h0),if_neg h0]
 generalize hob:upd st.objs k (.box (upd cells i0 (.c (.sl []))))=objs' at *;have a4:Le st.objs objs' loc loc:=by
  refine⟨rfl,λi hi=>rfl,λi hi=>?_,λi o' hi hc hbx=>?_,λi s' es' fz' hi hc=>?_⟩
  .rw[hn];split
   .simp
   .exact hi
  .rw[hn]at hc;split at hc
   .rename_i e0;subst e0;exact⟨by rw[hk];rfl,rfl⟩
   grind
  grind
 refine h.relocate a4 (λi=>?_) h.inj h.fresh;rw[hn];split
 .rename_i e0;subst e0;have h0:=h.objs i;rw[hk]at h0;have a5:=h0;have h0:=I2 (F':=F) (w':=w) (λ_ h=>h) (λ_ _=>rfl) a4 rfl rfl (λ_ _ _=>⟨rfl,λh=>h⟩) h0;obtain⟨b0,c0,cs0,t0,r1,_,r3,r4,_⟩:=a5;obtain⟨b,c,cs,t,h1,h2,h3,h4,h5⟩:=h0;have hbb:b0=b/\c0=c:=by
   rw[r1]at h1
   simpa using h1
  obtain⟨rfl,rfl⟩:=hbb;rw[r3]at h3;simp only[dn,J8]at h3;obtain⟨rfl,rfl,_⟩:=h3;refine⟨b0,c0,cs0,t0,h1,h2,r3,?_,?_⟩
  .refine X7 .any i0 (λx hx=>⟨?_,hx.2⟩) r4 h4;rw[hi]at hx;have h2:x= .slice none 0 0:=hx.1;subst h2;exact CD.nil _ _
  .intro v hv;rcases zV hv with hv|rfl
   .exact h5 v hv
   .trivial
 .exact I2 (λ_ h=>h) (λ_ _=>rfl) a4 rfl rfl (λ_ _ _=>⟨rfl,λh=>h⟩) (h.objs i)
theorem vT{loc:Where}{objs:List Obj}:∀{cells:List V} {ds:List D},qC cells=some ds->∀{cs:List Value},All2 (λv x=>CV loc objs w F v x/\x.oneCell'=true) cells cs->All2 (λv x=>CV loc objs w F v x/\x.oneCell'=true) (ds.map V.c) cs
 |[],ds,h,cs,hc=>by
  simp only[qC,dn]at h
  grind
 |v::r,ds,h,[],hc=>hc.elim
 |v::r,ds,h,x::cs,hc=>by
  unfold qC at h;split at h
  .simp_all
  .rename_i d r' heq;obtain⟨rfl,rfl⟩:=heq;rw[Option.map_eq_some_iff]at h;obtain⟨ds',h1,rfl⟩:=h;exact⟨hc.1,vT h1 hc.2⟩
  .rename_i r' heq;obtain⟨rfl,rfl⟩:=heq;rw[Option.map_eq_some_iff]at h;obtain⟨ds',h1,rfl⟩:=h;refine⟨⟨?_,hc.1.2⟩,vT h1 hc.2⟩;have h2:x= .slice none 0 0:=hc.1.1;subst h2;exact CD.nil _ _
  grind
theorem Conc.boxData{k:Nat}{cells:List V}{ds:List D}{d:List Nat}(h:Conc C B F0 w0 F loc st a w)(hk:nth .none st.objs k= .box cells)(hd:qC cells=some ds):
 Conc C B F0 w0 F loc ⟨st.tmps,upd st.objs k (.box (ds.map V.c)),d⟩ a w:=by
 have hlt:k<st.objs.length:=by
  grind [bx,qG]
 have a3:Le st.objs (upd st.objs k (.box (ds.map V.c))) loc loc:=by
  refine⟨rfl,λ_ _=>rfl,λj hj=>?_,λj o' hj hc hbx=>?_,λj s' es' fz' hj hc=>?_⟩
  .rw[zn];grind
  .rw[zn]at hc;split at hc
   .rename_i e;rw[<-e.1];exact⟨by rw[hk];rfl,rfl⟩
   grind
  grind [zn]
 refine h.relocate a3 (λj=>?_) h.inj h.fresh;by_cases hj:k=j
 .subst hj;rw[qc _ _ _ hlt];have h0:=h.objs k;rw[hk]at h0;obtain⟨b,c,cs,t,h1,h2,h3,h4,h5⟩:=h0;refine⟨b,c,cs,t,h1,h2,h3,?_,λv hv=>?_⟩
  .exact(vT hd h4).mono_mem λv hv x hx=>⟨CV.le (λ_ h=>h) (λ_ _=>rfl) a3 (by
    obtain⟨y,_,rfl⟩:=Sz.1 hv;trivial) hx.1,hx.2⟩
  .obtain⟨y,_,rfl⟩:=Sz.1 hv;trivial
 .rw[qb _ _ _ hj];exact I2 (λ_ h=>h) (λ_ _=>rfl) a3 rfl rfl (λ_ _ _=>⟨rfl,λh=>h⟩) (h.objs j)
end
section
variable {C:Cx}{B:Bd}{F0:Nat->Prop}{w0:World}{a:Act}{w:World}
theorem VI:∀(l:List Nat) {st:St},J3 C B F0 w0 st a w->J3 C B F0 w0 ⟨Q6 st.tmps l,st.objs,st.dirty⟩ a w
 |[],st,h=>h
 |s::r,st,h=>by obtain⟨F,loc,h⟩:=h;exact VI r (st:=⟨upd st.tmps s .any,st.objs,st.dirty⟩) ⟨F,loc,h.weakT (λ_ _=>trivial) trivial⟩
theorem KK{key:Nat}{st:St}(hg:cC key st=true)(h:J3 C B F0 w0 st a w):key<st.objs.length/\J3 C B F0 w0 ⟨st.tmps,upd st.objs key .none,st.dirty⟩ a w/\(∀k,nth .none st.objs k≠ .none->nth .none st.objs k≠ .dead->k≠key):=by
 simp only[cC,Hv,I0,cp]at hg;obtain⟨⟨⟨h1,h2⟩,h3⟩,h4⟩:=hg;refine⟨h1,?_,λk hk hk' e=>?_⟩
 .obtain⟨F,loc,h⟩:=h;obtain⟨a3,h'⟩:=h.forgets (ks:=[key]) (objs':=upd st.objs key .none) (d:=st.dirty) (λk hk=>by
   grind [P1,qc]) (λk hk=>by
   simp only[P1]at hk;exact qb _ _ _ (dk hk)) h3 (by
   have:∀(l:List Obj) (i:Nat),jp [key] l=false->jp [key] (upd l i .none)=false:=by
    intro l
    induction l with
    |nil=>intro i h;exact h
    |cons o l ih=>
     intro i h;cases i with
     |zero=>cases o<;>simp_all[jp,upd]
     |succ i=>cases o<;>simp_all[jp,upd]
   grind)
  exact⟨F,a3,h'⟩
 .cases hn:nth .none st.objs k<;>simp_all[au]
structure Frame (mt:List Nat) (s s':St):Prop where
 lt:s'.tmps.length=s.tmps.length
 lo:s'.objs.length=s.objs.length
 tmps:∀t,t∉mt->nth .any s'.tmps t=nth .any s.tmps t
 objs:∀k,k∉s'.dirty->nth .none s'.objs k=nth .none s.objs k
 dirty:∀k,k∈s.dirty->k∈s'.dirty
theorem Frame.refl(mt:List Nat)(s:St):Frame mt s s:=⟨rfl,rfl,λ_ _=>rfl,λ_ _=>rfl,λ_ h=>h⟩
theorem Frame.trans{m m':List Nat}{s s' s'':St}(h:Frame m s s')(h':Frame m' s' s''):Frame (m++m') s s'':=
 ⟨h'.lt.trans h.lt,h'.lo.trans h.lo,λt ht=>by
  simp only[Ls,not_or]at ht;rw[h'.tmps t ht.2,h.tmps t ht.1],λk hk=>by rw[h'.objs k hk,h.objs k λhk'=>hk (h'.dirty k hk')],λk hk=>h'.dirty k (h.dirty k hk)⟩
theorem Frame.mono{m m':List Nat}{s s':St}(h:Frame m s s')(hm:∀t∈m,t∈m'):Frame m' s s':=
 ⟨h.lt,h.lo,λt ht=>h.tmps t λh'=>ht (hm t h'),h.objs,h.dirty⟩
theorem Frame.trans'{m:List Nat}{s s' s'':St}(h:Frame m s s')(h':Frame m s' s''):Frame m s s'':=(h.trans h').mono λt ht=>by grind
theorem vh:∀(l:List Nat) (tmps:List V),(Q6 tmps l).length=tmps.length
 |[],_=>rfl
 |s::r,tmps=>by simp only[Q6];rw[vh r,qi]
theorem vi{t:Nat}:∀(l:List Nat) (tmps:List V),t∉l->nth .any (Q6 tmps l) t=nth .any tmps t
 |[],_,_=>rfl
 |s::r,tmps,h=>by simp only[Q6];rw[vi r _ λh'=>h (by grind),qb _ _ _ λe=>h (by simp[e])]
theorem X8{t:Nat}:∀(l:List Nat) (tmps:List V),t∈l\/nth .any tmps t= .any->nth .any (Q6 tmps l) t= .any
 |[],_,h=>by rcases h with h|h;exact absurd h (by simp);exact h
 |s::r,tmps,h=>by
  refine X8 r _ ?_
  grind [zn,qG,qb]
theorem wb:∀(l:List Nat) (objs:List Obj),(wL objs l).length=objs.length
 |[],_=>rfl
 |s::r,objs=>by simp only[wL];rw[wb r,qi]
theorem jO{t:Nat}:∀(l:List Nat) (objs:List Obj),t∉l->nth .none (wL objs l) t=nth .none objs t
 |[],_,_=>rfl
 |s::r,objs,h=>by simp only[wL];rw[jO r _ λh'=>h (by grind),qb _ _ _ λe=>h (by simp[e])]
theorem vj{t:Nat}:∀(l:List Nat) (objs:List Obj),t∈l\/nth .none objs t= .none->nth .none (wL objs l) t= .none
 |[],_,h=>by rcases h with h|h;exact absurd h (by simp);exact h
 |s::r,objs,h=>by
  refine vj r _ ?_
  grind [zn,qG,qb]
theorem Bc{α:Type}(d:α){l l':List α}(hl:l.length=l'.length)(h:∀i,nth d l i=nth d l' i):l=l':=by
 apply bm hl;intro i h1 h2;have:=h i
 rwa [qm _ h1,qm _ h2]at this
theorem KL(l:List Nat):∀(i:Nat) (tmps:List V),(yB l i tmps).length=tmps.length
 |_,[]=>rfl
 |i,v::r=>by simp[yB,KL l (i+1) r]
theorem KM(l:List Nat):∀(i:Nat) (tmps:List V) (t:Nat),nth .any (yB l i tmps) t=if i+t∈l then .any else nth .any tmps t
 |_,[],_=>by simp[yB,nth]
 |i,v::r,0=>by
  simp only[yB,nth,cf];split
  .rename_i h;rw[if_pos (zq.1 h)]
  .rename_i h;rw[if_neg λhm=>by rw[zq.2 hm]at h;grind]
 |i,v::r,t+1=>by simp only[yB,nth];rw[KM l (i+1) r t,show i+1+t=i+(t+1)by omega]
theorem VJ(tmps:List V)(l:List Nat):Kv tmps l=Q6 tmps l:=by
 refine Bc .any ?_ λt=>?_
 .unfold Kv;rw[KL,vh]
 .unfold Kv;rw[KM,cc];by_cases h:t∈l
  .rw[if_pos h,X8 _ _ (.inl h)]
  .rw[if_neg h,vi _ _ h]
theorem Jm(l:List Nat):∀(i:Nat) (objs:List Obj),(w9 l i objs).length=objs.length
 |_,[]=>rfl
 |i,v::r=>by simp[w9,Jm l (i+1) r]
theorem Jn(l:List Nat):∀(i:Nat) (objs:List Obj) (t:Nat),nth .none (w9 l i objs) t=if i+t∈l then .none else nth .none objs t
 |_,[],_=>by simp[w9,nth]
 |i,v::r,0=>by
  simp only[w9,nth,cf];split
  .rename_i h;rw[if_pos (zq.1 h)]
  .rename_i h;rw[if_neg λhm=>by rw[zq.2 hm]at h;grind]
 |i,v::r,t+1=>by simp only[w9,nth];rw[Jn l (i+1) r t,show i+1+t=i+(t+1)by omega]
theorem KN(objs:List Obj)(l:List Nat):vK objs l=wL objs l:=by
 refine Bc .none ?_ λt=>?_
 .unfold vK;rw[Jm,wb]
 .unfold vK;rw[Jn,cc];by_cases h:t∈l
  .rw[if_pos h,vj _ _ (.inl h)]
  .rw[if_neg h,jO _ _ h]
theorem X9{t:Nat}{l:List Nat}:∀{m:List Nat},t∈Py m l↔t∈m/\t∉l
 |[]=>by simp[Py]
 |x::r=>by
  unfold Py;split
  .rename_i h;have:=zq.1 h;rw[X9]
   grind
  .rename_i h;have hx:x∉l:=λhm=>by rw[zq.2 hm]at h;grind
   simp only[Lr];rw[X9]
   grind
theorem Z7{k:Nat}:∀{ms:List MC} {i:Nat} {st m:St},EP k ms i st=some m->k∈st.dirty->Frame [] st m/\(∀j∈zF ms,j∈m.dirty)/\(J3 C B F0 w0 st a w->J3 C B F0 w0 m a w)
 |[],i,st,m,h,hd=>by simp only[EP,dn]at h;subst h;exact⟨Frame.refl _ _,λk hk=>by simp[zF]at hk,λh=>h⟩
 | .dat z::r,i,st,m,h,hd=>by
  simp only[EP]at h;split at h
  .rename_i cells hk;split at h
   .rename_i hi;obtain⟨h1,h2,h3⟩:=Z7 h (by simp);refine⟨Frame.trans' (s':=⟨st.tmps,upd st.objs k (.box (upd cells i (.c (.sl [])))),k::st.dirty⟩) ⟨rfl,by simp only[qi],λ_ _=>rfl,λj hj=>by
     simp only[Lr,not_or]at hj;exact qb _ _ _ (dk hj.1),λj hj=>by simp[hj]⟩ h1,h2,λhh=>h3 ?_⟩
    obtain⟨F,loc,hh⟩:=hh;exact⟨F,loc,hh.dataM hk hi⟩
   .obtain⟨h1,h2,h3⟩:=Z7 h hd;exact⟨h1,h2,h3⟩
  .simp at h
 | .own key size::r,i,st,m,h,hd=>by
  have hkeys:∀{m:St},key∈m.dirty->(∀k∈zF r,k∈m.dirty)->∀j∈zF (.own key size::r),j∈m.dirty:=λh1 h3 j hj=>by
   simp only[zF,Lr]at hj;rcases hj with rfl|hj
   .exact h1
   .exact h3 j hj
  simp only[EP]at h;split at h
  .rename_i cells hk;split at h
   .rename_i hi;split at h
    .rename_i hg;simp only[Hv,cp]at hg;obtain⟨h1,h2,h3⟩:=Z7 h (by simp);refine⟨Frame.trans' (s':=⟨st.tmps,upd (upd st.objs key (.arr size [] false)) k (.box (upd cells i (.arr key))),key::k::st.dirty⟩) ⟨rfl,by simp only[qi],λ_ _=>rfl,λj hj=>by
      simp only[Lr,not_or]at hj;rw[qb _ _ _ (dk hj.2.1),qb _ _ _ (dk hj.1)],λj hj=>by simp[hj]⟩ h1,hkeys (h1.dirty _ (by simp)) h2,λhh=>h3 ?_⟩
     obtain⟨hlt,hh',hne⟩:=KK hg.1 hh;obtain⟨F,loc,hh'⟩:=hh';have hkk:k≠key:=hne k (by rw[hk];simp) (by rw[hk];simp);have this:=hh'.nilM (k:=k) (key:=key) (sz:=size) (i0:=i) (cells:=cells) (d:=key::k::st.dirty) (by
      show nth .none (upd st.objs key .none) k=_;rw[qb _ _ _ (dk hkk)];exact hk) hi (qc _ _ _ hlt) (by rw[qi];exact hlt) hg.2
     have he:upd (upd st.objs key .none) key (.arr size [] false)=upd st.objs key (.arr size [] false):=by simp[xx]
     simp only[he]at this;exact⟨F,loc,this⟩
    .simp at h
   .rename_i j hi;split at h
    .obtain⟨h1,h2,h3⟩:=Z7 h (by simp);exact⟨Frame.trans' (s':=⟨st.tmps,st.objs,key::k::st.dirty⟩) ⟨rfl,rfl,λ_ _=>rfl,λ_ _=>rfl,λi hi=>by simp[hi]⟩ h1,hkeys (h1.dirty _ (by simp)) h2,λhh=>h3 (xE hh rfl rfl)⟩
    .split at h
     .rename_i sz es hj;split at h
      .rename_i hg;obtain⟨h1,h2,h3⟩:=Z7 h (by simp);refine⟨Frame.trans' (s':=⟨st.tmps,upd (upd (upd st.objs j .dead) key (.arr sz es false)) k (.box (upd cells i (.arr key))),key::j::k::st.dirty⟩) ⟨rfl,by simp only[qi],λ_ _=>rfl,λi hi=>by
        simp only[Lr,not_or]at hi;rw[qb _ _ _ (dk hi.2.2.1),qb _ _ _ (dk hi.1),qb _ _ _ (dk hi.2.1)],λi hi=>by simp[hi]⟩ h1,
        hkeys (h1.dirty _ (by simp)) h2,λhh=>h3 ?_⟩
       obtain⟨hlt,hh',hne⟩:=KK hg hh;obtain⟨F,loc,hh'⟩:=hh';have hkk:k≠key:=hne k (by rw[hk];simp) (by rw[hk];simp);have a4:j≠key:=hne j (by rw[hj];simp) (by rw[hj];simp);obtain⟨a3,this⟩:=hh'.moveM (k:=k) (j:=j) (key:=key) (sz:=sz) (es:=es) (i0:=i) (cells:=cells) (d:=key::j::k::st.dirty) (by
        show nth .none (upd st.objs key .none) k=_;rw[qb _ _ _ (dk hkk)];exact hk) hi (by
        show nth .none (upd st.objs key .none) j=_;rw[qb _ _ _ (dk a4)];exact hj) (qc _ _ _ hlt) (by rw[qi];exact hlt)
       have he:upd (upd (upd st.objs key .none) j .dead) key (.arr sz es false)=upd (upd st.objs j .dead) key (.arr sz es false):=by rw[X2 st.objs key j _ _ (.inl (dk a4))];simp[xx]
       simp only[he]at this;exact⟨F,a3,this⟩
      .simp at h
     grind
   grind
  grind
theorem jW:∀{locs:List Loc} {st m:St},Qw locs st=some m->Frame (qP locs) st m/\(∀k∈xL locs,k∈m.dirty)/\(J3 C B F0 w0 st a w->J3 C B F0 w0 m a w)
 |[],st,m,h=>by simp only[Qw,dn]at h;subst h;exact⟨Frame.refl _ _,λk hk=>by simp[xL]at hk,λh=>h⟩
 | .slot s z::r,st,m,h=>by
  simp only[Qw]at h;split at h
  .rename_i hv;obtain⟨h1,h2,h3⟩:=jW h;refine⟨Frame.trans' (s':=⟨upd st.tmps s (.c (.sl [])),st.objs,st.dirty⟩) ⟨qi _ _ _,rfl,λt ht=>qb _ _ _ λe=>ht (by simp[qP,e]),λ_ _=>rfl,λ_ h=>h⟩ (h1.mono λt ht=>by simp[qP,ht]),h2,λhh=>h3 ?_⟩;obtain⟨F,loc,hh⟩:=hh;exact⟨F,loc,hh.weakT (λx hx=>by
    rw[hv]at hx;have hx:x= .slice none 0 0:=hx;subst hx;exact CD.nil _ _) trivial⟩
  .rename_i k hv;split at h
   .rename_i sz es fz hk;have hlt:k<st.objs.length:=by
     rcases bx k st.objs.length with h1|h1
     .exact h1
     .rw[qG _ h1]at hk;simp at hk
    obtain⟨h1,h2,h3⟩:=jW h;refine⟨Frame.trans' (s':=⟨upd st.tmps s (.c (.sl es)),upd st.objs k (.arr sz es true),k::st.dirty⟩) ⟨qi _ _ _,qi _ _ _,λt ht=>qb _ _ _ λe=>ht (by simp[qP,e]),λj hj=>qb _ _ _ λe=>hj (by simp[e]),λj hj=>by simp[hj]⟩ (h1.mono λt ht=>by simp[qP,ht]),h2,λhh=>h3 ?_⟩;obtain⟨F,loc,hh⟩:=hh;have h4:=hh.freeze1 hk;refine⟨_,loc,h4.weakT (t:=s) (v:= .c (.sl es)) (λx hx=>?_) trivial⟩;have ag:nth .none (upd st.objs k (.arr sz es true)) k= .arr sz es true:=qc _ _ _ hlt;have h0:=h4.objs k;simp only at h0 hx;rw[ag]at h0;rw[hv]at hx;exact H7 ag h0 hx (λ_ h=>h) (λb c hl=> .inr ⟨c,hl⟩)
   .simp at h
  .obtain⟨h1,h2,h3⟩:=jW h;exact⟨h1.mono λt ht=>by simp[qP,ht],h2,h3⟩
 | .box k z::r,st,m,h=>by
  simp only[Qw]at h;split at h
  .rename_i ad hk;split at h
   .rename_i ds hd;obtain⟨h1,h2,h3⟩:=jW h;refine⟨Frame.trans' (s':=⟨st.tmps,upd st.objs k (.box (ds.map V.c)),k::st.dirty⟩) ⟨rfl,qi _ _ _,λ_ _=>rfl,λj hj=>qb _ _ _ λe=>hj (by simp[e]),λj hj=>by simp[hj]⟩ h1,λj hj=>?_,λhh=>h3 ?_⟩
    .simp only[xL,Lr]at hj;rcases hj with rfl|hj
     .exact h1.dirty _ (by simp)
     .exact h2 j hj
    .obtain⟨F,loc,hh⟩:=hh;exact⟨F,loc,hh.boxData hk hd⟩
   .simp at h
  .simp at h
 | .own s key size::r,st,m,h=>by
  simp only[Qw]at h;have a4:∀t,t∈qP r->t∈qP (.own s key size::r):=λt ht=>by simp[qP,ht]
  have a3:∀{m:St},key∈m.dirty->(∀k∈xL r,k∈m.dirty)->∀k∈xL (.own s key size::r),k∈m.dirty:=λh1 h2 k hk=>by
   simp only[xL,Lr]at hk;rcases hk with rfl|hk
   .exact h1
   .exact h2 k hk
  split at h
  .rename_i hv;split at h
   .rename_i hg;simp only[Hv,cp]at hg;obtain⟨h1,h2,h3⟩:=jW h;refine⟨Frame.trans' (s':=⟨upd st.tmps s (.arr key),upd st.objs key (.arr size [] false),key::st.dirty⟩) ⟨qi _ _ _,qi _ _ _,λt ht=>qb _ _ _ λe=>ht (by simp[qP,e]),λj hj=>qb _ _ _ λe=>hj (by simp[e]),λj hj=>by simp[hj]⟩ (h1.mono a4),
     a3 (h1.dirty _ (by simp)) h2,λhh=>h3 ?_⟩
    obtain⟨hlt,a5,_⟩:=KK hg.1 hh;obtain⟨F,loc,a5⟩:=a5;have:=a5.nilOwn (s:=s) (key:=key) (sz:=size) (d:=key::st.dirty) hv (qc _ _ _ hlt) (by rw[qi];exact hlt) hg.2;have he:upd (upd st.objs key .none) key (.arr size [] false)=upd st.objs key (.arr size [] false):=by simp[xx]
    simp only[he]at this;exact⟨F,loc,this⟩
   .simp at h
  .rename_i k hv;split at h
   .obtain⟨h1,h2,h3⟩:=jW h;refine⟨Frame.trans' (s':=⟨st.tmps,st.objs,key::st.dirty⟩) ⟨rfl,rfl,λ_ _=>rfl,λ_ _=>rfl,λj hj=>by simp[hj]⟩ (h1.mono a4),a3 (h1.dirty _ (by simp)) h2,λhh=>h3 (xE hh rfl rfl)⟩
   .split at h
    .rename_i sz es hk;split at h
     .rename_i hg;obtain⟨h1,h2,h3⟩:=jW h;refine⟨Frame.trans' (s':=⟨upd st.tmps s (.arr key),upd (upd st.objs k .dead) key (.arr sz es false),key::k::st.dirty⟩) ⟨qi _ _ _,by simp only[qi],λt ht=>qb _ _ _ λe=>ht (by simp[qP,e]),
       λj hj=>by
        simp only[Lr,not_or]at hj;rw[qb _ _ _ (dk hj.1),qb _ _ _ (dk hj.2.1)],λj hj=>by simp[hj]⟩ (h1.mono a4),a3 (h1.dirty _ (by simp)) h2,λhh=>h3 ?_⟩
      obtain⟨hlt,a5,a9⟩:=KK hg hh;obtain⟨F,loc,a5⟩:=a5;have a7:k≠key:=a9 k (by rw[hk];simp) (by rw[hk];simp);obtain⟨a6,this⟩:=a5.move (s:=s) (k:=k) (key:=key) (sz:=sz) (es:=es) (d:=key::k::st.dirty) hv (by
       show nth .none (upd st.objs key .none) k=_;rw[qb _ _ _ (dk a7)];exact hk) (qc _ _ _ hlt) (by rw[qi];exact hlt)
      have he:upd (upd (upd st.objs key .none) k .dead) key (.arr sz es false)=upd (upd st.objs k .dead) key (.arr sz es false):=by rw[X2 st.objs key k _ _ (.inl (dk a7))];simp[xx]
      simp only[he]at this;exact⟨F,a6,this⟩
     .simp at h
    .simp at h
  .rename_i k off a8 hv;split at h
   .rename_i sz es hk;split at h
    .rename_i hg;obtain⟨h1,h2,h3⟩:=jW h;refine⟨Frame.trans' (s':=⟨upd st.tmps s (.arr key),upd (upd st.objs k .dead) key (.arr sz (es.take a8) false),key::k::st.dirty⟩) ⟨qi _ _ _,by simp only[qi],λt ht=>qb _ _ _ λe=>ht (by simp[qP,e]),
      λj hj=>by
       simp only[Lr,not_or]at hj;rw[qb _ _ _ (dk hj.1),qb _ _ _ (dk hj.2.1)],λj hj=>by simp[hj]⟩ (h1.mono a4),a3 (h1.dirty _ (by simp)) h2,λhh=>h3 ?_⟩
     obtain⟨hlt,a5,a9⟩:=KK hg hh;obtain⟨F,loc,a5⟩:=a5;have a7:k≠key:=a9 k (by rw[hk];simp) (by rw[hk];simp);obtain⟨a6,this⟩:=a5.moveN (s:=s) (k:=k) (key:=key) (sz:=sz) (es:=es) (n:=a8) (d:=key::k::st.dirty) hv (by
      show nth .none (upd st.objs key .none) k=_;rw[qb _ _ _ (dk a7)];exact hk) (qc _ _ _ hlt) (by rw[qi];exact hlt)
     have he:upd (upd (upd st.objs key .none) k .dead) key (.arr sz (es.take a8) false)=upd (upd st.objs k .dead) key (.arr sz (es.take a8) false):=by rw[X2 st.objs key k _ _ (.inl (dk a7))];simp[xx]
     simp only[he]at this;exact⟨F,a6,this⟩
    .simp at h
   .simp at h
  grind
 | .mix k ms::r,st,m,h=>by
  simp only[Qw]at h;split at h
  .rename_i st' hm;obtain⟨g1,g2,g3⟩:=Z7 (C:=C) (B:=B) (F0:=F0) (w0:=w0) (a:=a) (w:=w) hm (by simp);obtain⟨h1,h2,h3⟩:=jW h;refine⟨Frame.trans' (Frame.trans' (s':=⟨st.tmps,st.objs,k::st.dirty⟩) ⟨rfl,rfl,λ_ _=>rfl,λ_ _=>rfl,λi hi=>by simp[hi]⟩ (g1.mono λt ht=>by simp at ht)) h1,λj hj=>?_,λhh=>h3 (g3 (xE hh rfl rfl))⟩;simp only[xL,Lr,Ls]at hj;rcases hj with rfl|hj|hj
   .exact h1.dirty _ (g1.dirty _ (by simp))
   .exact h1.dirty _ (g2 j hj)
   .exact h2 j hj
  .simp at h
structure Norm (mt ms:List Nat) (locs:List Loc) (st m:St):Prop where
 lt:m.tmps.length=st.tmps.length
 lo:m.objs.length=st.objs.length
 tin:∀t,t∈mt->t∉qP locs->nth .any m.tmps t= .any
 tout:∀t,t∉mt->t∉qP locs->nth .any m.tmps t=nth .any st.tmps t
 oin:∀k,k∈ms->nth .none m.objs k= .none
 oout:∀k,k∉m.dirty->nth .none m.objs k=nth .none st.objs k
 dirty:∀k,k∈st.dirty\/k∈xL locs->k∈m.dirty
 ok:zT locs m=true
theorem kd(d d':List Nat)(t:List V)(o:List Obj):∀(locs:List Loc),zT locs ⟨t,o,d⟩=zT locs ⟨t,o,d'⟩
 |[]=>rfl
 | .slot s z::r=>by simp only[zT];rw[kd d d' t o r]
 | .box k z::r=>by simp only[zT];rw[kd d d' t o r]
 | .own s key size::r=>by simp only[zT];rw[kd d d' t o r]
 | .mix k ms::r=>by simp only[zT];rw[kd d d' t o r]
theorem Lz{mt ms:List Nat}{locs:List Loc}{st m:St}(h:norm mt ms locs st=some m):Norm mt ms locs st m/\(J3 C B F0 w0 st a w->J3 C B F0 w0 m a w):=by
 unfold norm at h;simp only[VJ,KN]at h;split at h
 .grind
 .rename_i s1 h1;split at h
  .grind
  .rename_i hc;simp only[Hx,Bool.not_eq_false']at hc;obtain⟨⟨hc1,hc2⟩,hc3⟩:=hc;simp only[dn]at h;subst h;obtain⟨f1,f2,f3⟩:=jW (C:=C) (B:=B) (F0:=F0) (w0:=w0) (a:=a) (w:=w) h1;refine⟨⟨f1.lt.trans (vh _ _),(wb _ _).trans f1.lo,λt ht hs=>?_,λt ht hs=>?_,λk hk=>vj _ _ (.inl hk),λk hk=>?_,λk hk=>?_,by rw[kd _ []];grind⟩,λhh=>?_⟩
   .rw[f1.tmps t hs];exact X8 _ _ (.inl (X9.2 ⟨ht,hs⟩))
   .rw[f1.tmps t hs];exact vi _ _ λh=>ht (X9.1 h).1
   .simp only[Ls,not_or]at hk;rw[jO _ _ hk.1,f1.objs k hk.2]
   .refine M2 _ ?_;rcases hk with hk|hk
    .exact f1.dirty k hk
    grind
   .obtain⟨F,loc,a3⟩:=f3 (VI _ hh);obtain⟨a4,a3⟩:=a3.forgets (ks:=ms) (objs':=wL s1.objs ms) (d:=ms++s1.dirty) (λk hk=>vj _ _ (.inl hk)) (λk hk=>jO _ _ hk) hc1 hc2;exact⟨F,a4,a3⟩
end
end Eng
end
section
namespace Eng
open Go Go.RowKit
theorem YP{α:Type}(d:α){l l':List α}(hl:l.length=l'.length)(h:∀i,nth d l i=nth d l' i):l=l':=by
 apply bm hl;intro i h1 h2;have:=h i
 rwa [qm _ h1,qm _ h2]at this
structure Away (locs:List Loc) (m s1:St):Prop where
 lt:m.tmps.length=s1.tmps.length
 lo:m.objs.length=s1.objs.length
 tmps:∀t,t∉qP locs->nth .any m.tmps t=nth .any s1.tmps t
 objs:∀k,k∉xL locs->nth .none m.objs k=nth .none s1.objs k
theorem xO{α:Type}{d:α}{l:List α}{i:Nat}(h:nth d l i≠d):i<l.length:=by
 grind [bx,qG]
theorem QP{α:Type}(d:α)(pre r:List α)(i:Nat):nth d (pre++r) (pre.length+i)=nth d r i:=by
 grind [qF,Nat.add_sub_cancel_left]
theorem yE:∀{zs:List Value} {cells:List V} {pre r:List D},xm zs cells=true->putCells zs pre.length (pre++(cells.map toC++r))=cells
 |[],[],_,_,_=>rfl
 |z::zs,v::vs,pre,r,h=>by
  simp only[xm,Hv]at h;have hv:V.c (toC v)=v:=by cases v<;>simp_all[isC,toC]
  simp only[putCells,U0,Ts];have h1:=QP D.undef pre (toC v::(vs.map toC++r)) 0;rw[cf]at h1;rw[h1];have h2:=yE (pre:=pre++[toC v]) (r:=r) h.2;simp only[M0,M3,Lv,M1]at h2;rw[h2];simp only[nth,hv]
 |[],_::_,_,_,h=>by simp[xm]at h
 |_::_,[],_,_,h=>by simp[xm]at h
theorem Q8:∀{zs:List Value} {cells:List V},xm zs cells=true->cells.length=zs.length
 |[],[],_=>rfl
 |z::zs,v::vs,h=>by simp only[xm,Hv]at h;simp[Q8 h.2]
 |[],_::_,h=>by simp[xm]at h
 |_::_,[],h=>by simp[xm]at h
theorem YQ{ob:List Obj}:∀{ms:List MC} {cells:List V},wO ms cells ob=true->(Ho ms cells ob).length=ms.length
 |[],[],_=>rfl
 | .dat z::ms,v::vs,h=>by simp only[wO,Hv]at h;simp[Ho,YQ h.2]
 | .own key size::ms,v::vs,h=>by simp only[wO,Hv]at h;simp[Ho,YQ h.2]
 |[],_::_,h=>by simp[wO]at h
 | .dat _::_,[],h=>by simp[wO]at h
 | .own .. ::_,[],h=>by simp[wO]at h
theorem Be{ob1:List Obj}{R:List D}:∀{ms:List MC} {cells:List V} {pre:List D},wO ms cells ob1=true->cE ms pre.length (pre++(Ho ms cells ob1++R))=cells/\
 ∀ob:List Obj,ob.length=ob1.length->(Nm ms pre.length (pre++(Ho ms cells ob1++R)) ob).length=ob1.length/\∀j,nth .none (Nm ms pre.length (pre++(Ho ms cells ob1++R)) ob) j=if j∈zF ms then nth .none ob1 j else nth .none ob j
 |[],[],pre,_=>⟨rfl,λob ho=>⟨ho,λj=>by simp[zF,Nm]⟩⟩
 | .dat z::ms,v::vs,pre,h=>by
  simp only[wO,Hv]at h;have hv:V.c (toC v)=v:=by cases v<;>simp_all[isC,toC]
  have h1:=QP D.undef pre (toC v::(Ho ms vs ob1++R)) 0;rw[cf]at h1;obtain⟨h2,h3⟩:=Be (R:=R) (pre:=pre++[toC v]) h.2;simp only[M0,M3,Lv,M1]at h2 h3;refine⟨?_,?_⟩
  .simp only[cE,Ho,Ts];rw[h1,h2];simp only[nth,hv]
  .simp only[Nm,Ho,Ts,zF];exact h3
 | .own key size::ms,v::vs,pre,h=>by
  simp only[wO,Hv]at h;obtain⟨ho,h⟩:=h;unfold cD at ho;split at ho
  .rename_i a3;split at ho
   .rename_i sz es hk;simp only[Hv]at ho;obtain rfl:=cb ho.1;obtain rfl:=cb ho.2;have hr:Fj a3 ob1= .sl es:=by simp only[Fj,hk]
    have h1:=QP D.undef pre (D.sl es::(Ho ms vs ob1++R)) 0;rw[cf]at h1;obtain⟨h2,h3⟩:=Be (R:=R) (pre:=pre++[D.sl es]) h;simp only[M0,M3,Lv,M1]at h2 h3;have a4:a3<ob1.length:=xO (by rw[hk];simp);refine⟨?_,?_⟩
    .simp only[cE,Ho,Ts,hr];rw[h2]
    .intro ob a5;simp only[Nm,Ho,Ts,hr,h1,nth,toL];obtain⟨h4,h5⟩:=h3 (upd ob a3 (.arr sz es false)) (by rw[qi];exact a5);refine⟨h4,λj=>?_⟩;rw[h5 j];simp only[zF,Lr];by_cases hj:j∈zF ms
     .simp[hj]
     .simp only[hj,if_false,or_false];by_cases hjk:j=a3
      .subst hjk;rw[if_pos rfl,qc _ _ _ (by rw[a5];exact a4),hk]
      .rw[if_neg hjk,qb _ _ _ (dk hjk)]
   grind
  grind
 |[],_::_,_,h=>by simp[wO]at h
 | .dat _::_,[],_,h=>by simp[wO]at h
 | .own .. ::_,[],_,h=>by simp[wO]at h
theorem QQ:∀{locs:List Loc} {pre:List D} {m s1:St},zT locs s1=true->Away locs m s1->(fill locs pre.length (pre++z6 locs s1) m).tmps=s1.tmps/\(fill locs pre.length (pre++z6 locs s1) m).objs=s1.objs
 |[],pre,m,s1,_,h=>⟨YP .any h.lt λi=>h.tmps i (by simp[qP]),YP .none h.lo λi=>h.objs i (by simp[xL])⟩
 | .slot s z::r,pre,m,s1,hn,h=>by
  simp only[zT,Hv]at hn;have hv:V.c (toC (nth .any s1.tmps s))=nth .any s1.tmps s:=by revert hn;cases nth .any s1.tmps s<;>simp[isC,toC]
  have a5:s<s1.tmps.length:=xO (by intro e;rw[e]at hn;simp[isC]at hn);simp only[fill,z6];have h1:=QP D.undef pre (toC (nth .any s1.tmps s)::z6 r s1) 0;rw[cf]at h1;rw[h1];have h2:=QQ (locs:=r) (pre:=pre++[toC (nth .any s1.tmps s)]) (m:=⟨upd m.tmps s (nth .any s1.tmps s),m.objs,m.dirty⟩) (s1:=s1) hn.2 ⟨by simp only[qi];exact h.lt,h.lo,λt ht=>by
   by_cases hst:s=t
   .subst hst;rw[qc _ _ _ (by rw[h.lt];exact a5)]
   .show nth .any (upd m.tmps s _) t=_;rw[qb _ _ _ hst];exact h.tmps t (by simp only[qP,Lr,not_or];exact⟨dk hst,ht⟩),λk hk=>h.objs k hk⟩
  simp only[M0,M3,Lv,M1]at h2;simp only[nth,hv];exact h2
 | .box k zs::r,pre,m,s1,hn,h=>by
  simp only[zT]at hn;split at hn
  .rename_i a3 hk;simp only[Hv]at hn;have a4:k<s1.objs.length:=xO (by rw[hk];simp);simp only[fill,z6,hk];rw[yE hn.1];have h2:=QQ (locs:=r) (pre:=pre++a3.map toC) (m:=⟨m.tmps,upd m.objs k (.box a3),m.dirty⟩) (s1:=s1) hn.2 ⟨h.lt,by simp only[qi];exact h.lo,λt ht=>h.tmps t ht,λj hj=>by
    by_cases hkj:k=j
    .subst hkj;rw[qc _ _ _ (by rw[h.lo];exact a4),hk]
    .show nth .none (upd m.objs k _) j=_;rw[qb _ _ _ hkj];exact h.objs j (by simp only[xL,Lr,not_or];exact⟨dk hkj,hj⟩)⟩
   simp only[M0,W0,Lv,Q8 hn.1]at h2;exact h2
  .simp at hn
 | .own s key size::r,pre,m,s1,hn,h=>by
  simp only[zT]at hn;split at hn
  .rename_i k hv;split at hn
   .rename_i sz es hk;simp only[Hv]at hn;obtain rfl:=cb hn.1.1;obtain rfl:=cb hn.1.2;have a4:k<s1.objs.length:=xO (by rw[hk];simp);have a5:s<s1.tmps.length:=xO (by rw[hv];simp);simp only[fill,z6,hk];have h1:=QP D.undef pre (D.sl es::z6 r s1) 0;rw[cf]at h1;rw[h1];have h2:=QQ (locs:=r) (pre:=pre++[D.sl es]) (m:=⟨upd m.tmps s (.arr k),upd m.objs k (.arr sz es false),m.dirty⟩) (s1:=s1) hn.2 ⟨by simp only[qi];exact h.lt,by simp only[qi];exact h.lo,λt ht=>by
     by_cases hst:s=t
     .subst hst;rw[qc _ _ _ (by rw[h.lt];exact a5),hv]
     .show nth .any (upd m.tmps s _) t=_;rw[qb _ _ _ hst];exact h.tmps t (by simp only[qP,Lr,not_or];exact⟨dk hst,ht⟩),λj hj=>by
     by_cases hkj:k=j
     .subst hkj;rw[qc _ _ _ (by rw[h.lo];exact a4),hk]
     .show nth .none (upd m.objs k _) j=_;rw[qb _ _ _ hkj];exact h.objs j (by simp only[xL,Lr,not_or];exact⟨dk hkj,hj⟩)⟩
    simp only[M0,M3,Lv,M1]at h2;simp only[nth,toL];exact h2
   grind
  grind
 | .mix k ms::r,pre,m,s1,hn,h=>by
  simp only[zT]at hn;split at hn
  .rename_i a3 hk;simp only[Hv]at hn;have a4:k<s1.objs.length:=xO (by rw[hk];simp);obtain⟨g1,g2⟩:=Be (R:=z6 r s1) (pre:=pre) hn.1;obtain⟨g3,g4⟩:=g2 m.objs h.lo;simp only[fill,z6,hk];rw[g1];have h2:=QQ (locs:=r) (pre:=pre++Ho ms a3 s1.objs) (m:=⟨m.tmps,upd (Nm ms pre.length (pre++(Ho ms a3 s1.objs++z6 r s1)) m.objs) k (.box a3),m.dirty⟩) (s1:=s1) hn.2 ⟨h.lt,by simp only[qi];exact g3,λt ht=>h.tmps t ht,λi hi=>by
    by_cases hki:k=i
    .subst hki;rw[qc _ _ _ (by rw[g3];exact a4),hk]
    .show nth Obj.none (upd _ k _) i=_;rw[qb _ _ _ hki,g4 i];by_cases hm:i∈zF ms
     .rw[if_pos hm]
     .rw[if_neg hm];exact h.objs i (by simp only[xL,Lr,Ls,not_or];exact⟨dk hki,hm,hi⟩)⟩
   simp only[M0,YQ hn.1,Lv]at h2;exact h2
  .simp at hn
def TypedL:List Value->List D->Prop
 |[],us=>us=[]
 |z::zs,us=>∃d r,us=d::r/\km z d=true/\TypedL zs r
theorem Qg{v:Value}{b:Bool}{d:D}(hv:v= .bool b)(h:km v d=true):∃x,d= .bool x:=by
 subst hv;cases d<;>simp[km,isB]at h;grind
theorem N2{v:Value}{a:Option Addr}{n c:Nat}{d:D}(hv:v= .slice a n c)(h:km v d=true):∃x,d= .sl x:=by
 subst hv;cases d<;>simp[km,isL]at h;grind
theorem xH{z r:List Value}{us:List D}(h:Fa z=some r)(ht:TypedL z us):∃(x:R4) (ds:List D),us=rk x ds/\TypedL r ds:=by
 obtain⟨b,o,n,c,b',o',n',c',rfl⟩:=SP h;obtain⟨d1,r1,rfl,h1,d2,r2,rfl,h2,d3,r3,rfl,h3,d4,r4,rfl,h4,h5⟩:=ht;obtain⟨x1,rfl⟩:=Qg rfl h1;obtain⟨x2,rfl⟩:=N2 rfl h2;obtain⟨x3,rfl⟩:=Qg rfl h3;obtain⟨x4,rfl⟩:=N2 rfl h4;exact⟨⟨x1,x2,x3,x4⟩,r4,rfl,h5⟩
theorem qV{n:Nat}{z r:List Value}(h:yA (n+1) z=some r):∃q,Fa z=some q/\yA n q=some r:=by
 simp only[yA]at h
 grind
theorem QR{z r:List Value}{us:List D}(h:yA 5 z=some r)(ht:TypedL z us):∃(x:P20) (ds:List D),us=pk x ds/\TypedL r ds:=by
 obtain⟨q1,e1,h⟩:=qV h;obtain⟨q2,e2,h⟩:=qV h;obtain⟨q3,e3,h⟩:=qV h;obtain⟨q4,e4,h⟩:=qV h;obtain⟨q5,e5,h⟩:=qV h;simp only[yA,dn]at h;subst h;obtain⟨x1,d1,rfl,t1⟩:=xH e1 ht;obtain⟨x2,d2,rfl,t2⟩:=xH e2 t1;obtain⟨x3,d3,rfl,t3⟩:=xH e3 t2;obtain⟨x4,d4,rfl,t4⟩:=xH e4 t3;obtain⟨x5,d5,rfl,t5⟩:=xH e5 t4;exact⟨⟨x1,x2,x3,x4,x5⟩,d5,rfl,t5⟩
theorem L0{z r:List Value}{us:List D}(h:Px z=some r)(ht:TypedL z us):∃(x:C66) (ds:List D),us=ck x ds/\TypedL r ds:=by
 unfold Px at h;split at h
 .rename_i b q;split at h
  .rename_i b' q' hq;obtain⟨d0,us0,rfl,t0,ht0⟩:=ht;obtain⟨a,rfl⟩:=Qg rfl t0;obtain⟨q1,e1,hq⟩:=qV hq;obtain⟨q2,e2,hq⟩:=qV hq;obtain⟨q3,e3,hq⟩:=qV hq;obtain⟨q4,e4,hq⟩:=qV hq;obtain⟨q5,e5,hq⟩:=qV hq;obtain⟨q6,e6,hq⟩:=qV hq;simp only[yA,dn]at hq;subst hq;obtain⟨x1,d1,rfl,t1⟩:=xH e1 ht0;obtain⟨x2,d2,rfl,t2⟩:=xH e2 t1;obtain⟨x3,d3,rfl,t3⟩:=xH e3 t2;obtain⟨x4,d4,rfl,t4⟩:=xH e4 t3;obtain⟨x5,d5,rfl,t5⟩:=xH e5 t4;obtain⟨x6,d6,rfl,t6⟩:=xH e6 t5;obtain⟨d7,us7,rfl,t7,ht7⟩:=t6;obtain⟨w,rfl⟩:=Qg rfl t7;have hs:∃s,yA 5 q'=some s/\yA 5 s=some r:=by obtain⟨q1,f1,h⟩:=qV h;obtain⟨q2,f2,h⟩:=qV h;obtain⟨q3,f3,h⟩:=qV h;obtain⟨q4,f4,h⟩:=qV h;obtain⟨q5,f5,h⟩:=qV h;exact⟨q5,by simp only[yA,f1,f2,f3,f4,f5],h⟩
   obtain⟨s,hs1,hs2⟩:=hs;obtain⟨p,d8,rfl,t8⟩:=QR hs1 ht7;obtain⟨p',d9,rfl,t9⟩:=QR hs2 t8;exact⟨⟨a,x1,x2,x3,x4,x5,x6,w,p,p'⟩,d9,rfl,t9⟩
  grind
 grind
theorem ky:∀{g:Bool} {n:Nat} {zs:List Value} {us:List D} {K:List D->Prop},SE g n zs K->TypedL zs us->K us
 |_,0,_,_,_,h,_=>h.elim
 |_,_+1,[],us,K,h,ht=>by have ht:us=[]:=ht;subst ht;exact h
 |g,n+1,z::zs,us,K,h,ht=>by
  simp only[SE]at h;split at h
  .rename_i q hq;obtain⟨x,ds,rfl,h2⟩:=L0 hq ht;exact ky (K:=λus=>K (ck x us)) (h x) h2
  split at h
  .rename_i q hq;obtain⟨x,ds,rfl,h2⟩:=QR hq ht;exact ky (K:=λus=>K (pk x us)) (h x) h2
  split at h
  .rename_i q hq;have hq:Fa (z::zs)=some q:=by
    split at hq
    .exact hq
    .simp at hq
   obtain⟨x,ds,rfl,h2⟩:=xH hq ht;exact ky (K:=λus=>K (rk x us)) (h x) h2
  obtain⟨d,r,rfl,h1,h2⟩:=ht;cases z with
  |int k n=>
   cases d<;>simp only[km,isI,HZ]at h1;have h1:=of_decide_eq_true h1;subst h1;exact ky (K:=λus=>K (_::us)) (h _) h2
  |bool b=>
   cases d<;>simp only[km,isB,HZ]at h1;exact ky (K:=λus=>K (_::us)) (h _) h2
  |string b=>
   cases d<;>simp only[km,isS,HZ]at h1;exact ky (K:=λus=>K (_::us)) (h _) h2
  |slice b l c=>
   cases d<;>simp only[km,isL,HZ]at h1;exact ky (K:=λus=>K (_::us)) (h _) h2
  |_=>exact ky (K:=λus=>K (d::us)) (h d) h2
theorem N3{zs:List Value}{us:List D}{K:List D->Prop}(h:pi zs K)(ht:TypedL zs us):K us:=ky h ht
theorem TypedL.append:∀{zs zs':List Value} {us us':List D},TypedL zs us->TypedL zs' us'->TypedL (zs++zs') (us++us')
 |[],zs',us,us',h,h'=>by
  have h:us=[]:=h
  grind
 |z::zs,zs',us,us',h,h'=>by obtain⟨d,r,rfl,h1,h2⟩:=h;exact⟨d,r++us',rfl,h1,h2.append h'⟩
theorem yu:∀{zs:List Value} {cells:List V},xm zs cells=true->TypedL zs (cells.map toC)
 |[],[],_=>rfl
 |z::zs,v::vs,h=>by simp only[xm,Hv]at h;exact⟨_,_,rfl,h.1.2,yu h.2⟩
 |[],_::_,h=>by simp[xm]at h
 |_::_,[],h=>by simp[xm]at h
theorem KO{ob:List Obj}:∀{ms:List MC} {cells:List V},wO ms cells ob=true->TypedL (zsM ms) (Ho ms cells ob)
 |[],[],_=>rfl
 | .dat z::ms,v::vs,h=>by simp only[wO,Hv]at h;exact⟨_,_,rfl,h.1.2,KO h.2⟩
 | .own key size::ms,v::vs,h=>by
  simp only[wO,Hv]at h;obtain⟨ho,h⟩:=h;unfold cD at ho;split at ho
  .split at ho
   .rename_i hk;refine⟨_,_,rfl,?_,KO h⟩;simp only[Fj,hk];rfl
   grind
  grind
 |[],_::_,h=>by simp[wO]at h
 | .dat _::_,[],h=>by simp[wO]at h
 | .own .. ::_,[],h=>by simp[wO]at h
theorem zJ:∀{locs:List Loc} {m:St},zT locs m=true->TypedL (SF locs) (z6 locs m)
 |[],_,_=>rfl
 | .slot s z::r,m,h=>by simp only[zT,Hv]at h;exact⟨_,_,rfl,h.1.2,zJ h.2⟩
 | .box k zs::r,m,h=>by
  simp only[zT]at h;split at h
  .rename_i cells hk;simp only[Hv]at h;simp only[SF,z6,hk];exact(yu h.1).append (zJ h.2)
  grind
 | .own s key size::r,m,h=>by
  simp only[zT]at h;split at h
  .split at h
   .rename_i hk;simp only[Hv]at h;simp only[SF,z6,hk];exact⟨_,_,rfl,rfl,zJ h.2⟩
   grind
  grind
 | .mix k ms::r,m,h=>by
  simp only[zT]at h;split at h
  .rename_i cells hk;simp only[Hv]at h;simp only[SF,z6,hk];exact(KO h.1).append (zJ h.2)
  grind
theorem YR{us:List D}:∀{ms:List MC} {i:Nat} {ob:List Obj},(Nm ms i us ob).length=ob.length/\∀j,j∉zF ms->nth .none (Nm ms i us ob) j=nth .none ob j
 |[],_,_=>⟨rfl,λ_ _=>rfl⟩
 | .dat z::ms,i,ob=>by simp only[Nm,zF];exact YR
 | .own key size::ms,i,ob=>by simp only[Nm,zF,Lr,not_or];obtain⟨h1,h2⟩:=YR (us:=us) (ms:=ms) (i:=i+1) (ob:=upd ob key (.arr size (toL (nth .undef us i)) false));simp_all[qi,qb,dk]
theorem Qh:∀{locs:List Loc} {i:Nat} {us:List D} {m:St},(fill locs i us m).tmps.length=m.tmps.length/\(fill locs i us m).objs.length=m.objs.length/\(fill locs i us m).dirty=m.dirty/\
 (∀t,t∉qP locs->nth .any (fill locs i us m).tmps t=nth .any m.tmps t)/\(∀k,k∉xL locs->nth .none (fill locs i us m).objs k=nth .none m.objs k)
 |[],_,_,_=>⟨rfl,rfl,rfl,λ_ _=>rfl,λ_ _=>rfl⟩
 | .slot s z::r,i,us,m=>by obtain⟨h1,h2,h3,h4,h5⟩:=Qh (locs:=r) (i:=i+1) (us:=us) (m:=⟨upd m.tmps s (.c (nth .undef us i)),m.objs,m.dirty⟩);refine⟨by simp only[fill];rw[h1];exact qi _ _ _,h2,h3,λt ht=>?_,h5⟩;simp only[qP,Lr,not_or]at ht;simp only[fill];rw[h4 t ht.2];exact qb _ _ _ (dk ht.1)
 | .box k zs::r,i,us,m=>by obtain⟨h1,h2,h3,h4,h5⟩:=Qh (locs:=r) (i:=i+zs.length) (us:=us) (m:=⟨m.tmps,upd m.objs k (.box (putCells zs i us)),m.dirty⟩);refine⟨h1,by simp only[fill];rw[h2];exact qi _ _ _,h3,h4,λt ht=>?_⟩;simp only[xL,Lr,not_or]at ht;simp only[fill];rw[h5 t ht.2];exact qb _ _ _ (dk ht.1)
 | .own s key size::r,i,us,m=>by
  obtain⟨h1,h2,h3,h4,h5⟩:=Qh (locs:=r) (i:=i+1) (us:=us) (m:=⟨upd m.tmps s (.arr key),upd m.objs key (.arr size (toL (nth .undef us i)) false),m.dirty⟩);refine⟨by simp only[fill];rw[h1];exact qi _ _ _,by simp only[fill];rw[h2];exact qi _ _ _,h3,λt ht=>?_,λt ht=>?_⟩
  .simp only[qP,Lr,not_or]at ht;simp only[fill];rw[h4 t ht.2];exact qb _ _ _ (dk ht.1)
  .simp only[xL,Lr,not_or]at ht;simp only[fill];rw[h5 t ht.2];exact qb _ _ _ (dk ht.1)
 | .mix k ms::r,i,us,m=>by obtain⟨g1,g2⟩:=YR (us:=us) (ms:=ms) (i:=i) (ob:=m.objs);obtain⟨h1,h2,h3,h4,h5⟩:=Qh (locs:=r) (i:=i+ms.length) (us:=us) (m:=⟨m.tmps,upd (Nm ms i us m.objs) k (.box (cE ms i us)),m.dirty⟩);refine⟨h1,by simp only[fill];rw[h2];simp only[qi];exact g1,h3,h4,λt ht=>?_⟩;simp only[xL,Lr,Ls,not_or]at ht;simp only[fill];simp_all[qb,dk]
theorem HU{a l:List Nat}(h:H6 a l=true):∀k∈a,k∈l:=by
 induction a with
 |nil=>grind
 |cons x r ih=>
  simp only[H6,Hv]at h;intro k hk;rcases Lr.1 hk with rfl|hk
  .exact zq.1 h.1
  grind
theorem pu{p:Nat->Prop}(h:∃n,p n):∃n,p n/\∀m,p m->n<=m:=by
 obtain⟨n,hn⟩:=h
 induction n using c3 with
 |_ n ih=>
  grind
open Classical in
noncomputable def wQ (p:Nat->Prop):Nat:=if h:∃n,p n then Classical.choose (pu h)else 0
theorem VK{p:Nat->Prop}(h:∃n,p n):p (wQ p):=by unfold wQ;grind
theorem VL{p:Nat->Prop}{m:Nat}(h:p m):wQ p<=m:=by unfold wQ;rw[dif_pos ⟨m,h⟩];grind
section
variable {C:Cx}{B:Bd}{F0:Nat->Prop}{w0:World}{anns:Nat->Ann}
def XM:X->Exit->Prop
 | .normal,e=>e= .normal
 | .exit i,e=>e= .exit i
 | .ret,e=>e= .ret
def pw (C:Cx) (B:Bd) (F0:Nat->Prop) (w0:World) (mt:List Nat) (Q:X->St->Prop) (st:St) (e:Exit) (a:Act) (w:World):Prop:=
 ∃x s',XM x e/\Q x s'/\Frame mt st s'/\J3 C B F0 w0 s' a w
theorem YS{t:Nat}{o:Oper}:∀{l:List Oper},o∈l->o.dst=some t->t∈SD l
 |[],h,_=>by grind
 |p::r,h,hd=>by
  simp only[SD];rcases Lr.1 h with rfl|h
  .grind
  .have:=YS h hd
   grind
theorem wc:∀{us:List (Nat×Obj)} {l:List Nat} {k:Nat},k∈w8 us l↔k∈l\/∃p∈us,p.1=k
 |[],l,k=>by simp[w8]
 |(j,o)::r,l,k=>by
  simp only[w8,Lr];rw[wc]
  grind
theorem Frame.put{mt:List Nat}{s:St}{dst:Option Nat}{v:V}{up:List (Nat×Obj)}(h:∀t,dst=some t->t∈mt):Frame mt s (s.put dst v up):=by
 refine⟨?_,vS _ _,λt ht=>?_,λk hk=>?_,λk hk=>wc.2 (.inl hk)⟩
 .simp only[J4];grind [qi]
 .simp only[J4];grind [qb]
 .exact jg _ _ λp hp e=>hk (wc.2 (.inr ⟨p,hp,e⟩))
theorem HW{Gv:Nat->List A->List A->Prop}{ops:Array Oper}:∀(l:List Oper) (k:Nat) (s:St) (K:St->Prop),(∀j,l[j]? =ops[k+j]?)->wpL C Gv ops l s K->∃rc s',Tr C Gv ops rc (V1 k l.length) s s'/\K s'/\Frame (SD ops.toList) s s'
 |[],_,s,_,_,h=>⟨λ_=>([],[]),s,⟨rfl,rfl⟩,h,Frame.refl _ _⟩
 |o::l,k,s,K,hk,h=>by
  have h0:ops[k]? =some o:=by simpa using(hk 0).symm
  obtain⟨v,up,h1,h2⟩:=HR h;obtain⟨rc,s',h3,h4,h5⟩:=HW l (k+1) _ K (λj=>by have:=hk (j+1);grind) h2;refine⟨λi=>if i=k then(opk o (ev s) s.objs,up.map (·.1))else rc i,s',?_,h4,Frame.trans' (Frame.put λt ht=>YS (o:=o) ?_ ht) h5⟩
  .refine⟨o,h0,v,up,h1,?_,h3.recs λi hi=>?_⟩
   .simp only[if_pos];exact⟨λ_ _ h=>h,λp hp=>Sz.2 ⟨p,hp,rfl⟩⟩
   grind
  grind
theorem VM{Gv:Nat->List A->List A->Prop}{ops:Array Oper}:∀(l:List Oper) (k:Nat) (s:St) (acc:List Rec) (K:St->List Rec->Prop),(∀j,l[j]? =ops[k+j]?)->acc.length=k->oi C Gv ops l s acc K->
 ∃R s',Tr C Gv ops (λi=>nth ([],[]) (acc++R) i) (V1 k l.length) s s'/\K s' (acc++R)/\Frame (SD ops.toList) s s'
 |[],_,s,acc,_,_,_,h=>⟨[],s,⟨rfl,rfl⟩,by rw[bv];exact h,Frame.refl _ _⟩
 |o::l,k,s,acc,K,hk,hacc,h=>by
  have h0:ops[k]? =some o:=by simpa using(hk 0).symm
  obtain⟨v,up,h1,h2⟩:=HR h;obtain⟨R,s',h3,h4,h5⟩:=VM l (k+1) _ _ K (λj=>by have:=hk (j+1);grind) (by simp[hacc]) h2;refine⟨(opk o (ev s) s.objs,w8 up [])::R,s',?_,by rw[Lv]at h4;exact h4,?_⟩
  .rw[List.length_cons,List.range'_succ];refine⟨o,h0,v,up,h1.same rfl rfl,?_,?_⟩
   .have e:nth ([],[]) (acc++(opk o (ev s) s.objs,w8 up [])::R) k=(opk o (ev s) s.objs,w8 up []):=by have:=QP ([],[]) acc ((opk o (ev s) s.objs,w8 up [])::R) 0;rw[cf,hacc]at this;rw[this];rfl
    simp only;rw[e];exact⟨λ_ _ h=>h,λp hp=>wc.2 (.inr ⟨p,hp,rfl⟩)⟩
   .simp only[Lv,M1]at h3;exact h3.same rfl rfl
  .refine Frame.trans' (s':=⟨(s.put o.dst v up).tmps,(s.put o.dst v up).objs,w8 up []++s.dirty⟩) ?_ h5;have hf:=Frame.put (mt:=SD ops.toList) (s:=s) (dst:=o.dst) (v:=v) (up:=up) λt ht=>YS (o:=o) (List.mem_of_getElem? (show ops.toList[k]? =some o by simpa using h0)) ht
   refine⟨hf.lt,hf.lo,hf.tmps,λj hj=>hf.objs j λhj'=>hj ?_,λj hj=>M2 _ hj⟩;rcases wc.1 hj' with h|h
   .exact M2 _ h
   .exact be _ (wc.2 (.inr h))
theorem HX[EffOk C]{id:Nat}{ops:Array Oper}{d:Bool}{Q:X->St->Prop}{s:St}{a:Act}{w:World}(hm:C.P.follows .mixedOrders=true)(hd:d=true->Xs C ops.toList=true)(h:wpL C (qa C) ops ops.toList s (Q .normal))(hh:J3 C B F0 w0 s a w):
 (J7 id ops d).wp C.P (pw C B F0 w0 (SD ops.toList) Q s) a w:=by
 obtain⟨rc,s',h1,h2,h3⟩:=HW ops.toList 0 s _ (by simp) h;rw[<-T1]at h1;exact X6 hm (λh=>KH rc (hd h)) h1 hh λa w hw=>⟨.normal,s',rfl,h2,h3,hw⟩
theorem PE[EffOk C]{id:Nat}{ops:Array Oper}{d:Bool}{Q:X->St->Prop}{s:St}{a:Act}{w:World}(hm:C.P.follows .mixedOrders=true)(h:oi C (qa C) ops ops.toList s [] λs rs=>cnd (Xu C ops.toList rs) (Q .normal s))(hh:J3 C B F0 w0 s a w):
 (J7 id ops d).wp C.P (pw C B F0 w0 (SD ops.toList) Q s) a w:=by
 obtain⟨R,s',h1,h2,h3⟩:=VM ops.toList 0 s [] _ (by simp) rfl h;rw[<-T1]at h1;unfold cnd at h2;split at h2
 .rename_i hr;exact X6 hm (λ_=>Jl hr) h1 hh λa w hw=>⟨.normal,s',rfl,h2,h3,hw⟩
 grind
theorem Bf[EffOk C](hm:C.P.follows .mixedOrders=true):∀(c:Code) (n:Nat) (Q:X->St->Prop) (s:St) (a:Act) (w:World),wpC C (qa C) anns n c Q s->J3 C B F0 w0 s a w->
 c.wp C.P (pw C B F0 w0 (kZ anns n c) Q s) a w:=by
 intro c
 induction c with
 |skip=>intro n Q s a w h hh;exact wp_skip ⟨.normal,s,rfl,h,Frame.refl _ _,hh⟩
 |region id ops d=>
  intro n Q s a w h hh;simp only[wpC,Lf]at h;cases d with
  |false=>exact HX hm (by simp) h hh
  |true=>
   dsimp only at h
   split at h
   .rename_i hr;exact HX hm (λ_=>hr) h hh
   .exact PE hm h hh
 |seq x y ihx ihy=>
  intro n Q s a w h hh;simp only[wpC,Lf,VJ,KN]at h;split at h
  .rename_i hj;refine wp_seq (J5 (λe a' w' hp=>?_) (ihx n _ s a w h hh));obtain⟨z,s',hz,hq,hf,a3⟩:=hp;cases z with
   |normal=>
    have hz:e= .normal:=hz;subst hz;refine J5 (λe a' w' hp=>?_) (ihy _ _ s' a' w' hq a3);obtain⟨z,ba,hz,hq,al,b2⟩:=hp;exact⟨z,ba,hz,hq,(hf.trans al).mono λt ht=>by
     simp only[kZ,Ls]at ht ⊢;rcases ht with ht|ht
     .exact .inl ht
     .exact .inr (.inl ht),b2⟩
   |exit i=>have hz:e= .exit i:=hz;subst hz;exact⟨.exit i,s',rfl,hq,hf.mono λt ht=>by simp[kZ,ht],a3⟩
   |ret=>have hz:e= .ret:=hz;subst hz;exact⟨.ret,s',rfl,hq,hf.mono λt ht=>by simp[kZ,ht],a3⟩
  .rename_i J hj;have hjs:Kx anns y=qP J.locs:=by unfold Kx;rw[hj]
   obtain⟨h1,b1⟩:=h;generalize hlocs:J.locs=locs at *;generalize hmt:kZ anns n x=mt at *;generalize hms:Lb x=ms at *;have hh0:J3 C B F0 w0 ⟨s.tmps,s.objs,[]⟩ a w:=xE hh rfl rfl;have h2:=ihx n _ _ a w h1 hh0;rw[hmt]at h2;refine wp_seq (J5 (λe a' w' hp=>?_) h2);obtain⟨z,s',hz,hq,hf,a3⟩:=hp;have a9:Frame (kZ anns n (.seq x y)) s ⟨s'.tmps,s'.objs,s'.dirty++s.dirty⟩:=by
    refine⟨hf.lt,hf.lo,λt ht=>?_,λk hk=>?_,λk hk=>M2 _ hk⟩
    .simp only[kZ,Ls,not_or]at ht;exact hf.tmps t (by rw[<-hmt];exact ht.1)
    .simp only[Ls,not_or]at hk;exact hf.objs k hk.1
   cases z with
   |normal=>
    have hz:e= .normal:=hz;subst hz;simp only at hq;split at hq
    .exact hq.elim
    rename_i m' a5;obtain⟨a4,a7⟩:=Lz (C:=C) (B:=B) (F0:=F0) (w0:=w0) (a:=a') (w:=w') a5;unfold cnd at hq;split at hq
    .rename_i b9;generalize hm:(⟨Q6 s.tmps (mt++qP locs),wL s.objs (ms++xL locs),ms++(xL locs++s.dirty)⟩:St)=m at *;have ag:m.tmps=Q6 s.tmps (mt++qP locs):=by rw[<-hm]
     have ad:m.objs=wL s.objs (ms++xL locs):=by rw[<-hm]
     have b4:m.dirty=ms++(xL locs++s.dirty):=by rw[<-hm]
     have a6:Away locs m m':=by
      refine⟨?_,?_,λt ht=>?_,λk hk=>?_⟩
      .rw[ag,vh];exact(a4.lt.trans hf.lt).symm
      .rw[ad,wb];exact(a4.lo.trans hf.lo).symm
      .rw[ag];by_cases htm:t∈mt
       .rw[X8 _ _ (.inl (by simp[htm])),a4.tin t htm ht]
       .rw[vi _ _ (by simp[htm,ht]),a4.tout t htm ht,hf.tmps t htm]
      .rw[ad];by_cases hkm:k∈ms
       .rw[vj _ _ (.inl (by simp[hkm])),a4.oin k hkm]
       .have a8:k∉m'.dirty:=λh=>by
         rcases Ls.1 (HU b9 k h)with h|h
         .exact hkm h
         .exact hk h
        rw[jO _ _ (by simp[hkm,hk]),a4.oout k a8,hf.objs k λh=>a8 (a4.dirty k (.inl h))]
     have b3:=QQ (pre:=[]) (m:=m) a4.ok a6;have hb:=N3 b1 (zJ a4.ok) hq;have hS:J3 C B F0 w0 (fill locs 0 (z6 locs m') m) a' w':=xE (a7 a3) b3.1.symm b3.2.symm;obtain⟨q1,q2,q3,q4,q5⟩:=Qh (locs:=locs) (i:=0) (us:=z6 locs m') (m:=m);refine J5 (λe a' w' hp=>?_) (ihy _ _ _ a' w' hb hS);obtain⟨z,ba,hz,hq,al,b2⟩:=hp;refine⟨z,ba,hz,hq,⟨?_,?_,λt ht=>?_,λk hk=>?_,λk hk=>?_⟩,b2⟩
     .rw[al.lt,q1,ag,vh]
     .rw[al.lo,q2,ad,wb]
     .simp only[kZ,Ls,not_or,hjs,hmt]at ht;rw[al.tmps t ht.2.1,q4 t ht.2.2,ag,vi _ _ (by simp[ht.1,ht.2.2])]
     .have a8:k∉(fill locs 0 (z6 locs m') m).dirty:=λh=>hk (al.dirty k h)
      rw[q3,b4]at a8;simp only[Ls,not_or]at a8;rw[al.objs k (λh=>hk h),q5 k a8.2.1,ad,jO _ _ (by simp[a8.1,a8.2.1])]
     .refine al.dirty k ?_;rw[q3,b4];simp[hk]
    .exact hq.elim
   |exit i=>have hz:e= .exit i:=hz;subst hz;exact⟨.exit i,_,rfl,hq,a9,xE a3 rfl rfl⟩
   |ret=>have hz:e= .ret:=hz;subst hz;exact⟨.ret,_,rfl,hq,a9,xE a3 rfl rfl⟩
 |cond cd x y ihx ihy=>
  intro n Q s a w h hh;simp only[wpC]at h;split at h
  .rename_i d hd;obtain⟨F,bb,hc⟩:=hh;have he:=(xg hc cd).1;rw[hd]at he;cases d with
   |bool b=>
    have hb:a.eval cd= .bool b:=(λ(x:Value) (hx:CD w F (.bool b) x)=>(by cases hx;rfl:x= .bool b)) _ he;refine wp_cond hb ?_;cases b with
    |true=>rw[if_pos rfl];refine J5 (λe a' w' hp=>?_) (ihx n Q s a w h ⟨F,bb,hc⟩);obtain⟨z,s',hz,hq,hf,a3⟩:=hp;exact⟨z,s',hz,hq,hf.mono λt ht=>by simp[kZ,ht],a3⟩
    |false=>rw[if_neg (by simp)];refine J5 (λe a' w' hp=>?_) (ihy _ Q s a w h ⟨F,bb,hc⟩);obtain⟨z,s',hz,hq,hf,a3⟩:=hp;exact⟨z,s',hz,hq,hf.mono λt ht=>by simp[kZ,ht],a3⟩
   |_=>exact h.elim
  .exact h.elim
 |block id x ih=>
  intro n Q s a w h hh;simp only[wpC]at h;refine wp_block (J5 (λe a' w' hp=>?_) (ih n _ s a w h hh));obtain⟨z,s',hz,hq,hf,a3⟩:=hp;cases z with
  |normal=>have hz:e= .normal:=hz;subst hz;exact⟨.normal,s',rfl,hq,hf,a3⟩
  |exit i=>
   have hz:e= .exit i:=hz;subst hz;simp only at hq;unfold Exit.inBlock;split at hq
   .rename_i hi;have:=cb hi;simp only[this,if_true];exact⟨.normal,s',rfl,hq,hf,a3⟩
   .rename_i hi;have:i≠id:=λe=>by subst e;simp at hi
    simp only[this,if_false];exact⟨.exit i,s',rfl,hq,hf,a3⟩
  |ret=>have hz:e= .ret:=hz;subst hz;exact⟨.ret,s',rfl,hq,hf,a3⟩
 |exit id=>intro n Q s a w h hh;exact wp_exit ⟨.exit id,s,rfl,h,Frame.refl _ _,hh⟩
 |ret=>intro n Q s a w h hh;exact wp_ret ⟨.ret,s,rfl,h,Frame.refl _ _,hh⟩
 |loop body ih=>
  intro n Q s a w h hh;simp only[wpC,Lf]at h;split at h
  .exact h.elim
  rename_i m b6;generalize hmt:kZ anns (n+1) body=mt at *;generalize hms:Lb body=ms at *;generalize hlocs:(anns n).locs=locs at *;obtain⟨b8,b1⟩:=h;obtain⟨hM,b7⟩:=Lz (C:=C) (B:=B) (F0:=F0) (w0:=w0) (a:=a) (w:=w) b6;have ap:(fill locs 0 (z6 locs m) ⟨m.tmps,m.objs,[]⟩).tmps=m.tmps/\(fill locs 0 (z6 locs m) ⟨m.tmps,m.objs,[]⟩).objs=m.objs:=
   QQ (pre:=[]) (m:=⟨m.tmps,m.objs,[]⟩) hM.ok ⟨rfl,rfl,λ_ _=>rfl,λ_ _=>rfl⟩
  let S:List D->St:=λus=>fill locs 0 us ⟨m.tmps,m.objs,[]⟩
  let p:Act->World->Nat->Prop:=λa w k=>∃us,TypedL (SF locs) us/\(anns n).inv (z6 (anns n).gh m) us/\J3 C B F0 w0 (S us) a w/\(anns n).meas us=k
  have h0:∃k,p a w k:=⟨_,z6 locs m,zJ hM.ok,b8,xE (b7 hh) ap.1.symm ap.2.symm,rfl⟩;refine wp_loop (λa w=>∃k,p a w k) (λa w=>wQ (p a w)) h0 λa1 w1 h1=>?_
  obtain⟨us,hty,hiv,hs,hme⟩:=VK h1;have hb:=N3 b1 hty hiv;refine J5 (λe a' w' hp=>?_) (ih (n+1) _ (S us) a1 w1 hb hs);rw[hmt]at hp;obtain⟨z,s',hz,hq,hf,a3⟩:=hp;obtain⟨q1,q2,q3,q4,q5⟩:=Qh (locs:=locs) (i:=0) (us:=us) (m:=⟨m.tmps,m.objs,[]⟩)
  --the frame from the loop's start to an end that leaves it
  have a9:Frame (qP locs++mt) s ⟨s'.tmps,s'.objs,s'.dirty++m.dirty⟩:=by
   refine⟨hf.lt.trans (q1.trans hM.lt),hf.lo.trans (q2.trans hM.lo),λt ht=>?_,λk hk=>?_,λk hk=>M2 _ (hM.dirty k (.inl hk))⟩
   .simp only[Ls,not_or]at ht;show nth .any s'.tmps t=_;rw[hf.tmps t ht.2,q4 t ht.1];exact hM.tout t ht.2 ht.1
   .simp only[Ls,not_or]at hk;show nth .none s'.objs k=_;rw[hf.objs k hk.1,q5 k λh=>hk.2 (hM.dirty k (.inr h))];exact hM.oout k hk.2
  cases z with
  |normal=>
   have hz:e= .normal:=hz;subst hz;simp only at hq;split at hq
   .exact hq.elim
   rename_i m' a5;obtain⟨a4,a7⟩:=Lz (C:=C) (B:=B) (F0:=F0) (w0:=w0) (a:=a') (w:=w') a5;unfold cnd at hq;split at hq
   .rename_i b9;obtain⟨hi',hm'⟩:=hq;have a6:Away locs ⟨m.tmps,m.objs,[]⟩ m':=by
     refine⟨(a4.lt.trans (hf.lt.trans q1)).symm,(a4.lo.trans (hf.lo.trans q2)).symm,λt ht=>?_,λk hk=>?_⟩
     .show nth .any m.tmps t=_;by_cases htm:t∈mt
      .rw[hM.tin t htm ht,a4.tin t htm ht]
      .rw[a4.tout t htm ht,hf.tmps t htm,q4 t ht]
     .show nth .none m.objs k=_;by_cases hkm:k∈ms
      .rw[hM.oin k hkm,a4.oin k hkm]
      .have a8:k∉m'.dirty:=λh=>by
        rcases Ls.1 (HU b9 k h)with h|h
        .exact hkm h
        .exact hk h
       rw[a4.oout k a8,hf.objs k λh=>a8 (a4.dirty k (.inl h)),q5 k hk]
    have b3:=QQ (pre:=[]) (m:=⟨m.tmps,m.objs,[]⟩) a4.ok a6;have b5:p a' w' ((anns n).meas (z6 locs m')):=⟨z6 locs m',zJ a4.ok,hi',xE (a7 a3) b3.1.symm b3.2.symm,rfl⟩;refine⟨⟨_,b5⟩,?_⟩;have h3:=VL b5;show wQ (p a' w')<wQ (p a1 w1);omega
   .exact hq.elim
  |exit i=>have hz:e= .exit i:=hz;subst hz;exact⟨.exit i,_,rfl,hq,by rw[kZ,hlocs,hmt];exact a9,xE a3 rfl rfl⟩
  |ret=>have hz:e= .ret:=hz;subst hz;exact⟨.ret,_,rfl,hq,by rw[kZ,hlocs,hmt];exact a9,xE a3 rfl rfl⟩
 |_=>intro n Q s a w h hh;exact h.elim
end
end Eng
end
section
namespace Eng
open Go Go.RowKit
section
variable {C:Cx}
def Bg (F0:Nat->Prop) (B:Bd) (w:World):Nat->Prop:=λb=>F0 b\/(Own B b/\b<w.heap.size)
def ik (tmps:Array Value) (r:ResultVar):Sem Value:=
 match r with
 | .tmp t=>pure (tmps.getD t undef)
 | .cell x t=>do loadVar t (<-asAddr (tmps.getD x undef))
theorem li{F0:Nat->Prop}{w0:World}{B:Bd}{F:Nat->Prop}{loc:Where}{st:St}{a:Act}{w:World}(h:Conc C B F0 w0 F loc st a w){v:V}{x:Value}{r:A}(hr:toR st.objs v=some r)(hv:CV loc st.objs w F v x):CA w (Bg F0 B w) r x:=by
 unfold toR at hr;split at hr
 .rename_i r' us h1;cases hr;exact(aw h h1 hv).2 (Bg F0 B w) (λb hb=>(h.fsub b hb).imp id λh'=>⟨h',h.bound b hb⟩) (λp _ b c hl=> .inr (h.fresh _ _ _ hl))
 .cases hr
theorem YT{F0:Nat->Prop}{w0:World}{B:Bd}{F:Nat->Prop}{loc:Where}{st:St}{a:Act}{w:World}(h:Conc C B F0 w0 F loc st a w):∀{rs:List ResultVar} {as:List A},Lg C st rs=some as->
 ∃vs:List Value,(rs.mapM (ik a.tmps)).run C.P w= .ok vs w/\All2 (CA w (Bg F0 B w)) as vs
 |[],as,hr=>by simp only[Lg,dn]at hr;subst hr;exact⟨[],rfl,trivial⟩
 | .tmp t::r,as,hr=>by
  simp only[Lg]at hr;split at hr
  .rename_i d as' h1 h2;simp only[dn]at hr;subst hr;obtain⟨vs,h3,h4⟩:=YT h h2;refine⟨a.tmps.getD t undef::vs,?_,?_,h4⟩
   .rw[W2];simp[h3,ik]
   .have hv:=(wP h t).1;exact li h h1 hv
  .simp at hr
 | .cell x t::r,as,hr=>by
  simp only[Lg]at hr;split at hr
  .rename_i k hv;split at hr
   .rename_i cells z hk hz;split at hr
    .rename_i ds as' hlen hds h2;have hlen:cells.length=z.length:=of_decide_eq_true hlen;obtain⟨vs,h3,h4⟩:=YT h h2;have hx:=(wP h x).1;simp only[Act.eval]at hx;rw[hv]at hx;obtain⟨b,c,hl,hp⟩:=hx _ hk rfl;have hco:=h.objs k;rw[hk]at hco;obtain⟨b',c',cs,t',hl',hnF,hblk,hall,hrefs⟩:=hco;rw[hl]at hl';simp only[dn,dv]at hl';obtain⟨rfl,rfl⟩:=hl';have hl2:=hall.length;have hcell:∀j,j<z.length->w.cell? ⟨b,0+j,none⟩=some (nth undef cs.toList (0+j)):=λj hj=>by rw[cc,xW hblk,qm _ (by omega)];simp at hl2;simp[show j<cs.size by omega]
     have hFF:∀b,F b->Bg F0 B w b:=λb hb=>by
      rcases h.fsub b hb with h'|h'
      .exact .inl h'
      .exact .inr ⟨h',h.bound b hb⟩
     have hcd:All2 (CD w (Bg F0 B w)) ds cs.toList:=(za (loc:=loc) (objs:=st.objs) hds (hall.mono λ_ _ h=>h.1)).mono λ_ _ h=>h.mono hFF λ_ _=>rfl
     have hcs:∀n,n=cs.toList.length->TO (λj=>nth undef cs.toList j) 0 n=cs.toList:=λn hn=>by
      apply YP undef
      .rw[hn];rw[QM]
      .intro i;by_cases hi:i<n
       .rw[JG _ _ _ _ _ hi,cc]
       .rw[qG _ (by rw[QM];omega),qG _ (by omega)]
     have h1:=Qd (P:=C.P) (w:=w) (b:=b) (o:=0) hz (λj=>nth undef cs.toList j) hcell;obtain⟨_,zv,_,_,hzc,_,_,hzt,_⟩:=zO hz;have hpos:y9 C.P t=false->0<z.length:=by intro hf;cases zv<;>simp[hf]at hzt<;>(subst hzc;simp[Value.cells])
     have a3:∀y,(Instr.loadAt t (.pointer (some ⟨b,0,none⟩))).run C.P w= .ok y w->(do loadVar t (<-asAddr (a.tmps.getD x undef)):Sem Value).run C.P w= .ok y w:=λy hy=>by
      have hp':a.tmps.getD x undef= .pointer (some ⟨b,0,none⟩):=hp;rw[hp']
      simpa [Instr.loadAt,Instr.sureAddr,asAddr]using hy
     have hlc:z.length=cs.toList.length:=by rw[<-hlen];exact hl2
     split at hr
     .rename_i ht;simp only[dn]at hr;subst hr;rcases h1 with h1|⟨h1,_⟩
      .rw[ht]at h1;refine⟨.agg cs::vs,?_,⟨cs,rfl,hcd⟩,h4⟩;have h5:=a3 _ h1;rw[hcs _ hlc]at h5;rw[W2];simp only[Sem.run_bind,ik,h5,Result.andThen_ok,h3];rfl
      .rw[ht]at h1;simp at h1
     .rename_i ht;simp only[dn]at hr;subst hr;rcases h1 with h1|⟨_,h1⟩
      .rw[ht]at h1;refine⟨nth undef cs.toList 0::vs,?_,?_,h4⟩
       .have h5:=a3 _ h1;rw[W2];simp only[Sem.run_bind,ik,h5,Result.andThen_ok,h3];rfl
       .have h6:=hpos ht;exact hcd.nth .undef undef _ _ 0 (by have:=hcd.length;omega)
      .have:=hpos ht;omega
    .simp at hr
   .simp at hr
  .simp at hr
theorem F5{w:World}{F:Nat->Prop}{loc:Where}{objs:List Obj}{a:A}{v:Value}(h:CA w F a v):CV loc objs w F (cG a) v:=by
 cases a with
 |ag cs=>exact h
 |c d=>
  cases d with
  |ptr cs=>
   replace h:CD w F (.ptr cs) v:=h;cases h with
   |ptr cs b o vs hF hc hd=>
    refine⟨b,o,cs.length,by simp,by simp,⟨λe he=>by simp at he;rw[he],hF,λj hj=>?_⟩⟩;have hj:j<cs.length:=by simpa using hj
    exact⟨vs j,hc j hj,by simpa using hd j hj⟩
  |_=>exact h
theorem JI{objs:List Obj}(a:A):Ref objs (cG a):=by
 cases a with
 |c d=>cases d<;>trivial
 |ag cs=>trivial
theorem KP{w:World}{F:Nat->Prop}{loc:Where}{objs:List Obj}:∀{args:List A} {vs:List Value},All2 (CA w F) args vs->All2 (CV loc objs w F) (args.map cG) vs
 |[],[],_=>trivial
 |_::_,_::_,h=>⟨F5 h.1,KP h.2⟩
 |[],_::_,h=>h.elim
 |_::_,[],h=>h.elim
theorem XA{α β:Type}{R:α->β->Prop}:∀{as as':List α} {bs bs':List β},All2 R as bs->All2 R as' bs'->All2 R (as++as') (bs++bs')
 |[],_,[],_,_,h'=>h'
 |_::_,_,_::_,_,h,h'=>⟨h.1,XA h.2 h'⟩
 |[],_,_::_,_,h,_=>h.elim
 |_::_,_,[],_,h,_=>h.elim
theorem JJ{α β:Type}{R:α->β->Prop}{a:α}{b:β}(h:R a b):∀n,All2 R (W1 n a) (W1 n b)
 |0=>trivial
 |n+1=>⟨h,JJ h n⟩
theorem YU{α:Type}(d:α):∀(n i:Nat),nth d (W1 n d) i=d
 |0,_=>rfl
 |n+1,0=>rfl
 |n+1,i+1=>by simp only[List.replicate_succ,nth];exact YU d n i
theorem XB{n:Nat}{args:List A}{vs:List Value}{w:World}{F:Nat->Prop}(hb:∀b,F b->b<w.heap.size)(hinv:Inv C F w)(hargs:All2 (CA w F) args vs):
 J3 C ⟨w.heap.size,λ_=>False⟩ F w (Q7 n args) {tmps:=vs.toArray++Hu (n-vs.toArray.size) undef,defers:=[]} w:=by
 have a3:=hargs.length;refine⟨F,⟨C.P,λ_=>none,λ_=>0⟩,⟨rfl,BelowX.refl _ _,cH _,rfl,?_,λv hv=>?_,λk=>?_,λ_ _ _ _ _ h=>by simp at h,λ_ _ _ h=>by simp at h,hb,λb h=> .inl h,λ_ h=>h,hinv⟩⟩
 .simp only[Q7,Array.toList_append,Array.toList_replicate,List.size_toArray];rw[a3];exact XA (KP hargs) (JJ trivial _)
 .simp only[Q7,Ls,Sz,List.mem_replicate]at hv;rcases hv with⟨x,_,rfl⟩|⟨_,rfl⟩
  .exact JI x
  .trivial
 .simp only[Q7];rw[YU];rfl
theorem Bh{fn:Func}{w:World}{F:Nat->Prop}{s':St}{a':Act}{w':World}{res:List A}(hh:J3 C ⟨w.heap.size,λ_=>False⟩ F w s' a' w')(has:Lg C s' fn.results.toList=some res):
 a'.defers=[]/\∃v,(results fn a'.tmps).run C.P w'= .ok v w'/\Below w.heap.size w w'/\∃u,Ending.returned v= .returned u/\Pz w' (λb=>F b\/(w.heap.size<=b/\b<w'.heap.size)) res u:=by
 obtain⟨F',loc',a3⟩:=hh;obtain⟨us,h1,h2⟩:=YT a3 has;refine⟨a3.defers,if h:us.toArray.size=1 then us.toArray[0]else .tuple us.toArray,?_,a3.below.toBelow,_,rfl,?_⟩
 .unfold results;rw[Array.mapM_eq_mapM_toList];simp only[Sem.run_bind,map_eq_pure_bind];have h5:∀g:ResultVar->Sem Value,g=ik a'.tmps->(fn.results.toList.mapM g).run C.P w'= .ok us w':=λg hg=>by rw[hg];exact h1
  rw[h5 _ (by funext r;cases r<;>rfl)];rfl
 .have hl:=h2.length;have h2:All2 (CA w' (λb=>F b\/(w.heap.size<=b/\b<w'.heap.size))) res us:=h2.mono λ_ _ h=>h.mono (λb hb=>hb.imp id λhb=>⟨hb.1.elim id False.elim,hb.2⟩) λ_ _=>rfl
  match res,us,h2 with
  |[a],[u],h2=>exact h2.1
  |[],[],h2=>exact⟨#[],rfl,trivial⟩
  |a::b::r,u::v::s,h2=>exact⟨(u::v::s).toArray,by simp,h2⟩
theorem qo[EffOk C]{anns:Nat->Ann}{f:Nat}{fn:Func}{args res:List A}(hm:C.P.follows .mixedOrders=true)(hf:C.P.funcs[f]? =some fn)(h:wpF C (qa C) anns fn args (λr=>r=res)):qa C f args res:=by
 intro w F vs hb a5 a3;unfold wpF at h;split at h
 .exact h.elim
 rename_i c hc;refine calls_of_wp hf hc ?_;refine J5 (λe a' w' hp=>?_) (Bf hm c 0 _ _ _ _ h (XB hb a5 a3));obtain⟨x,s',hx,hq,_,hh⟩:=hp;have a6:∀as,Lg C s' fn.results.toList=some as->as=res->_:=λas a4 he=>Bh (fn:=fn) hh (he▸a4)
 cases x with
 |normal=>
  have hx:e= .normal:=hx;subst hx;simp only at hq;split at hq
  .rename_i as a4;exact a6 as a4 hq
  .exact hq.elim
 |ret=>
  have hx:e= .ret:=hx;subst hx;simp only at hq;split at hq
  .rename_i as a4;exact a6 as a4 hq
  .exact hq.elim
 |exit i=>exact hq.elim
end
end Eng
end
section
namespace Eng
open Go Go.RowKit
def N4 (d m k:Nat):Nat:=match cg k d with
 |true=>m
 |false=>k
def di (d m:Nat):V->V
 | .box k off=> .box (N4 d m k) off
 | .arr k=> .arr (N4 d m k)
 | .elt k i off=> .elt (N4 d m k) i off
 | .sub k off len=> .sub (N4 d m k) off len
 | .arrAt _ _ _ _=> .any
 | .boxAt k g=> .boxAt (N4 d m k) g
 |v=>v
def L1 (d m:Nat):List V->List V
 |[]=>[]
 |v::r=>di d m v::L1 d m r
def YV (d m:Nat):Obj->Obj
 | .box cells=> .box (L1 d m cells)
 | .bld T q=> .bld T (di d m q)
 |o=>o
def PF (d m:Nat):List Obj->List Obj
 |[]=>[]
 |v::r=>YV d m v::PF d m r
def Bi (d:Nat) (st:St):St:=
 match nth .none st.objs d with
 | .none=>st
 |o=>match Nat.blt d st.objs.length with
  |true=>⟨L1 d st.objs.length st.tmps,PF d st.objs.length (upd st.objs d .none)++[YV d st.objs.length o],[]⟩
  |false=>st
def dj:List Nat->St->St
 |[],st=>st
 |d::r,st=>dj r (Bi d st)
theorem Bj(d m k:Nat):N4 d m k=if k=d then m else k:=by
 unfold N4;split
 .simp_all
 .rw[if_neg λe=>by simp_all]
theorem XC(d m:Nat):∀l,L1 d m l=l.map (di d m)
 |[]=>rfl
 |v::r=>by simp only[L1,U0];rw[XC d m r]
theorem YW(d m:Nat):∀l,PF d m l=l.map (YV d m)
 |[]=>rfl
 |v::r=>by simp only[PF,U0];rw[YW d m r]
theorem Bk{α β:Type}(f:α->β)(d:α)(l:List α)(i:Nat):nth (f d) (l.map f) i=f (nth d l i):=by
 rw[qF,qF]
 grind
section
variable {C:Cx}{B:Bd}{F0:Nat->Prop}{w0:World}{F:Nat->Prop}{loc:Where}{st:St}{a:Act}{w:World}
theorem Ref.lt{objs:List Obj}{v:V}(h:Ref objs v):∀k∈qn v,k<objs.length:=by
 intro k hk;cases v<;>simp only[qn,P1,U3]at hk<;>first|(subst hk;exact xO h)|exact xO (h k hk)
theorem Ref.ren{objs objs':List Obj}{d m:Nat}{v:V}(ho:∀k,k<objs.length->nth .none objs' (N4 d m k)=YV d m (nth .none objs k))(hr:Ref objs v):Ref objs' (di d m v):=by
 have hn:∀{o:Obj},o≠ .none->YV d m o≠ .none:=λ{o} h=>by cases o<;>simp_all[YV]
 have key:∀k,nth .none objs k≠ .none->nth .none objs' (N4 d m k)≠ .none:=λk h e=>hn h ((ho k (xO h)).symm.trans e)
 cases v<;>first|exact key _ hr|trivial
theorem CV.ren{loc':Where}{objs objs':List Obj}{d m:Nat}{v:V}{x:Value}(ho:∀k,k<objs.length->nth .none objs' (N4 d m k)=YV d m (nth .none objs k)/\loc' (N4 d m k)=loc k)(hr:Ref objs v)(h:CV loc objs w F v x):CV loc' objs' w F (di d m v) x:=by
 have hl:=hr.lt;cases v with
 |box k off=>
  obtain⟨h1,h2⟩:=ho k (hl k (by simp[qn]));intro o hc a3;rw[h1]at hc;rw[h2];have hb:kl (nth .none objs k)=true:=by rw[<-hc]at a3;revert a3;cases nth .none objs k<;>simp[YV,kl]
  exact h _ rfl hb
 |arr k=>obtain⟨h1,h2⟩:=ho k (hl k (by simp[qn]));intro s es fz hc;rw[h1]at hc;rw[h2];cases hk:nth .none objs k<;>rw[hk]at hc<;>simp only[YV,reduceCtorEq]at hc;exact h _ _ _ (hk.trans hc)
 |elt k i off=>obtain⟨h1,h2⟩:=ho k (hl k (by simp[qn]));intro s es fz hc;rw[h1]at hc;rw[h2];cases hk:nth .none objs k<;>rw[hk]at hc<;>simp only[YV,reduceCtorEq]at hc;exact h _ _ _ (hk.trans hc)
 |sub k off len=>obtain⟨h1,h2⟩:=ho k (hl k (by simp[qn]));intro s es fz hc;rw[h1]at hc;rw[h2];cases hk:nth .none objs k<;>rw[hk]at hc<;>simp only[YV,reduceCtorEq]at hc;exact h _ _ _ (hk.trans hc)
 |arrAt k g c t=>trivial
 |boxAt k g=>
  obtain⟨h1,h2⟩:=ho k (hl k (by simp[qn]));intro o hc a3;rw[h1]at hc;rw[h2];have hb:kl (nth .none objs k)=true:=by rw[<-hc]at a3;revert a3;cases nth .none objs k<;>simp[YV,kl]
  exact h _ rfl hb
 |_=>exact h
theorem vk{α β γ:Type}{R:α->β->Prop}{R':γ->β->Prop}{f:α->γ}:∀{as:List α} {bs:List β},(∀a∈as,∀b,R a b->R' (f a) b)->All2 R as bs->All2 R' (as.map f) bs
 |[],[],_,_=>trivial
 |a::as,b::bs,h,h'=>⟨h a (by simp) b h'.1,vk (λc hc=>h c (by grind)) h'.2⟩
 |[],_::_,_,h=>h.elim
 |_::_,[],_,h=>h.elim
set_option maxHeartbeats 1000000 in
theorem PG{d:Nat}(hh:J3 C B F0 w0 st a w):J3 C B F0 w0 (Bi d st) a w:=by
 unfold Bi;split
 .exact hh
 .rename_i hne;split
  .rename_i hd;rw[cp]at hd;obtain⟨F,a3,h⟩:=hh;generalize hm:st.objs.length=m at *;generalize hobj:PF d m (upd st.objs d .none)++[YV d m (nth .none st.objs d)]=objs'
   let loc':Where:=⟨a3.P,λj=>if j=m then a3 d else if j=d then none else a3 j,λj=>if j=m then a3.ty d else a3.ty j⟩
   have a4:(PF d m (upd st.objs d .none)).length=m:=by rw[YW,W0,qi,hm]
   have a6:∀j,nth .none objs' j=if j=m then YV d m (nth .none st.objs d)else if j=d then .none else YV d m (nth .none st.objs j):=λj=>by
    rw[<-hobj];by_cases h1:j<m
    .rw[if_neg (by omega),qF,W4 (by omega),<-qF,YW];have:=Bk (YV d m) .none (upd st.objs d .none) j;have e:YV d m .none= .none:=rfl;rw[e]at this;rw[this,zn];by_cases h2:j=d
     .subst h2;rw[if_pos ⟨rfl,by omega⟩,if_pos rfl];rfl
     .rw[if_neg λe=>h2 e.1.symm,if_neg h2]
    .by_cases h2:j=m
     .subst h2;rw[if_pos rfl,qF,List.getElem?_append_right (by omega)];simp[a4]
     .rw[if_neg h2,if_neg (by omega),qG _ (by simp[a4];omega),qG _ (by omega)];rfl
   have ho:∀k,k<st.objs.length->nth .none objs' (N4 d m k)=YV d m (nth .none st.objs k)/\loc' (N4 d m k)=a3 k:=λk hk=>by
    rw[Bj,a6];by_cases hkd:k=d
    .subst hkd;simp[loc']
    .have:k≠m:=by omega
     simp[loc',hkd,this]
   have hlm:a3 m=none:=by have:=h.objs m;rw[qG _ (by omega)]at this;exact this
   have hld:∀{k b c},a3 k=some (b,c)->k<m:=λ{k b c} hk=>by
    rcases bx k m with h'|h'
    .exact h'
    .have:=h.objs k;rw[qG _ (by omega)]at this;rw[this]at hk;simp at hk
   have a5:∀i,i<m->loc'.ty (N4 d m i)=a3.ty i:=λi hi=>by
    rw[Bj];by_cases hid:i=d
    .simp[hid,loc']
    .have:i≠m:=by omega
     simp[hid,loc',this]
   have a7:∀(j k:Nat),loc' j=a3 k->loc'.ty j=a3.ty k->CO a3 st.objs w F k (nth .none st.objs k)->CO loc' objs' w F j (YV d m (nth .none st.objs k)):=by
    intro j k hl hty hc;cases hk:nth .none st.objs k with
    |none=>rw[hk]at hc;exact hl.trans hc
    |dead=>rw[hk]at hc;exact hl.trans hc
    |box cells=>
     rw[hk]at hc;obtain⟨b,c,cs,t,h1,h2,h3,h4,h5⟩:=hc;refine⟨b,c,cs,t,hl.trans h1,h2,h3,?_,?_⟩
     .rw[XC];exact vk (λv hv x hx=>⟨CV.ren ho (h5 v hv) hx.1,hx.2⟩) h4
     .intro v hv;rw[XC]at hv;obtain⟨u,hu,rfl⟩:=Sz.1 hv;exact(h5 u hu).ren λk hk=>(ho k hk).1
    |bld T q=>
     rw[hk]at hc;obtain⟨b,c,p,v,h1,h2,h3,h4,h5,h6⟩:=hc;refine⟨b,c,p,v,hl.trans h1,h2,h3,h4,CV.ren ho h6.1 h5,h6.1.ren λk hk=>(ho k hk).1,λi hi=>?_⟩;cases q with
     |arr i'=>simp only[di,V.arr.injEq]at hi;subst hi;have hlt:=Ref.lt h6.1 i' (by simp[qn]);rw[a5 i' (by omega)];exact h6.2 i' rfl
     |_=>simp[di]at hi
    |arr s es fz=>rw[hk]at hc;obtain⟨h1,h2,h3,h4⟩:=hc;refine⟨h1,h2,h3,?_⟩;rw[hl,hty];exact h4
   refine⟨F,loc',h.prog,h.below,h.hB,h.defers,?_,?_,λj=>?_,?_,?_,h.bound,h.fsub,h.fsup,h.inv⟩
   .show All2 _ (L1 d m st.tmps) _;rw[XC];exact vk (λv hv x hx=>CV.ren ho (h.refs v hv) hx) h.tmps
   .intro v hv;have hv:v∈L1 d m st.tmps:=hv;rw[XC]at hv;obtain⟨u,hu,rfl⟩:=Sz.1 hv;exact(h.refs u hu).ren λk hk=>(ho k hk).1
   .show CO loc' objs' w F j (nth .none objs' j);rw[a6];split
    .rename_i e;exact a7 j d (by simp[loc',e]) (by simp[loc',e]) (h.objs d)
    .split
     .rename_i e1 e2;show loc' j=none;simp[loc',e2];omega
     .rename_i e1 e2;exact a7 j j (by simp[loc',e1,e2]) (by simp[loc',e1]) (h.objs j)
   .intro j j' b c c' g1 g2;simp only[loc']at g1 g2;split at g1<;>split at g2
    .rw[‹j=m›,‹j'=m›]
    .split at g2
     .simp at g2
     .exact absurd (h.inj _ _ _ _ _ g1 g2).symm ‹_›
    .split at g1
     .simp at g1
     .exact absurd (h.inj _ _ _ _ _ g1 g2) ‹_›
    .split at g1
     .simp at g1
     .split at g2
      .simp at g2
      .exact h.inj _ _ _ _ _ g1 g2
   .intro j b c g1;simp only[loc']at g1;split at g1
    .exact h.fresh _ _ _ g1
    .split at g1
     .simp at g1
     .exact h.fresh _ _ _ g1
  grind
theorem HY:∀(l:List Nat) {st:St},J3 C B F0 w0 st a w->J3 C B F0 w0 (dj l st) a w
 |[],_,h=>h
 |_::r,_,h=>HY r (PG h)
end
def Sk (k:Nat) (ds:List D):V->V
 | .box j off=>match cg j k with
  |true=> .eref [ds] 0 off
  |false=> .box j off
 | .boxAt j g=>match cg j k with
  |true=> .any
  |false=> .boxAt j g
 |v=>v
def Ua (k:Nat) (ds:List D):List V->List V
 |[]=>[]
 |v::r=>Sk k ds v::Ua k ds r
def F6 (k:Nat) (ds:List D):Obj->Obj
 | .box cells=> .box (Ua k ds cells)
 | .bld T q=> .bld T (Sk k ds q)
 |o=>o
def YX (k:Nat) (ds:List D):List Obj->List Obj
 |[]=>[]
 |v::r=>F6 k ds v::YX k ds r
def pz (k:Nat) (st:St):St:=
 match nth .none st.objs k with
 | .box cells=>match qC cells with
  |some ds=>⟨Ua k ds st.tmps,upd (YX k ds st.objs) k .dead,[]⟩
  |none=>st
 |_=>st
theorem XD(k:Nat)(ds:List D):∀l,Ua k ds l=l.map (Sk k ds)
 |[]=>rfl
 |v::r=>by simp only[Ua,U0];rw[XD k ds r]
theorem N5(k:Nat)(ds:List D):∀l,YX k ds l=l.map (F6 k ds)
 |[]=>rfl
 |v::r=>by simp only[YX,U0];rw[N5 k ds r]
section
variable {C:Cx}{B:Bd}{F0:Nat->Prop}{w0:World}{F:Nat->Prop}{loc:Where}{st:St}{a:Act}{w:World}
theorem Z8{α β:Type}{R:α->β->Prop}:∀{as:List α} {bs:List β},All2 R as bs->∀a∈as,∃b,R a b
 |a::as,b::bs,h,x,hx=>by
  rcases Lr.1 hx with rfl|hx
  .exact⟨b,h.1⟩
  .exact Z8 h.2 x hx
theorem CV.frz{loc':Where}{objs objs':List Obj}{F':Nat->Prop}{k:Nat}{ds:List D}{cells:List V}{v:V}{x:Value}(hk:nth .none objs k= .box cells)(hF:∀b,F b->F' b)(hty:loc'.ty=loc.ty)(hn:∀j,nth .none objs' j=if j=k then .dead else F6 k ds (nth .none objs j))(hl:∀j,j≠k->loc' j=loc j)(hp:∀b c,loc k=some (b,c)->Row w F' [ds] b 0 ds.length)(hr:Ref objs v)(h:CV loc objs w F v x):CV loc' objs' w F' (Sk k ds v) x/\Ref objs' (Sk k ds v):=by
 have hne:∀{o:Obj},o≠ .none->F6 k ds o≠ .none:=λ{o} h=>by cases o<;>simp_all[F6]
 have a3:∀j,nth .none objs j≠ .none->nth .none objs' j≠ .none:=λj hj=>by
  rw[hn];split
  .simp
  .exact hne hj
 have a5:∀o:Obj,kl (F6 k ds o)=kl o:=λo=>by cases o<;>rfl
 have a4:∀j s es fz,nth .none objs' j= .arr s es fz->nth .none objs j= .arr s es fz/\loc' j=loc j:=λj s es fz hj=>by
  rw[hn]at hj;split at hj
  .simp at hj
  .rename_i e;refine⟨?_,hl j e⟩;cases hj2:nth .none objs j<;>rw[hj2]at hj<;>simp only[F6,reduceCtorEq]at hj;exact hj
 cases v with
 |box j off=>
  simp only[Sk];by_cases hjk:j=k
  .subst hjk;rw[show cg j j=true from c7 j]
   dsimp only
   obtain⟨b,c,h1,rfl⟩:=h _ hk rfl;exact⟨⟨b,0,ds.length,by simp,by simp,hp b c h1⟩,trivial⟩
  .rw[show cg j k=false from by rw[<-I1,cv];exact hjk];refine⟨λo hc hb=>?_,a3 j hr⟩;rw[hn,if_neg hjk]at hc;have a6:kl (nth .none objs j)=true:=by rw[<-a5,hc];exact hb
   obtain⟨b,c,h1,h2⟩:=h _ rfl a6;exact⟨b,c,by rw[hl j hjk];exact h1,h2⟩
 |boxAt j g=>
  simp only[Sk];by_cases hjk:j=k
  .subst hjk;rw[show cg j j=true from c7 j];exact⟨trivial,trivial⟩
  .rw[show cg j k=false from by rw[<-I1,cv];exact hjk];refine⟨λo hc hb=>?_,a3 j hr⟩;rw[hn,if_neg hjk]at hc;have a6:kl (nth .none objs j)=true:=by rw[<-a5,hc];exact hb
   obtain⟨⟨c,h1⟩,h2⟩:=h _ rfl a6;exact⟨⟨c,by rw[hl j hjk];exact h1⟩,h2⟩
 |arr j=>refine⟨λs es fz hc=>?_,a3 j hr⟩;obtain⟨h1,h2⟩:=a4 j s es fz hc;rw[h2];exact h s es fz h1
 |elt j i off=>refine⟨λs es fz hc=>?_,a3 j hr⟩;obtain⟨h1,h2⟩:=a4 j s es fz hc;rw[h2];exact h s es fz h1
 |sub j off len=>refine⟨λs es fz hc=>?_,a3 j hr⟩;obtain⟨h1,h2⟩:=a4 j s es fz hc;rw[h2];exact h s es fz h1
 |arrAt j g c t=>refine⟨λs es fz hc=>?_,a3 j hr⟩;obtain⟨h1,h2⟩:=a4 j s es fz hc;rw[h2,hty];exact h s es fz h1
 |c d=>exact⟨CD.mono h hF λ_ _=>rfl,trivial⟩
 |ag cs=>obtain⟨vs,rfl,h⟩:=h;exact⟨⟨vs,rfl,h.mono λ_ _ h=>h.mono hF λ_ _=>rfl⟩,trivial⟩
 |tp as=>obtain⟨vs,rfl,h⟩:=h;exact⟨⟨vs,rfl,h.mono λ_ _ h=>h.mono hF λ_ _=>rfl⟩,trivial⟩
 |eref es i off=>obtain⟨b,o,a7,h1,h2,h3⟩:=h;exact⟨⟨b,o,a7,h1,h2,h3.mono hF λ_ _=>rfl⟩,trivial⟩
 |any=>exact⟨trivial,trivial⟩
 |no=>exact⟨h,trivial⟩
 |nilS=>exact⟨h,trivial⟩
 |fn f=>exact⟨h,trivial⟩
theorem F7{k:Nat}(hh:J3 C B F0 w0 st a w):J3 C B F0 w0 (pz k st) a w:=by
 unfold pz;split
 .rename_i ad hk;split
  .rename_i ds hds;obtain⟨F,loc,h⟩:=hh;have al:=h.objs k;rw[hk]at al;obtain⟨b0,c0,cs,t,a6,hnF,a8,a7,an⟩:=al;have hlt:k<st.objs.length:=xO (by rw[hk];simp)
   let F':Nat->Prop:=λx=>F x\/x=b0
   have hF:∀b,F b->F' b:=λb hb=> .inl hb
   let loc':Where:=⟨loc.P,λj=>if j=k then none else loc j,loc.ty⟩
   have hl:∀j,j≠k->loc' j=loc j:=λj hj=>by simp[loc',hj]
   have hn:∀j,nth .none (upd (YX k ds st.objs) k .dead) j=if j=k then .dead else F6 k ds (nth .none st.objs j):=λj=>by
    rw[N5];by_cases hj:k=j
    .subst hj;rw[qc _ _ _ (by rw[W0];exact hlt),if_pos rfl]
    .rw[qb _ _ _ hj,if_neg (dk hj)];exact Bk (F6 k ds) .none st.objs j
   have ag:All2 (CD w F) ds cs.toList:=za (loc:=loc) (objs:=st.objs) hds (a7.mono λ_ _ h=>h.1);have a9:=ag.length;have hp:∀b c,loc k=some (b,c)->Row w F' [ds] b 0 ds.length:=λb c hb=>by
    rw[a6]at hb;simp only[dn,dv]at hb;obtain⟨rfl,rfl⟩:=hb;refine⟨λe he=>by simp only[P1]at he;rw[he],.inr rfl,λj hj=>?_⟩;simp only[M3,Nat.one_mul]at hj;refine⟨nth undef cs.toList j,?_,?_⟩
    .rw[cc,xW a8,qm _ (by omega)];simp at a9;simp[show j<cs.size by omega]
    .simp only[List.flatten_cons,List.flatten_nil,bv];exact(ag.nth .undef undef _ _ j hj).mono hF λ_ _=>rfl
   have a4:∀v x,Ref st.objs v->CV loc st.objs w F v x->CV loc' (upd (YX k ds st.objs) k .dead) w F' (Sk k ds v) x/\Ref (upd (YX k ds st.objs) k .dead) (Sk k ds v):=λv x hr hv=>CV.frz (loc:=loc) (objs:=st.objs) hk hF rfl hn hl hp hr hv
   have a3:∀j b c,j≠k->loc j=some (b,c)->b≠b0:=λj b c hj hb e=>by subst e;exact hj (h.inj _ _ _ _ _ hb a6)
   refine⟨F',loc',h.prog,h.below,h.hB,h.defers,?_,λv hv=>?_,λj=>?_,λi j b c c' q1 q2=>?_,λj b c q=>?_,λb hb=>?_,λb hb=>?_,λb hb=>hF _ (h.fsup b hb),h.inv.mono hF λ_ _=>rfl⟩
   .show All2 _ (Ua k ds st.tmps) _;rw[XD];exact vk (λv hv x hx=>(a4 v x (h.refs v hv) hx).1) h.tmps
   .have hv:v∈Ua k ds st.tmps:=hv;rw[XD]at hv;obtain⟨u,hu,rfl⟩:=Sz.1 hv;obtain⟨x,hx⟩:=Z8 h.tmps u hu;exact(a4 u x (h.refs u hu) hx).2
   .show CO loc' _ w F' j (nth .none (upd (YX k ds st.objs) k .dead) j);rw[hn];split
    .rename_i e;show loc' j=none;simp[loc',e]
    .rename_i e;have hc:=h.objs j;cases hj:nth .none st.objs j with
     |none=>rw[hj]at hc;exact(hl j e).trans hc
     |dead=>rw[hj]at hc;exact(hl j e).trans hc
     |box cells2=>
      rw[hj]at hc;obtain⟨b,c,a5,t2,h1,h2,h3,h4,h5⟩:=hc;refine⟨b,c,a5,t2,(hl j e).trans h1,λhb=>?_,h3,?_,λv hv=>?_⟩
      .rcases hb with hb|hb
       .exact h2 hb
       .exact a3 j b c e h1 hb
      .show All2 (λv x=>CV loc' (upd (YX k ds st.objs) k .dead) w F' v x/\x.oneCell'=true) (Ua k ds cells2) a5.toList;rw[XD];exact vk (λv hv x hx=>⟨(a4 v x (h5 v hv) hx.1).1,hx.2⟩) h4
      .rw[XD]at hv;obtain⟨u,hu,rfl⟩:=Sz.1 hv;obtain⟨x,hx⟩:=Z8 h4 u hu;exact(a4 u x (h5 u hu) hx.1).2
     |bld T q=>
      rw[hj]at hc;obtain⟨b,c,p,v,h1,h2,h3,h4,h5,h6,h7⟩:=hc;have h8:=a4 q v h6 h5;refine⟨b,c,p,v,(hl j e).trans h1,λhb=>?_,h3,h4,h8.1,h8.2,λi hi=>?_⟩
      .rcases hb with hb|hb
       .exact h2 hb
       .exact a3 j b c e h1 hb
      .have:q= .arr i:=by
        cases q with
        |arr m=>exact hi
        |box m off=>simp only[Sk]at hi;split at hi<;>simp at hi
        |boxAt m g=>simp only[Sk]at hi;split at hi<;>simp at hi
        |_=>simp only[Sk,reduceCtorEq]at hi
       exact h7 i this
     |arr s es fz=>
      rw[hj]at hc;obtain⟨h1,h2,h3,h4⟩:=hc;refine⟨h1,h2,h3,?_⟩;rcases h4 with⟨q1,q2⟩|⟨b,c,a5,t2,q1,q2,q3,q4,q5,q6,q7,q8⟩
      .exact .inl ⟨(hl j e).trans q1,q2⟩
      .refine .inr ⟨b,c,a5,t2,(hl j e).trans q1,?_,q3,q4,q5,λi hi=>?_,q7,q8⟩
       .cases fz with
        |true=>exact hF _ q2
        |false=>
         intro hb;rcases hb with hb|hb
         .exact q2 hb
         .exact a3 j b c e q1 hb
       .obtain⟨v,r1,r2⟩:=q6 i hi;exact⟨v,r1,r2.mono hF λ_ _=>rfl⟩
   .have e1:i≠k:=λe=>by simp[loc',e]at q1
    have e2:j≠k:=λe=>by simp[loc',e]at q2
    rw[hl i e1]at q1;rw[hl j e2]at q2;exact h.inj _ _ _ _ _ q1 q2
   .have e1:j≠k:=λe=>by simp[loc',e]at q
    rw[hl j e1]at q;exact h.fresh _ _ _ q
   .rcases hb with hb|hb
    .exact h.bound b hb
    .subst hb;exact(h.fresh _ _ _ a6).2
   .rcases hb with hb|hb
    .exact h.fsub b hb
    .subst hb;exact .inr (h.fresh _ _ _ a6).1
  grind
 grind
end
end Eng
end
section
namespace Eng
open Go Go.RowKit
def QS:List A->Bool
 |[]=>true
 |a::r=>Vr a&&QS r
theorem Z9{rs:List A}(h:QS rs=true):∀r∈rs,Vr r=true:=by
 induction rs with
 |nil=>grind
 |cons a r ih=>
  simp only[QS,Hv]at h
  grind
def lj (K:Nat->List A->Option (List A)):R->Option (V×List (Nat×Obj))
 | .fail=>none
 | .ok v up=>some (v,up)
 | .cond (dc:=dc) _ v up=>match dc with
  | .isTrue _=>some (v,up)
  | .isFalse _=>none
 | .look z row off ag=>match Nat.ble (off+z.length) row.length with
  |true=>some (match ag with|true=> .ag (seg row off z.length)|false=> .c (nth .undef (seg row off z.length) 0),[])
  |false=>none
 | .call f as sh up=>match K f as with
  |some rs=>match zN sh||QS rs with
   |true=>some (Ht rs,up)
   |false=>none
  |none=>none
def F8 (K:Nat->List A->Option (List A)) (C:Cx) (ops:Array Oper) (o:Oper) (st:St):Option (V×List (Nat×Obj)):=
 match o.guard with
 |none=>lj K (xr C o (ev st) st.objs)
 |some (j,want)=>match Q4 ops j with
  |none=>none
  |some t=>match nth .any st.tmps t with
   | .c (.bool c)=>match c,want with
    |true,true=>lj K (xr C o (ev st) st.objs)
    |false,false=>lj K (xr C o (ev st) st.objs)
    |true,false=>some (.no,[])
    |false,true=>some (.no,[])
   | .no=>some (.no,[])
   |_=>none
def dm (K:Nat->List A->Option (List A)) (C:Cx) (ops:Array Oper):List Oper->St->Option St
 |[],st=>some st
 |o::r,st=>match F8 K C ops o st with
  |some (v,up)=>dm K C ops r (st.put o.dst v up)
  |none=>none
def Bl (K:Nat->List A->Option (List A)) (C:Cx) (ops:Array Oper):List Oper->St->List Rec->Option (St×List Rec)
 |[],st,rs=>some (st,rs)
 |o::r,st,rs=>match F8 K C ops o st with
  |some (v,up)=>Bl K C ops r (st.put o.dst v up) (rs++[(opk o (ev st) st.objs,w8 up [])])
  |none=>none
def L2 (k i:Nat) (st:St):St:=
 match nth .none st.objs k with
 | .box cells=>match nth .any cells i with
  | .arr j=>match nth .none st.objs j with
   | .arr s es _=>⟨st.tmps,upd (upd st.objs j (.arr s es true)) k (.box (upd cells i (.c (.sl es)))),st.dirty⟩
   |_=>st
  |_=>st
 |_=>st
def L3 (k:Nat):Nat->St->St
 |0,st=>st
 |n+1,st=>L3 k n (L2 k n st)
def lk:V->Bool
 | .arr _=>true
 |_=>false
def Bm (k:Nat) (st:St):St:=
 match nth .none st.objs k with
 | .box cells=>match cells.any lk with
  |true=>L3 k cells.length st
  |false=>st
 |_=>st
def L4:List Operand->St->St
 |[],st=>st
 |x::r,st=>L4 r (match ev st x with
  | .box k 0=>pz k st
  |_=>st)
def L5 (C:Cx):List Oper->St->St
 |[],st=>st
 |o::r,st=>L5 C r (match o.op with
  | .load t x=>match y9 C.P t&&!C.keep t o.dst with
   |true=>match ev st x with
    | .box k _=>Bm k st
    |_=>st
   |false=>st
  | .makeFunc _ _ captured=>L4 captured.toList st
  |_=>st)
def p9 (st:St):St:=⟨st.tmps,st.objs,[]⟩
def pA (K:Nat->List A->Option (List A)) (C:Cx) (ops:Array Oper) (draw:Bool) (st:St):Option St:=
 match draw with
 |false=>dm K C ops ops.toList st
 |true=>match Xs C ops.toList with
  |true=>dm K C ops ops.toList st
  |false=>match Bl K C ops ops.toList st []with
   |some (s,rs)=>match Xu C ops.toList rs with
    |true=>some s
    |false=>none
   |none=>none
def lw (C:Cx):List Oper->List Nat
 |[]=>[]
 |o::r=>SA C o++lw C r
def Jo (K:Nat->List A->Option (List A)) (C:Cx):Nat->Code->St->Option (X×St)
 |0,_,_=>none
 |n+1,c,st=>match c with
  | .skip=>some (.normal,st)
  | .region _ ops d=>match pA K C ops d (L5 C ops.toList (dj (lw C ops.toList) st))with
   |some s=>some (.normal,p9 s)
   |none=>none
  | .seq a b=>match Jo K C n a st with
   |some (.normal,s)=>Jo K C n b s
   |r=>r
  | .cond c x y=>match ev st c with
   | .c (.bool true)=>Jo K C n x st
   | .c (.bool false)=>Jo K C n y st
   |_=>none
  | .block id c=>match Jo K C n c st with
   |some (.exit i,s)=>match cg i id with
    |true=>some (.normal,s)
    |false=>some (.exit i,s)
   |r=>r
  | .exit id=>some (.exit id,st)
  | .ret=>some (.ret,st)
  | .loop body=>match Jo K C n body st with
   |some (.normal,s)=>Jo K C n (.loop body) s
   |r=>r
  |_=>none
def EQ (tab:Nat->List A->Option (List A)) (C:Cx) (lim:Nat):Nat->Nat->List A->Option (List A)
 |0,_,_=>none
 |n+1,f,args=>match tab f args with
  |some rs=>some rs
  |none=>match C.P.funcs[f]? with
   |none=>none
   |some fn=>match fn.body with
    |none=>none
    |some c=>match Jo (EQ tab C lim n) C lim c (Q7 fn.ntmps args)with
     |some (.normal,s)=>Lg C s fn.results.toList
     |some (.ret,s)=>Lg C s fn.results.toList
     |_=>none
section
variable {C:Cx}{B:Bd}{F0:Nat->Prop}{w0:World}{K:Nat->List A->Option (List A)}
theorem L6(hK:∀f as rs,K f as=some rs->qa C f as rs){r:R}{v:V}{up:List (Nat×Obj)}(h:lj K r=some (v,up)):Out (qa C) r v up:=by
 unfold lj at h;split at h
 .grind
 .simp only[dn,dv]at h;exact⟨h.1.symm,h.2.symm⟩
 .split at h
  .simp only[dn,dv]at h;exact⟨by grind,h.1.symm,h.2.symm⟩
  grind
 .split at h
  .rename_i hle;simp only[dn,dv]at h;exact⟨_,⟨rfl,Nat.le_of_ble_eq_true hle⟩,h.1.symm,h.2.symm⟩
  grind
 .split at h
  .rename_i rs hrs;split at h
   .simp only[dn,dv]at h;refine⟨rs,hK _ _ _ hrs,λhs=>Z9 ?_,h.1.symm,h.2.symm⟩
    grind
   grind
  grind
theorem N6(hK:∀f as rs,K f as=some rs->qa C f as rs){ops:Array Oper}{o:Oper}{st:St}{v:V}{up:List (Nat×Obj)}(h:F8 K C ops o st=some (v,up)):Stp C (qa C) ops o st v up:=by
 unfold F8 at h;split at h
 .rename_i hg;exact⟨true,by unfold X4;rw[hg],by rw[if_pos rfl];exact L6 hK h⟩
 .rename_i j a3 hg;split at h
  .simp at h
  .rename_i t ht;split at h
   .rename_i c hc;have hw:∀b,b=(c==a3)->X4 ops o st.tmps b:=λb hb=>by unfold X4;grind
    split at h
    .exact⟨true,hw _ rfl,by rw[if_pos rfl];exact L6 hK h⟩
    .exact⟨true,hw _ rfl,by rw[if_pos rfl];exact L6 hK h⟩
    .simp only[dn,dv]at h;exact⟨false,hw _ rfl,by grind⟩
    .simp only[dn,dv]at h;exact⟨false,hw _ rfl,by grind⟩
   .rename_i hd;simp only[dn,dv]at h;exact⟨false,by unfold X4;grind,by rw[if_neg (by simp)];exact⟨h.1.symm,h.2.symm⟩⟩
   grind
theorem Bn(hK:∀f as rs,K f as=some rs->qa C f as rs){ops:Array Oper}:∀(l:List Oper) (k:Nat) (s s':St),(∀j,l[j]? =ops[k+j]?)->dm K C ops l s=some s'->∃rc,Tr C (qa C) ops rc (V1 k l.length) s s'
 |[],_,s,s',_,h=>by simp only[dm,dn]at h;subst h;exact⟨λ_=>([],[]),rfl,rfl⟩
 |o::l,k,s,s',hk,h=>by
  have h0:ops[k]? =some o:=by simpa using(hk 0).symm
  simp only[dm]at h;split at h
  .rename_i v up hs;obtain⟨rc,h3⟩:=Bn hK l (k+1) _ _ (λj=>by have:=hk (j+1);grind) h;refine⟨λi=>if i=k then(opk o (ev s) s.objs,up.map (·.1))else rc i,?_⟩;refine⟨o,h0,v,up,N6 hK hs,?_,h3.recs λi hi=>?_⟩
   .simp only[if_pos];exact⟨λ_ _ h=>h,λp hp=>Sz.2 ⟨p,hp,rfl⟩⟩
   grind
  grind
theorem N7(hK:∀f as rs,K f as=some rs->qa C f as rs){ops:Array Oper}:∀(l:List Oper) (k:Nat) (s s':St) (acc R:List Rec),(∀j,l[j]? =ops[k+j]?)->acc.length=k->Bl K C ops l s acc=some (s',R)->
 Tr C (qa C) ops (λi=>nth ([],[]) R i) (V1 k l.length) s s'/\∃R',R=acc++R'
 |[],_,s,s',acc,R,_,_,h=>by simp only[Bl,dn,dv]at h;obtain⟨rfl,rfl⟩:=h;exact⟨⟨rfl,rfl⟩,[],by simp⟩
 |o::l,k,s,s',acc,R,hk,hacc,h=>by
  have h0:ops[k]? =some o:=by simpa using(hk 0).symm
  simp only[Bl]at h;split at h
  .rename_i v up hs;obtain⟨h3,R',hR⟩:=N7 hK l (k+1) _ _ _ _ (λj=>by have:=hk (j+1);grind) (by grind) h;refine⟨?_,(opk o (ev s) s.objs,w8 up [])::R',by grind⟩;refine⟨o,h0,v,up,N6 hK hs,?_,h3⟩;have e:nth ([],[]) R k=(opk o (ev s) s.objs,w8 up []):=by rw[hR,Lv];have:=QP ([],[]) acc ((opk o (ev s) s.objs,w8 up [])::R') 0;rw[cf,hacc]at this;exact this
   simp only;rw[e];exact⟨λ_ _ h=>h,λp hp=>wc.2 (.inr ⟨p,hp,rfl⟩)⟩
  grind
theorem L7{k i:Nat}{st:St}{a:Act}{w:World}(hh:J3 C B F0 w0 st a w):J3 C B F0 w0 (L2 k i st) a w:=by
 unfold L2;split
 .rename_i a3 hk;split
  .rename_i j hi;split
   .rename_i s es fz hj;obtain⟨F,a4,h⟩:=hh;have hkj:k≠j:=by intro e;subst e;rw[hk]at hj;cases hj
    have h1:=h.freeze1 hj;generalize hF':(λb=>F b\/∃c,a4 j=some (b,c))=F' at h1;have hFF:∀b,F b->F' b:=λb hb=>by rw[<-hF'];exact .inl hb
    have hFj:∀b c,a4 j=some (b,c)->F' b:=λb c hb=>by rw[<-hF'];exact .inr ⟨c,hb⟩
    refine⟨F',a4,?_⟩;have hlt:k<st.objs.length:=by
     rcases bx k st.objs.length with h|h
     .exact h
     .rw[qG _ h]at hk;simp at hk
    have ad:nth .none (upd st.objs j (.arr s es true)) k= .box a3:=by rw[qb _ _ _ (dk hkj)];exact hk
    have a8:k<(upd st.objs j (.arr s es true)).length:=by rw[qi];exact hlt
    have a5:Le (upd st.objs j (.arr s es true)) (upd (upd st.objs j (.arr s es true)) k (.box (upd a3 i (.c (.sl es))))) a4 a4:=by
     refine⟨rfl,λ_ _=>rfl,λj hj=>?_,λj o' hj hc hbx=>?_,λj s' es' fz' hj hc=>?_⟩
     .rw[zn];split
      .simp
      .exact hj
     .rw[zn]at hc;split at hc
      .rename_i e;rw[<-e.1];exact⟨by rw[ad];rfl,rfl⟩
      .exact⟨by rw[hc];exact hbx,rfl⟩
     .rw[zn]at hc;split at hc
      .simp at hc
      .exact⟨⟨_,_,hc,rfl⟩,rfl⟩
    refine h1.relocate a5 (λm=>?_) h1.inj h1.fresh;by_cases hm:k=m
    .subst hm;rw[qc _ _ _ a8];have h0:=h1.objs k;simp only at h0;rw[ad]at h0;obtain⟨b,c,cs,t,q1,q2,q3,q4,q5⟩:=h0;have hi0:i<a3.length:=by
      rcases bx i a3.length with h|h
      .exact h
      .rw[qG _ h]at hi;simp at hi
     have hcl:=q4.length;have hx:=All2.nth .any undef a3 cs.toList i q4 hi0;rw[hi]at hx;have a6:=h1.objs j;simp only at a6;have a7:j<st.objs.length:=by
      rcases bx j st.objs.length with h|h
      .exact h
      .rw[qG _ h]at hj;simp at hj
     have a9:nth .none (upd st.objs j (.arr s es true)) j= .arr s es true:=qc _ _ _ a7;rw[a9]at a6;have hcd:=H7 (F':=F') a9 a6 hx.1 (λ_ h=>h) hFj;refine⟨b,c,cs,t,q1,q2,q3,?_,λv hv=>?_⟩
     .have h6:All2 (λv x=>CV a4 (upd (upd st.objs j (.arr s es true)) k (.box (upd a3 i (.c (.sl es))))) w F' v x/\x.oneCell'=true) a3 cs.toList:=
       q4.mono_mem λv hv x hx=>⟨CV.le (λ_ h=>h) (λ_ _=>rfl) a5 (q5 v hv) hx.1,hx.2⟩
      have h7:=All2.upd (i:=i) (a:=V.c (.sl es)) (b:=nth undef cs.toList i) ⟨hcd,hx.2⟩ h6
      grind [xx,qm,List.set_getElem_self]
     .rcases zV hv with hv|rfl
      .exact(q5 v hv).le a5
      .trivial
    .rw[qb _ _ _ hm];exact I2 (λ_ h=>h) (λ_ _=>rfl) a5 rfl rfl (λ_ _ _=>⟨rfl,λh=>h⟩) (h1.objs m)
   grind
  grind
 grind
theorem KQ{k:Nat}{a:Act}{w:World}:∀(n:Nat) {st:St},J3 C B F0 w0 st a w->J3 C B F0 w0 (L3 k n st) a w
 |0,_,h=>h
 |n+1,_,h=>KQ n (L7 h)
theorem PH{k:Nat}{st:St}{a:Act}{w:World}(hh:J3 C B F0 w0 st a w):J3 C B F0 w0 (Bm k st) a w:=by
 unfold Bm
 grind [KQ]
theorem KR{a:Act}{w:World}:∀(l:List Operand) {st:St},J3 C B F0 w0 st a w->J3 C B F0 w0 (L4 l st) a w
 |[],_,h=>h
 |x::l,st,h=>by
  refine KR l ?_;split
  .exact F7 h
  grind
theorem KS{a:Act}{w:World}:∀(l:List Oper) {st:St},J3 C B F0 w0 st a w->J3 C B F0 w0 (L5 C l st) a w
 |[],_,h=>h
 |o::l,st,h=>by
  refine KS l ?_
  grind [PH,KR]
def oo (C:Cx) (B:Bd) (F0:Nat->Prop) (w0:World) (x:X) (s':St) (e:Exit) (a:Act) (w:World):Prop:=XM x e/\J3 C B F0 w0 s' a w
theorem dq[EffOk C](hm:C.P.follows .mixedOrders=true)(hK:∀f as rs,K f as=some rs->qa C f as rs){id:Nat}{ops:Array Oper}{d:Bool}{s s':St}{a:Act}{w:World}(h:pA K C ops d s=some s')(hh:J3 C B F0 w0 s a w):
 (J7 id ops d).wp C.P (oo C B F0 w0 .normal s') a w:=by
 have hq:∀a w,J3 C B F0 w0 s' a w->oo C B F0 w0 .normal s' .normal a w:=λa w h=>⟨rfl,h⟩
 have seqr:dm K C ops ops.toList s=some s'->(d=true->Xs C ops.toList=true)->(J7 id ops d).wp C.P (oo C B F0 w0 .normal s') a w:=λh hr=>by obtain⟨rc,ht⟩:=Bn hK ops.toList 0 s s' (by simp) h;rw[<-T1]at ht;exact X6 hm (λhd=>KH rc (hr hd)) ht hh hq
 unfold pA at h;split at h
 .grind
 .split at h
  .grind
  .split at h
   .rename_i s1 rs a3;split at h
    .rename_i hr;simp only[dn]at h;subst h;obtain⟨ht,_⟩:=N7 hK ops.toList 0 s s1 [] rs (by simp) rfl a3;rw[<-T1]at ht;exact X6 hm (λ_=>Jl hr) ht hh hq
    grind
   grind
theorem L8[EffOk C](hm:C.P.follows .mixedOrders=true)(hK:∀f as rs,K f as=some rs->qa C f as rs):∀(n:Nat) (c:Code) (s s':St) (x:X) (a:Act) (w:World),Jo K C n c s=some (x,s')->J3 C B F0 w0 s a w->c.wp C.P (oo C B F0 w0 x s') a w:=by
 intro n
 induction n using c3 with
 |_ n ih=>
  intro c s s' x a w h hh;cases n with
  |zero=>simp[Jo]at h
  |succ n=>
   cases c with
   |skip=>simp only[Jo,dn,dv]at h;obtain⟨rfl,rfl⟩:=h;exact wp_skip ⟨rfl,hh⟩
   |region id ops d=>
    simp only[Jo]at h;split at h
    .rename_i s1 h1;simp only[dn,dv]at h;obtain⟨rfl,rfl⟩:=h;have h3:=dq (id:=id) hm hK h1 (KS _ (HY _ hh));refine J5 (λe a w q=>?_) h3;obtain⟨q1,q2⟩:=q;exact⟨q1,xE q2 rfl rfl⟩
    .simp at h
   |seq p q=>
    simp only[Jo]at h;split at h
    .rename_i s1 h1;refine wp_seq (J5 (λe a' w' hp=>?_) (ih n (by omega) p s s1 .normal a w h1 hh));obtain⟨he,a3⟩:=hp;have he:e= .normal:=he;subst he;exact ih n (by omega) q s1 s' x a' w' h a3
    .rename_i a4;refine wp_seq (J5 (λe a' w' hp=>?_) (ih n (by omega) p s s' x a w h hh));obtain⟨he,a3⟩:=hp;cases x with
     |normal=>exact absurd h (a4 s')
     |exit i=>have he:e= .exit i:=he;subst he;exact⟨rfl,a3⟩
     |ret=>have he:e= .ret:=he;subst he;exact⟨rfl,a3⟩
   |cond cd p q=>
    simp only[Jo]at h;have hb:∀b,ev s cd= .c (.bool b)->a.eval cd= .bool b:=λb hb=>by obtain⟨F,loc,hc⟩:=hh;have he:=(xg hc cd).1;rw[hb]at he;exact(λ(x:Value) (hx:CD w F (.bool b) x)=>(by cases hx;rfl:x= .bool b)) _ he
    split at h
    .rename_i hc;exact wp_cond (hb _ hc) (by rw[if_pos rfl];exact ih n (by omega) p s s' x a w h hh)
    .rename_i hc;exact wp_cond (hb _ hc) (by rw[if_neg (by simp)];exact ih n (by omega) q s s' x a w h hh)
    .simp at h
   |block id p=>
    simp only[Jo]at h;split at h
    .rename_i i s1 h1;refine wp_block (J5 (λe a' w' hp=>?_) (ih n (by omega) p s s1 _ a w h1 hh));obtain⟨he,a3⟩:=hp;have he:e= .exit i:=he;subst he;unfold Exit.inBlock;split at h
     .rename_i hi;simp only[dn,dv]at h;obtain⟨rfl,rfl⟩:=h;have:=cb hi;simp only[this,if_true];exact⟨rfl,a3⟩
     .rename_i hi;simp only[dn,dv]at h;obtain⟨rfl,rfl⟩:=h;have:i≠id:=λe=>by subst e;simp at hi
      simp only[this,if_false];exact⟨rfl,a3⟩
    .rename_i a4;refine wp_block (J5 (λe a' w' hp=>?_) (ih n (by omega) p s s' x a w h hh));obtain⟨he,a3⟩:=hp;cases x with
     |normal=>have he:e= .normal:=he;subst he;exact⟨rfl,a3⟩
     |exit i=>exact absurd h (a4 i s')
     |ret=>have he:e= .ret:=he;subst he;exact⟨rfl,a3⟩
   |exit id=>simp only[Jo,dn,dv]at h;obtain⟨rfl,rfl⟩:=h;exact wp_exit ⟨rfl,hh⟩
   |ret=>simp only[Jo,dn,dv]at h;obtain⟨rfl,rfl⟩:=h;exact wp_ret ⟨rfl,hh⟩
   |loop body=>
    let p:Act->World->Nat->Prop:=λa w k=>k<=n+1/\∃s,Jo K C k (.loop body) s=some (x,s')/\J3 C B F0 w0 s a w
    refine wp_loop (λa w=>∃k,p a w k) (λa w=>wQ (p a w)) ⟨n+1,cH _,s,h,hh⟩ λa1 w1 h1=>?_
    obtain⟨hle,s1,hr,hs⟩:=VK h1;generalize hk:wQ (p a1 w1)=k at *;cases k with
    |zero=>simp[Jo]at hr
    |succ k=>
     simp only[Jo]at hr;split at hr
     .rename_i s2 hb;refine J5 (λe a' w' hp=>?_) (ih k (by omega) body s1 s2 .normal a1 w1 hb hs);obtain⟨he,a3⟩:=hp;have he:e= .normal:=he;subst he;have a5:p a' w' k:=⟨by omega,s2,hr,a3⟩;refine⟨⟨_,a5⟩,?_⟩;have:=VL a5;show wQ (p a' w')<k+1;omega
     .rename_i a4;refine J5 (λe a' w' hp=>?_) (ih k (by omega) body s1 s' x a1 w1 hr hs);obtain⟨he,a3⟩:=hp;cases x with
      |normal=>exact absurd hr (a4 s')
      |exit i=>have he:e= .exit i:=he;subst he;exact⟨rfl,a3⟩
      |ret=>have he:e= .ret:=he;subst he;exact⟨rfl,a3⟩
   |_=>simp[Jo]at h
theorem YY[EffOk C]{tab:Nat->List A->Option (List A)}{lim:Nat}(hm:C.P.follows .mixedOrders=true)(htab:∀f as rs,tab f as=some rs->qa C f as rs):∀(n f:Nat) (args res:List A),EQ tab C lim n f args=some res->qa C f args res:=by
 intro n
 induction n with
 |zero=>intro f args res h;simp[EQ]at h
 |succ n ih=>
  intro f args res h;simp only[EQ]at h;split at h
  .grind
  .split at h
   .grind
   rename_i fn hf;split at h
   .grind
   rename_i c hc;have key:∀(x:X) (s:St),(x= .normal\/x= .ret)->Jo (EQ tab C lim n) C lim c (Q7 fn.ntmps args)=some (x,s)->Lg C s fn.results.toList=some res->qa C f args res:=by
    intro x s hx hr a5 w F vs hb a4 a3;refine calls_of_wp hf hc (J5 (λe a' w' hp=>?_) (L8 hm (λf as rs h=>ih f as rs h) lim c _ s x _ w hr (XB hb a4 a3)));obtain⟨he,hh⟩:=hp;have a6:=Bh (fn:=fn) hh a5;rcases hx with rfl|rfl
    .subst he;exact a6
    .have he:e= .ret:=he;subst he;exact a6
   grind
end
end Eng
end
