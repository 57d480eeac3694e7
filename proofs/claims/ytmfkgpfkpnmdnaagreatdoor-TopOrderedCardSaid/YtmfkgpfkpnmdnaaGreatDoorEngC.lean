import Derived.Test.YtmfkgpfkpnmdnaaGreatDoorEngB
open Array renaming toList_append->Aw, ext'->Bx, getD->Dd, getElem?_eq_some_iff->Hu, getElem?_eq_getElem->Hv
open Bool renaming and_eq_true->Hx, or_eq_true->Hy, or_eq_false_iff->I0, not_eq_true'->I1
open Eng.St renaming has->I2, put->I3
open Go.Call renaming operands->J3
open Go.Op renaming operands->J4
open Go.Region renaming binds->Lm, wanted->Lr
open List renaming mem_singleton->Ls, mem_map->Lv, mem_cons->M0, mem_append_right->M1, mem_append->M2, mem_cons_of_mem->M3, mem_flatMap->No, getElem?_cons_zero->Pl, getElem?_cons_succ->P1, mem_cons_self->Sz, map_congr_left->Tk, range->Ts, getElem_mem->U0, eq_nil_of_length_eq_zero->U3, rel_of_pairwise_cons->V1, getElem?_take_of_lt->W0, pairwise_append->W1, append_assoc->W2, length_cons->bb, all_eq_true->bc, append_nil->bd, mem_range->be, set_comm->bh, map_cons->bm, map_nil->bv
open Nat renaming eq_of_beq_eq_true->bw, zero_add->bx, add_assoc->bF, not_lt->cb, add_comm->cc, lt_or_ge->cg, testBit_or->cm
open Option.some renaming injEq->cp, inj->cv
open Prod.mk renaming injEq->c0
section
namespace Eng
open Go Go.RowKit
variable [Env]
section
variable {C:Cx} {B:Bd} {F0:Nat->Prop} {w0:World} {F:Nat->Prop} {loc:Where} {st:St} {a:Act} {w:World}
variable {dst:Option Nat} {ty:TypeId} {pos:String} {after:Array Edge} {g:Option (Nat×Bool)}
theorem VE {w w':World} {F F':Nat->Prop} {d:D} {v:Value} (h:CD w F d v) (hf:Xy d=true):CD w' F' d v:=by
 cases h with
 |tok p i v h=>refine .tok p i v ?_;rcases Env.fl p i hf with⟨b,e⟩|⟨k,n,e⟩<;>(rw[e]at h ⊢;cases h;constructor)
 |_=>first|(simp[Xy]at hf;done)|(constructor;done)|(constructor;assumption)
theorem XC {w w':World} {F F':Nat->Prop} {d:A} {v:Value} (h:CA w F d v) (hf:Xz d=true):CA w' F' d v:=by
 cases d with
 |c d=>exact VE h hf
 |ag cs=>obtain⟨vs,rfl,h⟩:=h;exact⟨vs,rfl,h.mono_mem λd hd v hv=>VE hv (bc.1 hf d hd)⟩
theorem Wo {w w':World} {F F':Nat->Prop} {rs:List A} {v:Value} (h:vO w F rs v) (hf:∀r∈rs,Xz r=true):vO w' F' rs v:=by
 unfold vO at h ⊢;split
 .rename_i r;exact XC h (hf r (by simp))
 .rename_i hne;split at h
  .exact absurd rfl (hne _)
  .obtain⟨vs,rfl,h⟩:=h;exact⟨vs,rfl,h.mono_mem λr hr v hv=>XC hv (hf r hr)⟩
theorem ZZ {objs:List Obj} {rs:List A} {v:Value} (h:vO w F rs v):CV loc objs w F (ZC rs) v/\Ref objs (ZC rs):=by
 unfold ZC;split
 .exact⟨h,trivial⟩
 .exact⟨h,trivial⟩
 .rename_i h1 h2;unfold vO at h;split at h
  .rename_i r;cases r with
   |c d=>exact absurd rfl (h1 d)
   |ag cs=>exact absurd rfl (h2 cs)
  .exact⟨h,trivial⟩
theorem Conc.behind {v:V} {x:Value} {w':World} (h:Conc C B F0 w0 F loc st a w) (hb:Below w.heap.size w w') (hv:CV loc st.objs w' (λb=>F b\/(w.heap.size<=b/\b<w'.heap.size)) v x) (hr:Ref st.objs v):
 Conc C B F0 w0 (λb=>F b\/(w.heap.size<=b/\b<w'.heap.size)) loc (st.put dst v []) (a.put dst x) w':=by
 have hw:∀b,F b->w'.heap[b]? =w.heap[b]? :=λb hF=>hb.block b (h.bound b hF)
 have hsz:=hb.size;refine h.step (up:=[]) (λb hF=> .inl hF) hw (Le.refl _ _) (h.below.trans (.of hb h.hB)) (by have:=h.hB;omega) (λk=>?_) h.inj (λk b c hl=>?_) ?_ ?_ hv hr
 .refine CO.le (λb hF=> .inl hF) hw (Le.refl _ _) rfl rfl (λb c hl=>?_) (h.objs k);have hf:=(h.fresh _ _ _ hl).2;exact⟨hb.block b hf,λhn a0=>by rcases a0 with a0|a0;exact hn a0;omega⟩
 .have:=h.fresh _ _ _ hl;exact⟨this.1,by omega⟩
 .intro b hF;rcases hF with hF|hF
  .have:=h.bound b hF;omega
  .exact hF.2
 .intro b hF;rcases hF with hF|hF
  .exact h.fsub b hF
  .have:=h.hB;exact .inr (.inl (by omega))
theorem js (h:Conc C B F0 w0 F loc st a w):∀(xs:List Operand),All2 (CV loc st.objs w F) (xs.map (ev st)) (xs.map a.eval)
 |[]=>trivial
 |x::xs=>⟨(qU h x).1,js h xs⟩
theorem YD {f:Nat} {o:Oper} {vs:List V} {xs:List Value} (h:Conc C B F0 w0 F loc st a w) (hvs:All2 (CV loc st.objs w F) vs xs)
 (hrun:∀fn,C.P.funcs[f]? =some fn->fn.body≠none->fn.name≠ "runtime.NumGoroutine" ->(execOp a.eval o).run C.P w= .ok (.enter f xs.toArray) w):RS C B F0 w0 st a w o (kC C st.objs f vs):=by
 unfold kC;split
 .trivial
 .rename_i fn hfn;split
  .trivial
  .rename_i ag;simp only[Hx,I1]at ag;obtain⟨a2,a5⟩:=ag;have hrun:=hrun fn hfn (by intro hb;simp[hb]at a2) (by simpa using a5);split
   .rename_i as us sh hto hsh;obtain⟨hfz,a6⟩:=jZ h hto hvs;obtain⟨F',a7,hF',hb'⟩:=h.freezes hfz st.dirty;have a1:=a6 F' hF' hb';have al:∀(up:List (Nat×Obj)) (rs:List A),Gives C f as rs->(∀v w',Below w.heap.size w w'->vO w' (λb=>F' b\/(w.heap.size<=b/\b<w'.heap.size)) rs v->I2 C B F0 w0 (st.put o.dst (ZC rs) up) (a.put o.dst v) w')->
     ∀(next:Act->World->Prop) (Q:Exit->Act->World->Prop),(∀a' w',I2 C B F0 w0 (st.put o.dst (ZC rs) up) a' w'->next a' w')->Oper.wp C.P o a w next Q:=by
     intro up rs hg ad next Q hn
     unfold Oper.wp;rw[hrun,Oper.upon_enter];refine(hg w F' xs a7.bound a7.inv a1).mono λe w' he=>?_
     obtain⟨a0,v,rfl,hr⟩:=he;exact hn _ _ (ad v w' a0 hr)
    split
    .intro rs hg _ next Q hn
     refine al us rs hg (λv w' a0 hr=>?_) next Q hn
     have a3:=ZZ (loc:=loc) (objs:=upds st.objs us) hr;exact⟨_,loc,(a7.behind (dst:=o.dst) a0 a3.1 a3.2).redirty⟩
    .rename_i hns;intro rs hg a4 next Q hn
     refine al [] rs hg (λv w' a0 hr=>?_) next Q hn
     have hr':vO w' (λb=>F b\/(w.heap.size<=b/\b<w'.heap.size)) rs v:=Wo hr (a4 hns);have a3:=ZZ (loc:=loc) (objs:=st.objs) hr';exact⟨_,loc,h.behind (dst:=o.dst) a0 a3.1 a3.2⟩
   .trivial
theorem VF {f:Nat} {cal:Operand} {args:Array Operand} {ts:Array TypeId} (h:Conc C B F0 w0 F loc st a w) (hcal:a.eval cal= .func (.func f) #[] #[]):RS C B F0 w0 st a w ⟨dst,.call ⟨.value cal,args,ts⟩,ty,pos,after,g⟩ (kC C st.objs f (args.toList.map (ev st))):=by
 refine YD h (js h args.toList) λfn hfn hb2 hne=>?_
 have a0:(args.toList.map a.eval).toArray=args.map a.eval:=by apply Bx;simp
 rw[a0];simp[execOp,resolve,hcal,Deferred.ofValue,invoke,callFunc,hfn,hne,hb2]
omit [Env] in
theorem Ja {R:D->Value->Prop}:∀(ps:List D) (vs:Nat->Value) (i:Nat),(∀j,j<ps.length->R (nth .undef ps j) (vs (i+j)))->All2 R ps ((List.range' i ps.length).map vs)
 |[],_,_,_=>trivial
 |p::ps,vs,i,h=>by
  rw[bb,List.range'_succ,bm];refine⟨by have:=h 0 (by simp);simpa [nth]using this,Ja ps vs (i+1) λj hj=>?_⟩;have:=h (j+1) (by simp;omega);rw[show i+1+j=i+(j+1)by omega]
  simpa [nth]using this
theorem Wp:∀{ps:List D} {xs:List Value},All2 (CD w F) ps xs->All2 (CV loc st.objs w F) (ps.map V.c) xs
 |[],[],_=>trivial
 |_::_,_::_,h=>⟨h.1,Wp h.2⟩
 |[],_::_,h=>h.elim
 |_::_,[],h=>h.elim
omit [Env] in
theorem Wq {α β:Type} {R:α->β->Prop}:∀{as as':List α} {bs bs':List β},All2 R as bs->All2 R as' bs'->All2 R (as++as') (bs++bs')
 |[],_,[],_,_,h'=>h'
 |_::_,_,_::_,_,h,h'=>⟨h.1,Wq h.2 h'⟩
 |[],_,_::_,_,h,_=>h.elim
 |_::_,_,[],_,h,_=>h.elim
theorem Fg {f:Nat} {ps:List D} {cal:Operand} {args:Array Operand} {ts:Array TypeId} (h:Conc C B F0 w0 F loc st a w) (hcal:CD w F (.clo f ps) (a.eval cal)):
 RS C B F0 w0 st a w ⟨dst,.call ⟨.value cal,args,ts⟩,ty,pos,after,g⟩ (kC C st.objs f (args.toList.map (ev st)++ps.map V.c)):=by
 generalize hc:a.eval cal=y at hcal;cases hcal with
 |clo f ps vs hd=>
  have h2:All2 (CD w F) ps ((Ts ps.length).map vs):=by rw[List.range_eq_range'];exact Ja ps vs 0 λj hj=>by rw[bx];exact hd j hj
  refine YD h (Wq (js h args.toList) (Wp h2)) λfn hfn hb2 hne=>?_
  have a0:(args.toList.map a.eval++(Ts ps.length).map vs).toArray=args.map a.eval++((Ts ps.length).map vs).toArray:=by apply Bx;simp
  rw[a0];simp[execOp,resolve,hc,Deferred.ofValue,invoke,callFunc,hfn,hne,hb2]
theorem VG (h:Conc C B F0 w0 F loc st a w):∀{vs:List V} {xs:List Value} {ps:List D} {us:List (Nat×Obj)},V2 st.objs vs=some (ps,us)->All2 (CV loc st.objs w F) vs xs->
 (∀p∈us,p.2= .dead/\(∃v∈vs,p.1∈qh v)/\∃cells,nth .none st.objs p.1= .box cells)/\∀F':Nat->Prop,(∀b,F b->F' b)->(∀p∈us,∀b c,loc p.1=some (b,c)->F' b)->All2 (CD w F') ps xs
 |[],[],ps,us,hc,_=>by simp only[V2,cp,c0]at hc;obtain⟨rfl,rfl⟩:=hc;exact⟨λp hp=>by simp at hp,λ_ _ _=>trivial⟩
 |v::vs,x::xs,ps,us,hc,hv=>by
  unfold V2 at hc;split at hc
  .rename_i k;split at hc
   .rename_i cells hk;split at hc
    .rename_i ds ps' us' hds hr;simp only[cp,c0]at hc;obtain⟨rfl,rfl⟩:=hc;obtain⟨h1,h2⟩:=VG h hr hv.2;refine⟨λp hp=>?_,λF' hF hb=>⟨?_,h2 F' hF λp hp=>hb p (by simp[hp])⟩⟩
     .rcases M0.1 hp with rfl|hp
      .exact⟨rfl,⟨_,Sz ..,by simp[qh]⟩,_,hk⟩
      .obtain⟨q1,⟨u,q2,q3⟩,q4⟩:=h1 p hp;exact⟨q1,⟨u,M3 _ q2,q3⟩,q4⟩
     .obtain⟨b,c,hl,hx⟩:=hv.1 _ hk rfl;have hco:=h.objs k;rw[hk]at hco;obtain⟨b',c',cs,t',hl',hnF,hblk,hall,hrefs⟩:=hco;rw[hl]at hl';simp only[cp,c0]at hl';obtain⟨rfl,rfl⟩:=hl';have hcd:All2 (CD w F) ds cs.toList:=zb (loc:=loc) (objs:=st.objs) hds (hall.mono λ_ _ h=>h.1);have hlen:=hcd.length;rw[hx];refine CD.ptr ds b 0 (λj=>nth undef cs.toList j) (hb _ (Sz ..) _ _ hl) (λj hj=>?_) (λj hj=>?_)
      .rw[bx,xI hblk,qk _ (by omega)];simp at hlen;simp[show j<cs.size by omega]
      .exact(hcd.nth .undef undef _ _ j hj).mono hF λ_ _=>rfl
    .simp at hc
   .simp at hc
  .rename_i ds;split at hc
   .rename_i ps' us' hr;simp only[cp,c0]at hc;obtain⟨rfl,rfl⟩:=hc;obtain⟨h1,h2⟩:=VG h hr hv.2;obtain⟨b,o,size,hx,_,hrow⟩:=hv.1;have hsz:ds.length=size:=hrow.hs ds (by simp);have hcell:∀j,j<ds.length->∃v,w.cell? ⟨b,o+j,none⟩=some v/\CD w F (nth .undef ds j) v:=λj hj=>by
     have:=hrow.hc j (by simp only[List.length_singleton,Nat.one_mul];omega)
     simpa using this
    open Classical in
    have hptr:CD w F (.ptr ds) x:=by
     rw[hx];simp only[Nat.zero_mul,Nat.add_zero];refine CD.ptr ds b o (λj=>if h:j<ds.length then Classical.choose (hcell j h)else undef) hrow.hF (λj hj=>?_) (λj hj=>?_)
     .rw[dif_pos hj];exact(Classical.choose_spec (hcell j hj)).1
     .rw[dif_pos hj];exact(Classical.choose_spec (hcell j hj)).2
    refine⟨λp hp=>?_,λF' hF hb=>⟨CD.mono hptr hF λ_ _=>rfl,h2 F' hF hb⟩⟩;obtain⟨q1,⟨u,q2,q3⟩,q4⟩:=h1 p hp;exact⟨q1,⟨u,M3 _ q2,q3⟩,q4⟩
   .simp at hc
  .simp at hc
 |[],_::_,_,_,_,h=>h.elim
 |_::_,[],_,_,_,h=>h.elim
omit [Env] in
theorem z6:∀(us:List (Nat×Obj)) (objs:List Obj) (k:Nat),(∀p∈us,p.2= .dead/\p.1<objs.length)->nth .none (upds objs us) k=if(∃p∈us,p.1=k)then .dead else nth .none objs k
 |[],objs,k,_=>by simp[upds]
 |(j,o)::us,objs,k,h=>by
  obtain⟨h1,h2⟩:=h (j,o) (by simp);simp only at h1 h2;subst h1;simp only[upds];rw[z6 us _ k λp hp=>⟨(h p (by simp[hp])).1,by rw[qj];exact(h p (by simp[hp])).2⟩];by_cases hk:∃p∈us,p.1=k
  .rw[if_pos hk,if_pos];obtain⟨p,hp,e⟩:=hk;exact⟨p,by simp[hp],e⟩
  .rw[if_neg hk];by_cases hj:j=k
   .subst hj;rw[qb _ _ _ h2,if_pos ⟨(j,.dead),by simp,rfl⟩]
   .rw[qa _ _ _ hj,if_neg];rintro⟨p,hp,e⟩;rcases M0.1 hp with rfl|hp
    .exact hj e
    .exact hk ⟨p,hp,e⟩
theorem Conc.capture {us:List (Nat×Obj)} {v:V} {x:Value} (h:Conc C B F0 w0 F loc st a w) (hu:∀p∈us,p.2= .dead/\∃cells,nth .none st.objs p.1= .box cells)
 (hv:CD w (λb=>F b\/∃p∈us,∃c,loc p.1=some (b,c)) (match v with| .c d=>d|_=> .undef) x) (hvc:∃d,v= .c d):I2 C B F0 w0 (st.put dst v us) (a.put dst x) w:=by
 have hlt:∀p∈us,p.2= .dead/\p.1<st.objs.length:=λp hp=>by
  obtain⟨h1,cells,h2⟩:=hu p hp;refine⟨h1,?_⟩;rcases cg p.1 st.objs.length with h3|h3
  .exact h3
  .rw[qC _ h3]at h2;simp at h2
 have hn:=λk=>z6 us st.objs k hlt
 open Classical in
 let loc':Where:=⟨loc.P,λk=>if(∃p∈us,p.1=k)then none else loc k,loc.ty⟩
 have a2:Le st.objs (upds st.objs us) loc loc':=by
  refine⟨rfl,λ_ _=>rfl,λj hj=>?_,λj o' hj hc hbx=>?_,λj s' es' fz' hj hc=>?_⟩
  .rw[hn];split
   .simp
   .exact hj
  .rw[hn]at hc;split at hc
   .rw[<-hc]at hbx;simp[xD]at hbx
   .rename_i e;exact⟨by rw[hc];exact hbx,by simp only[loc'];rw[if_neg e]⟩
  .rw[hn]at hc;split at hc
   .simp at hc
   .rename_i e;exact⟨⟨_,_,hc,rfl⟩,by simp only[loc'];rw[if_neg e]⟩
 have a0:∀k b c,loc' k=some (b,c)->loc k=some (b,c)/\¬∃p∈us,p.1=k:=λk b c hl=>by
  simp only[loc']at hl;split at hl
  .simp at hl
  .rename_i e;exact⟨hl,e⟩
 refine⟨λb=>F b\/∃p∈us,∃c,loc p.1=some (b,c),loc',h.step (λb hb=> .inl hb) (λ_ _=>rfl) a2 h.below h.hB (λk=>?_) ?_ ?_ ?_ ?_ ?_ ?_⟩
 .rw[hn];by_cases hk:∃p∈us,p.1=k
  .rw[if_pos hk];show loc' k=none;simp only[loc'];rw[if_pos hk]
  .rw[if_neg hk];refine CO.le (λb hb=> .inl hb) (λ_ _=>rfl) a2 (by simp only[loc'];rw[if_neg hk]) rfl (λb c hl=>⟨rfl,λhnF a1=>?_⟩) (h.objs k);rcases a1 with a1|⟨p,hp,c',a1⟩
   .exact hnF a1
   .exact hk ⟨p,hp,h.inj _ _ _ _ _ a1 hl⟩
 .intro k k' b c c' h1 h2;exact h.inj _ _ _ _ _ (a0 _ _ _ h1).1 (a0 _ _ _ h2).1
 .intro k b c h1;exact h.fresh _ _ _ (a0 _ _ _ h1).1
 .intro b hb;rcases hb with hb|⟨p,hp,c,hb⟩
  .exact h.bound b hb
  .exact(h.fresh _ _ _ hb).2
 .intro b hb;rcases hb with hb|⟨p,hp,c,hb⟩
  .exact h.fsub b hb
  .exact .inr (h.fresh _ _ _ hb).1
 .obtain⟨d,rfl⟩:=hvc;exact hv
 .obtain⟨d,rfl⟩:=hvc;trivial
theorem VH {fn:Fn} {first captured:Array Operand} (h:Conc C B F0 w0 F loc st a w):RS C B F0 w0 st a w ⟨dst,.makeFunc fn first captured,ty,pos,after,g⟩ (xl C ⟨dst,.makeFunc fn first captured,ty,pos,after,g⟩ (ev st) st.objs):=by
 simp only[xl];split
 .rename_i f hf;have a0:first= #[]:=by apply Bx;simpa using hf
  subst a0;split
  .rename_i ps us a1;obtain⟨h1,h2⟩:=VG h a1 (js h captured.toList);have h3:=h2 (λb=>F b\/∃p∈us,∃c,loc p.1=some (b,c)) (λb hb=> .inl hb) (λp hp b c hl=> .inr ⟨p,hp,c,hl⟩);refine⟨_,.func (.func f) #[] (captured.map a.eval),w,by simp[execOp,Instr.makeFunc],.inl rfl,?_⟩;refine h.capture (λp hp=>⟨(h1 p hp).1,(h1 p hp).2.2⟩) ?_ (by cases ps<;>exact⟨_,rfl⟩);have hl:=h3.length;cases ps with
   |nil=>
    have:captured.map a.eval= #[]:=by
     apply Bx;have:captured.toList.length=0:=by simpa using hl.symm
     simp[U3 this]
    rw[this];exact CD.fn f
   |cons p ps=>
    have e:captured.map a.eval=((Ts (p::ps).length).map λj=>nth undef (captured.toList.map a.eval) j).toArray:=by
     apply Bx;rw[Array.toList_map];apply List.ext_getElem
     .simp at hl ⊢;omega
     .intro i hi1 hi2;simp only[List.getElem_map,List.getElem_range];rw[qk _ (by simpa using hi1)];simp
    rw[e];exact CD.clo f (p::ps) _ λj hj=>h3.nth .undef undef _ _ j hj
  .trivial
 .trivial
def RSW (C:Cx) (B:Bd) (F0:Nat->Prop) (w0:World) (st:St) (a:Act) (w:World) (o:Oper):R->Prop
 | .fail=>True
 | .ok v up=>∀(next:Act->World->Prop) (Q:Exit->Act->World->Prop),(∀a' w',I2 C B F0 w0 (st.put o.dst v up) a' w'->next a' w')->o.wp C.P a w next Q
 | .cond (dc:=_) c v up=>c->∀(next:Act->World->Prop) (Q:Exit->Act->World->Prop),(∀a' w',I2 C B F0 w0 (st.put o.dst v up) a' w'->next a' w')->o.wp C.P a w next Q
 | .look z row off ag=>∀ds,cut row off z.length ds->∀(next:Act->World->Prop) (Q:Exit->Act->World->Prop),(∀a' w',I2 C B F0 w0 (st.put o.dst (match ag with|true=> .ag ds|false=> .c (nth .undef ds 0)) []) a' w'->next a' w')->o.wp C.P a w next Q
 | .call f as sh up=>∀rs,Gives C f as rs->(zc sh=false->∀r∈rs,Xz r=true)->∀(next:Act->World->Prop) (Q:Exit->Act->World->Prop),
  (∀a' w',I2 C B F0 w0 (st.put o.dst (ZC rs) up) a' w'->next a' w')->o.wp C.P a w next Q
theorem rsw {o:Oper} {r:R} (h:RS C B F0 w0 st a w o r):RSW C B F0 w0 st a w o r:=by
 cases r with
 |fail=>trivial
 |ok v up=>exact λnext Q hn=>Does.wp h hn
 |cond c v up=>exact λhc next Q hn=>Does.wp (h hc) hn
 |look z row off ag=>exact λds hc next Q hn=>Does.wp (h ds hc) hn
 |call f as sh up=>exact h
def qQ:Obj->List V
 | .box cells=>cells
 | .vec cells=>cells
 | .bld _ q=>[q]
 |_=>[]
def VOk (ob:List Obj) (up:List (Nat×Obj)) (v:V):Prop:=∀k∈qh v,nth .none ob k≠ .none\/(qx ob k=true/\∃x,(k,x)∈up)
def Bl (wd:Bool) (dst:Option Nat) (k:Nat):Prop:=dst=some k\/(wd=true/\∃d,dst=some d/\k=d+1)
def EffR (wd:Bool) (dst:Option Nat) (keys:List Nat) (ob:List Obj):R->Prop
 | .fail=>True
 | .ok v up| .cond (dc:=_) _ v up=>(∀p∈up,((Bl wd dst p.1/\qx ob p.1=true)\/(p.1∈keys/\nth .none ob p.1≠ .none))/\p.2≠ .none/\∀u∈qQ p.2,VOk ob up u)/\VOk ob up v
 | .look .. =>False
 | .call .. =>False
class EffOk (C:Cx):Prop where
 rs:∀{f:Nat} {e:Option Nat->List V->List Obj->R},C.eff f=some e->∀{B:Bd} {F0:Nat->Prop} {w0:World} {F:Nat->Prop} {loc:Where} {st:St} {a:Act} {w:World} {dst:Option Nat} {args:Array Operand} {ts:Array TypeId} {ty:TypeId} {pos:String} {after:Array Edge} {g:Option (Nat×Bool)},
  Conc C B F0 w0 F loc st a w->RSW C B F0 w0 st a w ⟨dst,.call ⟨.value (.func f),args,ts⟩,ty,pos,after,g⟩ (e dst (args.toList.map (ev st)) st.objs)
 ag:∀{f:Nat} {e:Option Nat->List V->List Obj->R},C.eff f=some e->∀(dst:Option Nat) (vs:List V) (ob ob':List Obj),(∀k∈wC ob (vs.flatMap qh),nth .none ob k=nth .none ob' k)->(∀d,Bl (C.wd f) dst d->qx ob d=qx ob' d)->e dst vs ob=e dst vs ob'
 good:∀{f:Nat} {e:Option Nat->List V->List Obj->R},C.eff f=some e->∀(dst:Option Nat) (vs:List V) (ob:List Obj),(∀v∈vs,∀k∈qh v,nth .none ob k≠ .none)->(∀k,∀u∈qQ (nth .none ob k),∀j∈qh u,nth .none ob j≠ .none)->EffR (C.wd f) dst (wC ob (vs.flatMap qh)) ob (e dst vs ob)
theorem cM [EffOk C] {o:Oper} (h:Conc C B F0 w0 F loc st a w):RSW C B F0 w0 st a w o (xl C o (ev st) st.objs):=by
 obtain⟨dst,op,ty,pos,a3,g⟩:=o;cases op with
 |move x=>exact rsw (Bf h)
 |assign x=>exact rsw (Td h)
 |pick c x y=>exact rsw (Bg h)
 |alloc t=>exact rsw (Oi h)
 |box t x=>exact rsw (Fc h)
 |build t parts=>exact rsw (Ot h)
 |buildSlice t len parts=>exact rsw (JM h)
 |load t x=>exact rsw (Bh h)
 |store t p x=>exact rsw (Oj h)
 |nilCheck x=>exact rsw (V9 h)
 |binOp op t x y t2=>exact rsw (Ol h)
 |unOp op t x=>exact rsw (Bi h)
 |convert s t x=>exact rsw (H0 h)
 |makeSlice t x y=>exact rsw (Wn h)
 |slice t x lo hi mx=>exact rsw (Oq h)
 |fieldAddr t x f=>exact rsw (Wl h)
 |field t x f=>exact rsw (Om h)
 |indexAddr t x i=>exact rsw (Wm h)
 |index t x i=>exact rsw (On h)
 |extract x i=>exact rsw (H1 h)
 |makeFunc fn first captured=>exact rsw (VH h)
 |call c=>
  obtain⟨a2,a0,ts⟩:=c;simp only[xl];split
  .split
   .rename_i e he;exact EffOk.rs he h
   .exact rsw (VF h rfl)
  .split
   .rename_i t _ f hx;have a1:=(qU h (.tmp t)).1;rw[hx]at a1;split
    .trivial
    refine rsw (VF h ((λ(y:Value) (hy:CD w F (.fn f) y)=>(by cases hy;rfl:y= .func (.func f) #[] #[])) _ a1))
   .rename_i t _ f ps hx;have a1:=(qU h (.tmp t)).1;rw[hx]at a1;split
    .trivial
    exact rsw (Fg h a1)
   .trivial
  .split
   .rename_i x hx;have:a0= #[x]:=by apply Bx;simpa using hx
    subst this;exact rsw (Fe h)
   .trivial
  .split
   .rename_i x y hx;have:a0= #[x,y]:=by apply Bx;simpa using hx
    subst this;exact rsw (Tj h)
   .trivial
  .split
   .rename_i x hx;have:a0= #[x]:=by apply Bx;simpa using hx
    subst this;exact rsw (Ou h)
   .trivial
  .split
   .rename_i x y hx;have:a0= #[x,y]:=by apply Bx;simpa using hx
    subst this;exact rsw (cG h)
   .trivial
  .split
   .rename_i x y hx;have:a0= #[x,y]:=by apply Bx;simpa using hx
    subst this;exact rsw (cJ h)
   .trivial
  .trivial
 |_=>trivial
omit [Env] in
theorem Tl {z r:List Value} (h:Nx z=some r):∃b o n c b' o' n' c',z= .bool b:: .slice o n c:: .bool b':: .slice o' n' c'::r:=by
 unfold Nx at h;split at h
 .rename_i b o n c b' o' n' c' q;simp only[cp]at h;subst h;exact⟨b,o,n,c,b',o',n',c',rfl⟩
 .simp at h
omit [Env] in
theorem YE {z r:List Value} (h:Nx z=some r):jB z=true/\z.length=r.length+4:=by
 obtain⟨b,o,n,c,b',o',n',c',rfl⟩:=Tl h;simp[jB,aA]
omit [Env] in
theorem y3:∀{k:Nat} {z r:List Value},wA k z=some r->z.length=r.length+4*k/\(0<k->jB z=true)
 |0,z,r,h=>by simp only[wA,cp]at h;subst h;simp
 |k+1,z,r,h=>by
  simp only[wA]at h;split at h
  .rename_i q hq;have h1:=YE hq;have h2:=y3 h;exact⟨by omega,λ_=>h1.1⟩
  .simp at h
omit [Env] in
theorem Tm {z r:List Value} (h:Hi z=some r):z.length=r.length+66/\jB z=true:=by
 unfold Hi at h;split at h
 .rename_i b q;split at h
  .rename_i b' q' hq;have h1:=y3 hq;have h2:=y3 h;simp only[bb]at h1 ⊢;exact⟨by omega,by simp[jB,h1.2]⟩
  .simp at h
 .simp at h
omit [Env] in
theorem R4.len (x:R4) (t:List D):(rk x t).length=t.length+4:=rfl
omit [Env] in
theorem P20.len (x:P20) (t:List D):(pk x t).length=t.length+20:=rfl
omit [Env] in
theorem C66.len (x:C66) (t:List D):(ck x t).length=t.length+66:=rfl
omit [Env] in
theorem y4:∀{g:Bool} {n:Nat} {z:List Value} {K:List D->Prop},exG g n z K->∃ds,K ds/\(jB z=false->∀d∈ds,Xy d=true)/\ds.length=z.length
 |_,0,_,_,h=>h.elim
 |_,_+1,[],K,h=>⟨[],h,λ_ d hd=>absurd hd (by simp),rfl⟩
 |g,n+1,z::r,K,h=>by
  simp only[exG]at h;split at h
  .rename_i q hq;obtain⟨x,h⟩:=h;obtain⟨ds,h1,_,h3⟩:=y4 h;have h4:=Tm hq;exact⟨_,h1,λhz=>(by rw[h4.2]at hz;simp at hz),by rw[C66.len,h3,h4.1]⟩
  split at h
  .rename_i q hq;obtain⟨x,h⟩:=h;obtain⟨ds,h1,_,h3⟩:=y4 h;have h4:=y3 hq;exact⟨_,h1,λhz=>(by rw[h4.2 (by omega)]at hz;simp at hz),by rw[P20.len,h3,h4.1]⟩
  split at h
  .rename_i q hq;obtain⟨x,h⟩:=h;obtain⟨ds,h1,_,h3⟩:=y4 h;have hq:Nx (z::r)=some q:=by
    split at hq
    .exact hq
    .simp at hq
   have h4:=YE hq;exact⟨_,h1,λhz=>(by rw[h4.1]at hz;simp at hz),by rw[R4.len,h3,h4.2]⟩
  have key:∀(d:D),(exG g n r λds=>K (d::ds))->(aA z=false->Xy d=true)->∃ds,K ds/\(jB (z::r)=false->∀d∈ds,Xy d=true)/\ds.length=(z::r).length:=by
   intro d hd a0;obtain⟨ds,h1,h2,h3⟩:=y4 hd;refine⟨d::ds,h1,λhz e he=>?_,by simp[h3]⟩;simp only[jB,I0]at hz;rcases M0.1 he with rfl|he
   .exact a0 hz.1
   .exact h2 hz.2 e he
  cases z<;>obtain⟨x,h⟩:=h<;>refine key _ h ?_<;>simp[Xy,aA]
omit [Env] in
theorem wJ {z:List Value} {K:List D->Prop} (h:JA z K):∃ds,K ds/\(jB z=false->∀d∈ds,Xy d=true)/\ds.length=z.length:=y4 h
omit [Env] in
theorem Qh:∀{sh:List (Bool×List Value)} {K:List A->Prop},Hj sh K->∃rs,K rs/\(zc sh=false->∀r∈rs,Xz r=true)
 |[],K,h=>⟨[],h,λ_ d hd=>absurd hd (by simp)⟩
 |(true,z)::r,K,h=>by
  simp only[Hj]at h;obtain⟨ds,h1,h2,h5⟩:=wJ h;obtain⟨rs,h3,h4⟩:=Qh h1;refine⟨_,h3,λhs=>?_⟩;cases z with
  |nil=>simp[zc]at hs
  |cons z0 z=>
   simp only[zc,I0]at hs;intro q hq;rcases M0.1 hq with rfl|hq
   .exact bc.2 (h2 hs.1)
   .exact h4 hs.2 q hq
 |(false,z)::r,K,h=>by
  simp only[Hj]at h;obtain⟨ds,h1,h2,h5⟩:=wJ h;obtain⟨rs,h3,h4⟩:=Qh h1;refine⟨_,h3,λhs=>?_⟩;cases z with
  |nil=>simp[zc]at hs
  |cons z0 z=>
   simp only[zc,I0]at hs;intro q hq;rcases M0.1 hq with rfl|hq
   .cases ds with
    |nil=>simp at h5
    |cons d ds=>exact h2 hs.1 d (by simp)
   .exact h4 hs.2 q hq
end
end Eng
end
section
namespace Eng
open Go Go.RowKit
variable [Env]
omit [Env] in
theorem Qi {ρ:Operand->V}:∀(l:List Operand),V4 ρ l=l.flatMap λx=>qh (ρ x)
 |[]=>rfl
 |x::r=>by simp only[V4,List.flatMap_cons];rw[Qi r]
omit [Env] in
theorem y5 {ob:List Obj} {k:Nat}:∀{l:List Nat},k∈Wc ob l↔∃j∈l,k=j\/∃T q,nth .none ob j= .bld T q/\k∈qh q
 |[]=>by simp[Wc]
 |j::r=>by
  simp only[Wc,M2];rw[y5];constructor
  .rintro(h|⟨i,h1,h2⟩)
   .split at h
    .rename_i T q hq;rcases M0.1 h with rfl|h
     .exact⟨k,by simp,.inl rfl⟩
     .exact⟨j,by simp,.inr ⟨T,q,hq,h⟩⟩
    .simp only[Ls]at h;exact⟨j,by simp,.inl h⟩
   .exact⟨i,by simp[h1],h2⟩
  .rintro⟨i,h1,h2⟩;rcases M0.1 h1 with rfl|h1
   .refine .inl ?_;rcases h2 with rfl|⟨T,q,hq,h2⟩
    .split<;>simp
    .rw[hq];simp[h2]
   .exact .inr ⟨i,h1,h2⟩
omit [Env] in
theorem ze {k:Nat}:∀{l:List V},k∈jS l↔∃q∈l,k∈qh q
 |[]=>by simp[jS]
 |v::r=>by
  simp only[jS,M2];rw[ze];constructor
  .rintro(h|⟨q,h1,h2⟩)
   .exact⟨v,by simp,h⟩
   .exact⟨q,by simp[h1],h2⟩
  .rintro⟨q,h1,h2⟩;rcases M0.1 h1 with rfl|h1
   .exact .inl h2
   .exact .inr ⟨q,h1,h2⟩
omit [Env] in
theorem qq {ob:List Obj} {k:Nat}:∀{l:List Nat},k∈jQ ob l↔∃j∈l,k=j\/∃q,q∈qQ (nth .none ob j)/\k∈qh q
 |[]=>by simp[jQ]
 |j::r=>by
  simp only[jQ,M2];rw[qq];constructor
  .rintro(h|⟨i,h1,h2⟩)
   .split at h
    .rename_i T q hq;rcases M0.1 h with rfl|h
     .exact⟨k,by simp,.inl rfl⟩
     .exact⟨j,by simp,.inr ⟨q,by rw[hq];simp[qQ],h⟩⟩
    .rename_i cs hq;rcases M0.1 h with rfl|h
     .exact⟨k,by simp,.inl rfl⟩
     .obtain⟨q,h1,h2⟩:=ze.1 h;exact⟨j,by simp,.inr ⟨q,by rw[hq];simpa [qQ]using h1,h2⟩⟩
    .rename_i cs hq;rcases M0.1 h with rfl|h
     .exact⟨k,by simp,.inl rfl⟩
     .obtain⟨q,h1,h2⟩:=ze.1 h;exact⟨j,by simp,.inr ⟨q,by rw[hq];simpa [qQ]using h1,h2⟩⟩
    .simp only[Ls]at h;exact⟨j,by simp,.inl h⟩
   .exact⟨i,by simp[h1],h2⟩
  .rintro⟨i,h1,h2⟩;rcases M0.1 h1 with rfl|h1
   .refine .inl ?_;rcases h2 with rfl|⟨q,hq,h2⟩
    .split<;>simp
    .cases hi:nth .none ob i with
     |bld T q'=>rw[hi]at hq;simp only[qQ,Ls]at hq;subst hq;simp[h2]
     |box cs=>rw[hi]at hq;simp only[qQ]at hq;exact M3 _ (ze.2 ⟨q,hq,h2⟩)
     |vec cs=>rw[hi]at hq;simp only[qQ]at hq;exact M3 _ (ze.2 ⟨q,hq,h2⟩)
     |none=>rw[hi]at hq;simp[qQ]at hq
     |dead=>rw[hi]at hq;simp[qQ]at hq
     |arr _ _ _=>rw[hi]at hq;simp[qQ]at hq
   .exact .inr ⟨i,h1,h2⟩
omit [Env] in
theorem y6 {C:Cx} {o:Oper} {d:Nat} (h:o.dst=some d):d∈UU C o:=by
 unfold UU;rw[h]
 dsimp only
 split
 .split
  .split<;>simp
  .simp
 .simp
omit [Env] in
theorem Wr {C:Cx} {dst:Option Nat} {f:Nat} {args:Array Operand} {ts:Array TypeId} {ty:TypeId} {pos:String} {after:Array Edge} {g:Option (Nat×Bool)} {k:Nat}:k∈UU C ⟨dst,.call ⟨.value (.func f),args,ts⟩,ty,pos,after,g⟩↔Bl (C.wd f) dst k:=by
 unfold UU Bl;cases dst with
 |none=>simp
 |some t=>
  dsimp only
  cases C.wd f with
  |true=>simp[eq_comm]
  |false=>simp[eq_comm]
omit [Env] in
theorem j6 {ob:List Obj} {l:List Nat} {k:Nat} (h:k∈l):k∈jQ ob l:=qq.2 ⟨k,h,.inl rfl⟩
omit [Env] in
theorem Jb {ob:List Obj} {l l':List Nat} (h:∀k∈l,k∈l') {k:Nat} (hk:k∈jQ ob l):k∈jQ ob l':=by
 obtain⟨j,h1,h2⟩:=qq.1 hk;exact qq.2 ⟨j,h j h1,h2⟩
omit [Env] in
theorem jV {ob:List Obj} {l:List Nat} {k:Nat} (h:k∈jQ ob l):k∈wC ob l:=j6 h
omit [Env] in
theorem Jc {ob:List Obj} {l l':List Nat} (h:∀k∈l,k∈l') {k:Nat} (hk:k∈wC ob l):k∈wC ob l':=Jb (λ_ h1=>Jb h h1) hk
omit [Env] in
theorem vU {o:Oper} {ρ:Operand->V} {ob:List Obj} {x:Operand} {k:Nat} (hx:x∈o.op.operands.toList) (hk:k∈qh (ρ x)):k∈opk o ρ ob:=by
 unfold opk;split
 .refine jV ?_;rw[qq,Qi];exact⟨k,No.2 ⟨x,hx,hk⟩,.inl rfl⟩
 .rw[y5,Qi];exact⟨k,No.2 ⟨x,hx,hk⟩,.inl rfl⟩
def Ag (c:Nat) (x y:Obj):Prop:=x=y\/(c<=1/\∃s es fz fz',x= .arr s es fz/\y= .arr s es fz')
omit [Env] in
theorem Ag.symm {c:Nat} {x y:Obj} (h:Ag c x y):Ag c y x:=by
 rcases h with h|⟨h,s,es,fz,fz',h1,h2⟩
 .exact .inl h.symm
 .exact .inr ⟨h,s,es,fz',fz,h2,h1⟩
section
variable {C:Cx} {ob ob':List Obj}
omit [Env] in
theorem y7 {c:Nat}:∀{cs:List VC},(∀k∈z5 cs,Ag c (nth .none ob k) (nth .none ob' k))->dataC ob cs=dataC ob' cs
 |[],_=>rfl
 | .d d::r,h=>by simp only[dataC,KV];rw[y7 (cs:=r) λk hk=>h k (by simpa [z5]using hk)]
 | .nil::r,h=>by simp only[dataC,KV];rw[y7 (cs:=r) λk hk=>h k (by simpa [z5]using hk)]
 | .arr j::r,h=>by
  simp only[dataC,KV];rw[y7 (cs:=r) λk hk=>h k (by simp[z5,hk])];rcases h j (by simp[z5])with h|⟨_,s,es,fz,fz',h1,h2⟩
  .simp only[h]
  .simp only[h1,h2]
 | .vec j n::r,h=>by simp only[dataC,KV]
omit [Env] in
theorem Fh {c:Nat} {v:V} (h:∀k∈qh v,Ag c (nth .none ob k) (nth .none ob' k)):vc1 ob v=vc1 ob' v:=by
 cases v<;>try rfl
 .rename_i k;rcases h k (by simp[qh])with h|⟨_,s,es,fz,fz',h1,h2⟩
  .simp only[vc1,h]
  .simp only[vc1,h1,h2]
 .rename_i k n;rcases h k (by simp[qh])with h|⟨_,s,es,fz,fz',h1,h2⟩
  .simp only[vc1,h]
  .simp only[vc1,h1,h2]
omit [Env] in
theorem Ws {c:Nat} {ρ:Operand->V} {pl:List (Nat×Nat)}:∀{l:List (Nat×Operand)} {j:Nat},(∀p∈l,∀k∈qh (ρ p.2),Ag c (nth .none ob k) (nth .none ob' k))->zO ob ρ pl j l=zO ob' ρ pl j l
 |[],_,_=>rfl
 |(i,x)::l,j,h=>by simp only[zO];rw[Fh (h (i,x) (by simp)),Ws (l:=l) λp hp=>h p (by simp[hp])]
omit [Env] in
theorem H3 {c:Nat} {v:V} (h:∀k∈qh v,Ag c (nth .none ob k) (nth .none ob' k)):cellsOf ob v=cellsOf ob' v:=by
 cases v<;>try rfl
 .rename_i k;rcases h k (by simp[qh])with h|⟨_,s,es,fz,fz',h1,h2⟩
  .simp only[cellsOf,h]
  .simp only[cellsOf,h1,h2]
 .rename_i cs;simp only[cellsOf];rw[y7 (cs:=cs) λk hk=>h k hk]
omit [Env] in
theorem Fi {c:Nat} {v:V} (h:∀k∈qh v,Ag c (nth .none ob k) (nth .none ob' k)):toA ob v=toA ob' v:=by
 cases v<;>try rfl
 .rename_i k;rcases h k (by simp[qh])with h|⟨_,s,es,fz,fz',h1,h2⟩
  .simp only[toA,h]
  .simp only[toA,h1,h2]
 .rename_i cs;simp only[toA];rw[y7 (cs:=cs) λk hk=>h k hk]
omit [Env] in
theorem YF {c:Nat} {v:V} (h:∀k∈qh v,Ag c (nth .none ob k) (nth .none ob' k)):vM ob v=vM ob' v:=by
 cases v with
 |c d=>cases d<;>rfl
 |arr k=>?_
 |_=>rfl
 rcases h k (by simp[qh])with h|⟨_,s,es,fz,fz',h1,h2⟩
 .simp only[vM,h]
 .simp only[vM,h1,h2]
omit [Env] in
theorem Tn {c:Nat} {v:V} (h:∀k∈qh v,Ag c (nth .none ob k) (nth .none ob' k)):v9 ob v=v9 ob' v:=by
 have he:=YF h;cases v with
 |sub k o l=>?_
 |_=>simp only[v9,he]
 rcases h k (by simp[qh])with h|⟨_,s,es,fz,fz',h1,h2⟩
 .simp only[v9,h]
 .simp only[v9,h1,h2]
omit [Env] in
theorem z7 {c:Nat}:∀{vs:List V},(∀v∈vs,∀k∈qh v,Ag c (nth .none ob k) (nth .none ob' k))->j5 ob vs=j5 ob' vs
 |[],_=>rfl
 |v::vs,h=>by simp only[j5];rw[Fi (h v (by simp)),z7 λu hu=>h u (by simp[hu])]
omit [Env] in
theorem XD {c:Nat} {ρ:Operand->V}:∀{ps:List (Nat×Operand)},(∀p∈ps,∀k∈qh (ρ p.2),Ag c (nth .none ob k) (nth .none ob' k))->xX ob ρ ps=xX ob' ρ ps
 |[],_=>rfl
 |(i,x)::ps,h=>by simp only[xX];rw[H3 (h (i,x) (by simp)),XD λu hu=>h u (by simp[hu])]
omit [Env] in
theorem Wt {ob:List Obj} {ts:Array TypeId} {v:V} (h:∀k o l,v≠ .sub k o l):Xq C ob ts v= .fail:=by
 unfold Xq;split
 .split
  .split
   .exact absurd rfl (h _ _ _)
   .rfl
  .rfl
 .rfl
omit [Env] in
theorem To:∀{vs:List V},(∀v∈vs,∀k∈qh v,Ag 2 (nth .none ob k) (nth .none ob' k))->V2 ob vs=V2 ob' vs
 |[],_=>rfl
 |v::vs,h=>by
  have ih:=To (vs:=vs) λu hu=>h u (by simp[hu])
  cases v with
  |box k off=>
   cases off with
   |zero=>
    rcases h _ (Sz ..) k (by simp[qh])with h1|⟨h1,_⟩
    .simp only[V2,h1,ih]
    .omega
   |succ n=>rfl
  |eref es i off=>
   unfold V2;split
   .rename_i h0;cases h0
   .rw[ih]
   .rfl
  |_=>rfl
theorem Bm [EffOk C] {o:Oper} {ρ:Operand->V} (hk:cls C o=0\/∀k∈opk o ρ ob,Ag (cls C o) (nth .none ob k) (nth .none ob' k)) (hd1:∀d,d∈UU C o->qx ob d=qx ob' d):xl C o ρ ob=xl C o ρ ob':=by
 have hd:∀d,o.dst=some d->qx ob d=qx ob' d:=λd h=>hd1 d (y6 h)
 obtain⟨a4,op,ty,a6,a2,g⟩:=o;have a1:∀{c:Nat} (x:Operand),x∈op.operands.toList->(c=0\/∀k∈opk ⟨a4,op,ty,a6,a2,g⟩ ρ ob,Ag c (nth .none ob k) (nth .none ob' k))->c≠0->∀k∈qh (ρ x),Ag c (nth .none ob k) (nth .none ob' k):=by
  intro c x hx h hc k hkx;rcases h with h|h
  .exact absurd h hc
  .exact h k (vU hx hkx)
 cases op with
 |move x=>rfl
 |assign x=>rfl
 |pick c x y=>rfl
 |binOp op t x y t2=>rfl
 |unOp op t x=>rfl
 |convert s t x=>rfl
 |field t x f=>rfl
 |index t x i=>rfl
 |extract x i=>rfl
 |alloc t=>
  cases a4 with
  |none=>rfl
  |some d=>simp only[xl];rw[hd d rfl]
 |box t x=>
  cases a4 with
  |none=>rfl
  |some d=>simp only[xl];rw[hd d rfl]
 |makeSlice t x y=>
  cases a4 with
  |none=>rfl
  |some d=>simp only[xl];rw[hd d rfl]
 |build t parts=>
  have h1:xX ob ρ parts.toList=xX ob' ρ parts.toList:=XD λp hp=>a1 (c:=1) p.2 (by simp only[J4];exact Lv.2 ⟨p,hp,rfl⟩) hk (by simp)
  have h2:∀pl,zO ob ρ pl 0 parts.toList=zO ob' ρ pl 0 parts.toList:=λpl=>Ws λp hp=>a1 (c:=1) p.2 (by simp only[J4];exact Lv.2 ⟨p,hp,rfl⟩) hk (by simp)
  simp only[xl,h1,h2]
 |buildSlice t len parts=>
  have h1:xX ob ρ parts.toList=xX ob' ρ parts.toList:=XD λp hp=>a1 (c:=1) p.2 (by simp only[J4];exact Lv.2 ⟨p,hp,rfl⟩) hk (by simp)
  cases a4 with
  |none=>rfl
  |some d=>
   have h2:∀e,Xr C.P d ob e len (JB ρ parts.toList)=Xr C.P d ob' e len (JB ρ parts.toList):=λe=>by
    cases hv:JB ρ parts.toList<;>try rfl
    rename_i j;obtain⟨x,hp,hx⟩:=JL hv (by simp);have h2:=a1 (c:=1) x (by simp only[J4];exact Lv.2 ⟨(0,x),by rw[hp];simp,rfl⟩) hk (by simp);rw[hx]at h2;rcases h2 j (by simp[qh])with h|⟨_,s,es,fz,a3,h3,h4⟩
    .simp only[Xr,h]
    .simp only[Xr,h3,h4]
   simp only[xl,h1,h2];rw[hd d rfl]
 |load t x=>
  have h1:=a1 (c:=1) x (by simp[J4]) hk (by simp);simp only[xl,NS];cases hx:ρ x<;>try rfl
  .rename_i k a5;rw[hx]at h1;rcases h1 k (by simp[qh])with h|⟨_,s,es,fz,a3,h1,h2⟩
   .simp only[h]
   .simp only[h1,h2]
  .rename_i k i a5;rw[hx]at h1;rcases h1 k (by simp[qh])with h|⟨_,s,es,fz,a3,h1,h2⟩
   .simp only[h]
   .simp only[h1,h2]
 |nilCheck x=>
  have h1:=a1 (c:=1) x (by simp[J4]) hk (by simp);simp only[xl];cases hx:ρ x<;>try rfl
  rename_i k a5;rw[hx]at h1;rcases h1 k (by simp[qh])with h|⟨_,s,es,fz,a3,h1,h2⟩
  .simp only[h]
  .simp only[h1,h2]
 |fieldAddr t x f=>
  have h1:=a1 (c:=1) x (by simp[J4]) hk (by simp);simp only[xl];cases hx:ρ x<;>try rfl
  .rename_i k a5;rw[hx]at h1;rcases h1 k (by simp[qh])with h|⟨_,s,es,fz,a3,h1,h2⟩
   .simp only[h]
   .simp only[h1,h2]
  .rename_i k i a5;rw[hx]at h1;rcases h1 k (by simp[qh])with h|⟨_,s,es,fz,a3,h1,h2⟩
   .simp only[h]
   .simp only[h1,h2]
 |indexAddr t x i=>
  have h1:=a1 (c:=1) x (by simp[J4]) hk (by simp);simp only[xl,vc];cases hx:ρ x with
  |c d=>cases d<;>rfl
  |box k a5=>?_
  |arr k=>?_
  |sub k o l=>?_
  |vec k l=>?_
  |gl g a5=>cases a5<;>rfl
  |_=>rfl
  .rw[hx]at h1;rcases h1 k (by simp[qh])with h|⟨_,s,es,fz,a3,h1,h2⟩
   .simp only[h]
   .simp only[h1,h2]
  .rw[hx]at h1;rcases h1 k (by simp[qh])with h|⟨_,s,es,fz,a3,h1,h2⟩
   .simp only[h]
   .simp only[h1,h2]
  .rw[hx]at h1;rcases h1 k (by simp[qh])with h|⟨_,s,es,fz,a3,h1,h2⟩
   .simp only[h]
   .simp only[h1,h2]
  .rw[hx]at h1;rcases h1 k (by simp[qh])with h|⟨_,s,es,fz,a3,h1,h2⟩
   .simp only[h]
   .simp only[h1,h2]
 |slice t x lo hi mx=>
  have h1:vM ob (ρ x)=vM ob' (ρ x):=YF (a1 (c:=1) x (by simp[J4]) hk (by simp));have h2:=a1 (c:=1) x (by simp[J4]) hk (by simp);have h3:∀lo hi mx,V0 C.P t ob (ρ x) lo hi mx=V0 C.P t ob' (ρ x) lo hi mx:=by
   intro lo hi mx;unfold V0;cases C.P.underlying t with
   |none=>rfl
   |some d=>cases d with
    |slice e=>
     dsimp only
     cases zN C.P e with
     |none=>rfl
     |some z=>cases hx:ρ x with
      |arr k=>
       rw[hx]at h2
       dsimp only
       rcases h2 k (by simp[qh])with h|⟨_,s,es,fz,a3,h1,h2⟩
       .simp only[h]
       .simp only[h1,h2]
      |_=>rfl
    |_=>rfl
  simp only[xl,Wa,KZ,h1,h3]
 |store t p x=>
  have h1:=a1 (c:=2) p (by simp[J4]) hk (by simp);have h2:=a1 (c:=2) x (by simp[J4]) hk (by simp);have e1:∀k,k∈qh (ρ p)->nth .none ob k=nth .none ob' k:=λk hkk=>by
   rcases h1 k hkk with h|⟨h,_⟩
   .exact h
   .omega
  have e2:∀k,k∈qh (ρ x)->nth .none ob k=nth .none ob' k:=λk hkk=>by
   rcases h2 k hkk with h|⟨h,_⟩
   .exact h
   .omega
  simp only[xl,Y4];cases hp:ρ p<;>try rfl
  .rename_i k a5;rw[hp]at e1
   dsimp only
   rw[e1 k (by simp[qh])];cases hx:ρ x<;>try rfl
   rename_i j;rw[hx]at e2
   dsimp only
   rw[e2 j (by simp[qh])]
  .rename_i k i a5;rw[hp]at e1
   dsimp only
   rw[e1 k (by simp[qh])]
 |makeFunc fn first captured=>
  simp only[xl];split
  .have h1:V2 ob (captured.toList.map ρ)=V2 ob' (captured.toList.map ρ):=To λv hv=>by obtain⟨x,hx,rfl⟩:=Lv.1 hv;exact a1 (c:=2) x (by simp[J4];exact .inr (by simpa using hx)) hk (by simp)
   rw[h1]
  .rfl
 |call c=>
  obtain⟨a7,a0,ts⟩:=c;simp only[xl];split
  .rename_i f;cases he:C.eff f with
   |none=>
    have ad:cls C ⟨a4,.call ⟨.value (.func f),a0,ts⟩,ty,a6,a2,g⟩=1:=by simp[cls,he]
    rw[ad]at hk;have h1:j5 ob (a0.toList.map ρ)=j5 ob' (a0.toList.map ρ):=z7 λv hv=>by obtain⟨x,hx,rfl⟩:=Lv.1 hv;exact a1 (c:=1) x (by simp[J4,J3];exact .inr (by simpa using hx)) hk (by simp)
    simp only[kC,h1]
   |some e=>
    have ad:cls C ⟨a4,.call ⟨.value (.func f),a0,ts⟩,ty,a6,a2,g⟩=2:=by simp[cls,he]
    rw[ad]at hk;refine EffOk.ag he _ _ _ _ (λk hkk=>?_) (λd hd'=>hd1 d (Wr.2 hd'));rcases hk with h|h
    .simp at h
    .have hin:k∈opk ⟨a4,.call ⟨.value (.func f),a0,ts⟩,ty,a6,a2,g⟩ ρ ob:=by show k∈wC ob _;refine Jc (λj h1=>?_) hkk;rw[Qi];obtain⟨v,hv,hj⟩:=No.1 h1;obtain⟨x,hx,rfl⟩:=Lv.1 hv;exact No.2 ⟨x,by simp only[J4,J3,Aw];exact M1 _ hx,hj⟩
     rcases h k hin with h|⟨h,_⟩
     .exact h
     .omega
  .rename_i t;have h1:j5 ob (a0.toList.map ρ)=j5 ob' (a0.toList.map ρ):=z7 λv hv=>by obtain⟨x,hx,rfl⟩:=Lv.1 hv;exact a1 (c:=1) x (by simp[J4,J3];exact .inr (by simpa using hx)) hk (by simp)
   split
   .split
    .rfl
    .simp only[kC,h1]
   .rename_i f ps _;have h2:j5 ob (a0.toList.map ρ++ps.map V.c)=j5 ob' (a0.toList.map ρ++ps.map V.c):=z7 (c:=1) λv hv=>by
     rcases M2.1 hv with hv|hv
     .obtain⟨x,hx,rfl⟩:=Lv.1 hv;exact a1 (c:=1) x (by simp[J4,J3];exact .inr (by simpa using hx)) hk (by simp)
     .obtain⟨d,_,rfl⟩:=Lv.1 hv;intro k hk;simp[qh]at hk
    split
    .rfl
    .simp only[kC,h2]
   .rfl
  .split
   .rename_i x hx;have:a0= #[x]:=by apply Bx;simpa using hx
    subst this;have h1:=a1 (c:=1) x (by simp[J4,J3]) hk (by simp);simp only[EW];cases hx:ρ x with
    |c d=>cases d<;>rfl
    |arr k=>?_
    |sub k o l=>?_
    |vec k l=>?_
    |_=>rfl
    .rw[hx]at h1;rcases h1 k (by simp[qh])with h|⟨_,s,es,fz,a3,h1,h2⟩
     .simp only[h]
     .simp only[h1,h2]
    .rw[hx]at h1;rcases h1 k (by simp[qh])with h|⟨_,s,es,fz,a3,h1,h2⟩
     .simp only[h]
     .simp only[h1,h2]
    .rw[hx]at h1;rcases h1 k (by simp[qh])with h|⟨_,s,es,fz,a3,h1,h2⟩
     .simp only[h]
     .simp only[h1,h2]
   .rfl
  .split
   .rename_i x y hx;have:a0= #[x,y]:=by apply Bx;simpa using hx
    subst this;have h1:=a1 (c:=2) x (by simp[J4,J3]) hk (by simp);have h2:v9 ob (ρ y)=v9 ob' (ρ y):=Tn (a1 (c:=2) y (by simp[J4,J3]) hk (by simp));cases a4 with
    |none=>rfl
    |some d=>
     have hl:∀v,(∀k∈qh v,Ag 2 (nth .none ob k) (nth .none ob' k))->SS ob v=SS ob' v:=λv h=>by
      cases v<;>try rfl
      rename_i k n;rcases h k (by simp[qh])with h|⟨h,_⟩
      .simp only[SS,h]
      .omega
     have hw:∀e,vN C.P d ob e (ρ x) (ρ y)=vN C.P d ob' e (ρ x) (ρ y):=λe=>by unfold vN;rw[hl _ h1,hl _ (a1 (c:=2) y (by simp[J4,J3]) hk (by simp))]
     simp only[Xp,h2,hw];rw[hd d rfl];cases hx:ρ x<;>try rfl
     all_goals
      rw[hx]at h1;rcases h1 _ (by simp[qh];rfl)with h|⟨h,_⟩
      .dsimp only
       rw[h]
      .omega
   .rfl
  .split
   .rename_i x hx;have:a0= #[x]:=by apply Bx;simpa using hx
    subst this;have h1:=a1 (c:=2) x (by simp[J4,J3]) hk (by simp);by_cases hs:∃k o l,ρ x= .sub k o l
    .obtain⟨k,o,l,hx⟩:=hs;rw[hx]at h1 ⊢;rcases h1 k (by simp[qh])with h|⟨h,_⟩
     .unfold Xq;split
      .split
       .split
        .rename_i hv;simp only[V.sub.injEq]at hv;obtain⟨rfl,rfl,rfl⟩:=hv;rw[h]
        .rfl
       .rfl
      .rfl
     .omega
    .have al:∀k o l,ρ x≠ .sub k o l:=λk o l e=>hs ⟨k,o,l,e⟩
     rw[Wt al,Wt al]
   .rfl
  .rfl
  .rfl
  .rfl
 |_=>rfl
end
end Eng
end
section
namespace Eng
open Go Go.RowKit
variable [Env]
section
variable {C:Cx} {ob:List Obj}
omit [Env] in
theorem wK {ρ ρ':Operand->V}:∀{ps:List (Nat×Operand)},(∀p∈ps,ρ p.2=ρ' p.2)->xX ob ρ ps=xX ob ρ' ps
 |[],_=>rfl
 |(i,x)::ps,h=>by simp only[xX];rw[h (i,x) (by simp),wK λu hu=>h u (by simp[hu])]
omit [Env] in
theorem Q5 {ob:List Obj} {ρ ρ':Operand->V} {pl:List (Nat×Nat)}:∀{l:List (Nat×Operand)} {j:Nat},(∀p∈l,ρ p.2=ρ' p.2)->zO ob ρ pl j l=zO ob ρ' pl j l
 |[],_,_=>rfl
 |(i,x)::l,j,h=>by simp only[zO];rw[show ρ x=ρ' x from h (i,x) (by simp),Q5 (l:=l) λp hp=>h p (by simp[hp])]
omit [Env] in
theorem Q6 {ρ ρ':Operand->V}:∀{l:List (Nat×Operand)},(∀p∈l,ρ p.2=ρ' p.2)->Xn ρ l=Xn ρ' l
 |[],_=>rfl
 |(i,x)::l,h=>by simp only[Xn];rw[show ρ x=ρ' x from h (i,x) (by simp),Q6 (l:=l) λp hp=>h p (by simp[hp])]
omit [Env] in
theorem H4 {o:Oper} {ρ ρ':Operand->V} (h:∀x∈o.op.operands.toList,ρ x=ρ' x):xl C o ρ ob=xl C o ρ' ob:=by
 obtain⟨dst,op,ty,pos,a3,g⟩:=o;cases op with
 |alloc t=>rfl
 |move x|assign x|unOp op t x|convert s t x|field t x f|extract x i|box t x|load t x|nilCheck x|fieldAddr t x f=>simp only[xl];rw[h x (by simp[J4])]
 |pick c x y=>simp only[xl];rw[h c (by simp[J4]),h x (by simp[J4]),h y (by simp[J4])]
 |binOp op t x y t2=>simp only[xl];rw[h x (by simp[J4]),h y (by simp[J4])]
 |index t x y=>simp only[xl];rw[h x (by simp[J4]),h y (by simp[J4])]
 |indexAddr t x y=>simp only[xl];rw[h x (by simp[J4]),h y (by simp[J4])]
 |makeSlice t x y=>simp only[xl];rw[h x (by simp[J4]),h y (by simp[J4])]
 |store t x y=>simp only[xl];rw[h x (by simp[J4]),h y (by simp[J4])]
 |slice t x lo hi mx=>
  have ho:∀z:Option Operand,(∀x,z=some x->ρ x=ρ' x)->xW ρ z=xW ρ' z:=λz hz=>by
   cases z with
   |none=>rfl
   |some x=>simp only[xW];rw[hz x rfl]
  simp only[xl];rw[h x (by simp[J4]),ho lo (λy hy=>h y (by subst hy;simp[J4])),ho hi (λy hy=>h y (by subst hy;simp[J4])),ho mx (λy hy=>h y (by subst hy;simp[J4]))]
 |build t parts=>
  have h1:xX ob ρ parts.toList=xX ob ρ' parts.toList:=wK λp hp=>h p.2 (by simp only[J4];exact Lv.2 ⟨p,hp,rfl⟩)
  have h2:∀pl,zO ob ρ pl 0 parts.toList=zO ob ρ' pl 0 parts.toList:=λpl=>Q5 λp hp=>h p.2 (by simp only[J4];exact Lv.2 ⟨p,hp,rfl⟩)
  have h3:Xn ρ parts.toList=Xn ρ' parts.toList:=Q6 λp hp=>h p.2 (by simp only[J4];exact Lv.2 ⟨p,hp,rfl⟩)
  simp only[xl,h1,h2,h3]
 |buildSlice t len parts=>
  have h1:xX ob ρ parts.toList=xX ob ρ' parts.toList:=wK λp hp=>h p.2 (by simp only[J4];exact Lv.2 ⟨p,hp,rfl⟩)
  have h2:JB ρ parts.toList=JB ρ' parts.toList:=by
   unfold JB;split
   .rename_i x hx;exact h x (by simp only[J4];exact Lv.2 ⟨(0,x),by rw[hx];simp,rfl⟩)
   .rfl
  simp only[xl,h1,h2]
 |makeFunc fn first captured=>
  have hc:captured.toList.map ρ=captured.toList.map ρ':=Tk λx hx=>h x (by simp only[J4,Aw];exact M1 _ hx)
  simp only[xl];rw[hc]
 |call c=>
  obtain⟨a2,a1,ts⟩:=c;have a0:∀x∈a1.toList,ρ x=ρ' x:=λx hx=>h x (by
   simp only[J4,J3,Aw];exact M1 _ hx)
  simp only[xl];split
  .rw[Tk a0]
  .rename_i t;rw[Tk a0,h (.tmp t) (by simp[J4,J3])]
  .split
   .rename_i x hx;rw[a0 x (by rw[hx];simp)]
   .rfl
  .split
   .rename_i x y hx;rw[a0 x (by rw[hx];simp),a0 y (by rw[hx];simp)]
   .rfl
  .split
   .rename_i x hx;rw[a0 x (by rw[hx];simp)]
   .rfl
  .split
   .rename_i x y hx;rw[a0 x (by rw[hx];simp),a0 y (by rw[hx];simp)]
   .rfl
  .split
   .rename_i x y hx;rw[a0 x (by rw[hx];simp),a0 y (by rw[hx];simp)]
   .rfl
  .rfl
 |_=>rfl
def UOk (C:Cx) (o:Oper) (ρ:Operand->V) (ob:List Obj) (up:List (Nat×Obj)) (p:Nat×Obj):Prop:=
 ((p.1∈UU C o/\qx ob p.1=true)\/(p.1∈opk o ρ ob/\cls C o≠0/\nth .none ob p.1≠ .none/\(cls C o<=1->∃s es fz,nth .none ob p.1= .arr s es fz/\p.2= .arr s es true)))/\
 p.2≠ .none/\∀u∈qQ p.2,VOk ob up u
def GoodR (C:Cx) (o:Oper) (ρ:Operand->V) (ob:List Obj):R->Prop
 | .fail=>True
 | .ok v up=>(∀p∈up,UOk C o ρ ob up p)/\VOk ob up v
 | .cond (dc:=_) _ v up=>(∀p∈up,UOk C o ρ ob up p)/\VOk ob up v
 | .look .. =>True
 | .call _ _ _ up=>∀p∈up,UOk C o ρ ob up p
omit [Env] in
theorem Jd (v:Value):qh (v8 v)=[]:=by
 unfold v8;split<;>try rfl
 split<;>rfl
def FzOk (vs:List V) (ob:List Obj) (us:List (Nat×Obj)):Prop:=∀p∈us,(∃v∈vs,p.1∈qh v)/\∃s es fz,nth .none ob p.1= .arr s es fz/\p.2= .arr s es true
omit [Env] in
theorem JO:∀{cs:List VC} {ds:List D} {us:List (Nat×Obj)},dataC ob cs=some (ds,us)->∀p∈us,p.1∈z5 cs/\∃s es fz,nth .none ob p.1= .arr s es fz/\p.2= .arr s es true
 |[],ds,us,h,p,hp=>by simp only[dataC,cp,c0]at h;obtain⟨_,rfl⟩:=h;simp at hp
 |c::r,ds,us,h,p,hp=>by
  simp only[dataC]at h;split at h
  .rename_i d u ds' us' h1 h2;simp only[cp,c0]at h;obtain⟨_,rfl⟩:=h;rcases M2.1 hp with hp|hp
   .unfold KV at h1;split at h1
    .simp only[cp,c0]at h1;obtain⟨_,rfl⟩:=h1;simp at hp
    .simp only[cp,c0]at h1;obtain⟨_,rfl⟩:=h1;simp at hp
    .split at h1
     .rename_i k _ s es fz hk;simp only[cp,c0]at h1;obtain⟨_,rfl⟩:=h1;simp only[Ls]at hp;subst hp;exact⟨by simp[z5],_,_,_,hk,rfl⟩
     .simp at h1
    .simp at h1
   .obtain⟨q1,q2⟩:=JO h2 p hp;obtain⟨c',hc',hkv⟩:=xx.1 q1;exact⟨xx.2 ⟨c',M3 _ hc',hkv⟩,q2⟩
  .simp at h
omit [Env] in
theorem H5 {v:V} {ds:List D} {us:List (Nat×Obj)} (h:cellsOf ob v=some (ds,us)):FzOk [v] ob us:=by
 unfold cellsOf at h;split at h<;>try (simp only[cp,c0]at h;obtain⟨_,rfl⟩:=h;exact λ_ hp=>absurd hp (by simp))
 .split at h
  .rename_i k _ s es fz hk;simp only[cp,c0]at h;obtain⟨_,rfl⟩:=h;intro p hp;simp only[Ls]at hp;subst hp;exact⟨⟨.arr k,by simp,by simp[qh]⟩,_,_,_,hk,rfl⟩
  .simp at h
 .rename_i cs;intro p hp;obtain⟨q1,q2⟩:=JO h p hp;exact⟨⟨_,Ls.2 rfl,q1⟩,q2⟩
 .simp at h
omit [Env] in
theorem Fj {v:V} {d:A} {us:List (Nat×Obj)} (h:toA ob v=some (d,us)):FzOk [v] ob us:=by
 unfold toA at h;split at h<;>try (simp only[cp,c0]at h;obtain⟨_,rfl⟩:=h;exact λ_ hp=>absurd hp (by simp))
 .split at h
  .rename_i k _ s es fz hk;simp only[cp,c0]at h;obtain⟨_,rfl⟩:=h;intro p hp;simp only[Ls]at hp;subst hp;exact⟨⟨.arr k,by simp,by simp[qh]⟩,_,_,_,hk,rfl⟩
  .simp at h
 .split at h
  .rename_i cs ds' us' h2;simp only[cp,c0]at h;obtain⟨_,rfl⟩:=h;intro p hp;obtain⟨q1,q2⟩:=JO h2 p hp;exact⟨⟨_,Ls.2 rfl,q1⟩,q2⟩
  .simp at h
 .simp at h
omit [Env] in
theorem Ov {v:V} {d:List (List D)} {us:List (Nat×Obj)} (h:vM ob v=some (d,us)):FzOk [v] ob us:=by
 unfold vM at h;split at h<;>try (simp only[cp,c0]at h;obtain⟨_,rfl⟩:=h;exact λ_ hp=>absurd hp (by simp))
 .split at h
  .rename_i k _ s es fz hk;simp only[cp,c0]at h;obtain⟨_,rfl⟩:=h;intro p hp;simp only[Ls]at hp;subst hp;exact⟨⟨.arr k,by simp,by simp[qh]⟩,_,_,_,hk,rfl⟩
  .simp at h
 .simp at h
omit [Env] in
theorem FzOk.mono {vs vs':List V} {us:List (Nat×Obj)} (h:FzOk vs ob us) (hs:∀v∈vs,v∈vs'):FzOk vs' ob us:=λp hp=>by
 obtain⟨⟨v,h1,h2⟩,h3⟩:=h p hp;exact⟨⟨v,hs v h1,h2⟩,h3⟩
omit [Env] in
theorem FzOk.append {vs:List V} {us us':List (Nat×Obj)} (h:FzOk vs ob us) (h':FzOk vs ob us'):FzOk vs ob (us++us'):=λp hp=>by
 rcases M2.1 hp with hp|hp
 .exact h p hp
 .exact h' p hp
omit [Env] in
theorem kb:∀{vs:List V} {ds:List A} {us:List (Nat×Obj)},j5 ob vs=some (ds,us)->FzOk vs ob us
 |[],ds,us,h=>by simp only[j5,cp,c0]at h;obtain⟨_,rfl⟩:=h;exact λ_ hp=>absurd hp (by simp)
 |v::vs,ds,us,h=>by
  simp only[j5]at h;split at h
  .rename_i d u as us' h1 h2;simp only[cp,c0]at h;obtain⟨_,rfl⟩:=h;exact((Fj h1).mono (by simp)).append ((kb h2).mono λv hv=>by simp[hv])
  .simp at h
omit [Env] in
theorem y8 {ρ:Operand->V}:∀{ps:List (Nat×Operand)} {qs:List (Nat×List D)} {us:List (Nat×Obj)},xX ob ρ ps=some (qs,us)->FzOk (ps.map λp=>ρ p.2) ob us
 |[],ds,us,h=>by simp only[xX,cp,c0]at h;obtain⟨_,rfl⟩:=h;exact λ_ hp=>absurd hp (by simp)
 |(i,x)::vs,ds,us,h=>by
  simp only[xX]at h;split at h
  .rename_i d u as us' h1 h2;simp only[cp,c0]at h;obtain⟨_,rfl⟩:=h;exact((H5 h1).mono (by simp)).append ((y8 h2).mono λv hv=>by simp only[bm,M0];exact .inr hv)
  .simp at h
omit [Env] in
theorem FzOk.up {o:Oper} {ρ:Operand->V} {vs:List V} {us:List (Nat×Obj)} (h:FzOk vs ob us) (hv:∀v∈vs,∃x∈o.op.operands.toList,ρ x=v) (hc:cls C o≠0) (up:List (Nat×Obj)):∀p∈us,UOk C o ρ ob up p:=λp hp=>by
 obtain⟨⟨v,h1,h2⟩,s,es,fz,h3,h4⟩:=h p hp;obtain⟨x,hx,rfl⟩:=hv v h1;exact⟨.inr ⟨vU hx h2,hc,by rw[h3];simp,λ_=>⟨s,es,fz,h3,h4⟩⟩,by rw[h4];simp,λu hu=>by rw[h4]at hu;simp[qQ]at hu⟩
omit [Env] in
theorem GoodR.data {o:Oper} {ρ:Operand->V} {v:V} (hv:qh v=[]):GoodR C o ρ ob (.ok v []):=⟨λ_ h=>absurd h (by simp),λk hk=>by rw[hv]at hk;simp at hk⟩
omit [Env] in
theorem GoodR.dataC {o:Oper} {ρ:Operand->V} {c:Prop} [Decidable c] {v:V} (hv:qh v=[]):GoodR C o ρ ob (.cond c v []):=⟨λ_ h=>absurd h (by simp),λk hk=>by rw[hv]at hk;simp at hk⟩
omit [Env] in
theorem GoodR.same {o:Oper} {ρ:Operand->V} {v:V} (hv:∀k∈qh v,nth .none ob k≠ .none):GoodR C o ρ ob (.ok v []):=⟨λ_ h=>absurd h (by simp),λk hk=> .inl (hv k hk)⟩
omit [Env] in
theorem GoodR.sameC {o:Oper} {ρ:Operand->V} {c:Prop} [Decidable c] {v:V} (hv:∀k∈qh v,nth .none ob k≠ .none):GoodR C o ρ ob (.cond c v []):=⟨λ_ h=>absurd h (by simp),λk hk=> .inl (hv k hk)⟩
omit [Env] in
theorem GoodR.new {o:Oper} {ρ:Operand->V} {d:Nat} {x:Obj} {us:List (Nat×Obj)} {v:V} (hd:o.dst=some d) (hf:qx ob d=true) (hx:x≠ .none) (hc:∀u∈qQ x,qh u=[]) (hu:∀p∈us,UOk C o ρ ob (us++[(d,x)]) p)
 (hv:∀k∈qh v,k=d):(∀p∈us++[(d,x)],UOk C o ρ ob (us++[(d,x)]) p)/\VOk ob (us++[(d,x)]) v:=by
 refine⟨λp hp=>?_,λk hk=> .inr ?_⟩
 .rcases M2.1 hp with hp|hp
  .exact hu p hp
  .simp only[Ls]at hp;subst hp;exact⟨.inl ⟨y6 hd,hf⟩,hx,λu hu j hj=>by rw[hc u hu]at hj;simp at hj⟩
 .rw[hv k hk];exact⟨hf,x,by simp⟩
omit [Env] in
theorem GoodR.new2 {o:Oper} {ρ:Operand->V} {d:Nat} {x:Obj} {us:List (Nat×Obj)} {v:V} (hd:o.dst=some d) (hf:qx ob d=true) (hx:x≠ .none) (hc:∀u∈qQ x,∀k∈qh u,nth .none ob k≠ .none) (hu:∀p∈us,UOk C o ρ ob (us++[(d,x)]) p)
 (hv:∀k∈qh v,k=d):(∀p∈us++[(d,x)],UOk C o ρ ob (us++[(d,x)]) p)/\VOk ob (us++[(d,x)]) v:=by
 refine⟨λp hp=>?_,λk hk=> .inr ?_⟩
 .rcases M2.1 hp with hp|hp
  .exact hu p hp
  .simp only[Ls]at hp;subst hp;exact⟨.inl ⟨y6 hd,hf⟩,hx,λu hu j hj=> .inl (hc u hu j hj)⟩
 .rw[hv k hk];exact⟨hf,x,by simp⟩
omit [Env] in
theorem Tp {o:Oper} {ρ:Operand->V} {P:Program} {op:BinOp} {t:TypeId} {x y:V}:GoodR C o ρ ob (eqV P op t x y):=by
 have hb:GoodR C o ρ ob (E3 op x y):=by
  unfold E3;split
  .split
   .unfold shV;split<;>first|trivial|exact GoodR.data rfl|exact GoodR.dataC rfl
   split
   .trivial
   .split<;>first|trivial|exact GoodR.data rfl|exact GoodR.dataC rfl
  .split<;>first|trivial|exact GoodR.data rfl|exact GoodR.dataC rfl
  .split
   .split<;>first|trivial|exact GoodR.data rfl
   .trivial
  .trivial
 unfold eqV;split
 .split
  .split<;>first|trivial|exact GoodR.data rfl
  .trivial
 .unfold E5;split
  .split
   .split<;>first|trivial|exact GoodR.dataC rfl
   .trivial
  .trivial
 .exact hb
omit [Env] in
theorem Tq {o:Oper} {ρ:Operand->V} {P:Program} {op:BinOp} {t:TypeId} {xo yo:Operand} {x y:V}:GoodR C o ρ ob (SR P op t xo yo x y):=by
 unfold SR;split
 .split
  .split
   .split<;>first|trivial|exact GoodR.data rfl
   .trivial
  .trivial
 .split
  .split<;>first|trivial|exact GoodR.dataC rfl
  .trivial
 .exact Tp
omit [Env] in
theorem YG {o:Oper} {ρ:Operand->V} {big:Bool} {x y:V}:GoodR C o ρ ob (mxV big x y):=by
 unfold mxV;split
 .split
  .split<;>exact GoodR.data rfl
  .trivial
 .trivial
omit [Env] in
theorem VI:∀{vs:List V} {ps:List D} {us:List (Nat×Obj)},V2 ob vs=some (ps,us)->∀p∈us,(∃v∈vs,p.1∈qh v)/\(∃cells,nth .none ob p.1= .box cells)/\p.2= .dead
 |[],ps,us,h=>by simp only[V2,cp,c0]at h;obtain⟨_,rfl⟩:=h;exact λ_ hp=>absurd hp (by simp)
 |v::vs,ps,us,h=>by
  unfold V2 at h;split at h
  .rename_i k;split at h
   .rename_i cells hk;split at h
    .rename_i ds ps' us' hds hr;simp only[cp,c0]at h;obtain⟨_,rfl⟩:=h;intro p hp;rcases M0.1 hp with rfl|hp
     .exact⟨⟨_,Sz ..,by simp[qh]⟩,⟨_,hk⟩,rfl⟩
     .obtain⟨⟨u,q2,q3⟩,q4⟩:=VI hr p hp;exact⟨⟨u,M3 _ q2,q3⟩,q4⟩
    .simp at h
   .simp at h
  .split at h
   .rename_i ps' us' hr;simp only[cp,c0]at h;obtain⟨_,rfl⟩:=h;intro p hp;obtain⟨⟨u,q2,q3⟩,q4⟩:=VI hr p hp;exact⟨⟨u,M3 _ q2,q3⟩,q4⟩
   .simp at h
  .simp at h
omit [Env] in
theorem Tt (f:Nat) (ps:List D):qh (funV f ps)=[]:=by cases ps<;>rfl
theorem Tu [EffOk C] {o:Oper} {ρ:Operand->V} (hρ:∀x,∀k∈qh (ρ x),nth .none ob k≠ .none) (hb:∀k,∀u∈qQ (nth .none ob k),∀j∈qh u,nth .none ob j≠ .none):GoodR C o ρ ob (xl C o ρ ob):=by
 obtain⟨a5,op,ty,ag,a0,g⟩:=o;cases op with
 |move x=>exact GoodR.same (hρ x)
 |assign x=>exact GoodR.same (hρ x)
 |pick c x y=>
  simp only[xl];split
  .split
   .exact GoodR.same (hρ x)
   .exact GoodR.same (hρ y)
  .trivial
 |binOp op t x y t2=>exact Tq
 |unOp op t x=>simp only[xl,unV];split<;>first|trivial|exact GoodR.data rfl
 |convert s t x=>
  simp only[xl];split
  .split<;>first|trivial|exact GoodR.dataC rfl
  .split
   .unfold NQ;split<;>first|trivial|exact GoodR.data rfl|exact GoodR.dataC rfl
   .trivial
 |field t x f=>
  simp only[xl]
  repeat' split
  all_goals first|trivial|exact GoodR.data rfl
 |index t x i=>simp only[xl];split<;>first|trivial|exact GoodR.dataC rfl
 |extract x i=>
  simp only[xl];split
  .repeat' split
   all_goals first|trivial|exact GoodR.data rfl
  .rename_i k as hv;split
   .exact GoodR.same λj hj=>hρ x j (by rw[hv];exact hj)
   .repeat' split
    all_goals first|trivial|exact GoodR.data rfl
  .trivial
 |alloc t=>
  simp only[xl];split
  .rename_i d;split
   .rename_i z hd hz;split
    .refine GoodR.new (us:=[]) (x:= .box (z.map v8)) rfl hd (by simp) (λv hv=>?_) (λ_ h=>absurd h (by simp)) (λk hk=>by simpa [qh]using hk);obtain⟨y,_,rfl⟩:=Lv.1 hv;exact Jd y
    .split
     .refine GoodR.new (us:=[]) (x:= .bld t .nilS) rfl hd (by simp) (λv hv=>?_) (λ_ h=>absurd h (by simp)) (λk hk=>by simpa [qh]using hk);simp[qQ]at hv;subst hv;rfl
     .trivial
   .trivial
  .trivial
 |box t x=>
  simp only[xl];split
  .rename_i d;split
   .rename_i hd;split
    .exact GoodR.new (us:=[]) rfl hd (by simp) (λv hv=>by
      obtain⟨y,_,rfl⟩:=Lv.1 hv;rfl) (λ_ h=>absurd h (by simp)) (λk hk=>by simpa [qh]using hk)
    .split
     .rename_i b6;exact GoodR.new (us:=[]) rfl hd (by simp) (λv hv=>by
       obtain⟨c,hc,rfl⟩:=Lv.1 hv;cases c with
       |arr k=>have:=wF hc;rw[b6]at this;simp at this
       |vec k n=>have:=wG hc;rw[b6]at this;simp at this
       |_=>rfl) (λ_ h=>absurd h (by simp)) (λk hk=>by simpa [qh]using hk)
     .trivial
    .exact GoodR.new (us:=[]) rfl hd (by simp) (λv hv=>by
      simp[qQ]at hv;subst hv;rfl) (λ_ h=>absurd h (by simp)) (λk hk=>by simpa [qh]using hk)
    .exact GoodR.new (us:=[]) rfl hd (by simp) (λv hv=>by
      simp[qQ]at hv;subst hv;rfl) (λ_ h=>absurd h (by simp)) (λk hk=>by simpa [qh]using hk)
    .trivial
   .trivial
  .trivial
 |makeSlice t x y=>
  simp only[xl];split
  .rename_i d;split
   .rename_i e hd he;split
    .split
     .split
      .exact GoodR.new (us:=[]) rfl hd (by simp) (λu hu=>by simp[qQ]at hu) (λ_ h=>absurd h (by simp)) (λk hk=>by simpa [qh]using hk)
      .split
       .exact GoodR.new (us:=[]) rfl hd (by simp) (λu hu=>by rw[List.eq_of_mem_replicate (show u∈List.replicate _ V.nilS from hu)];rfl) (λ_ h=>absurd h (by simp)) (λk hk=>by simpa [qh]using hk)
       .trivial
     .trivial
    .trivial
   .trivial
  .trivial
 |build t parts=>
  simp only[xl];split
  .split
   .split
    .rename_i hb1;exact GoodR.same λk hk=>vT _ _ _ hb1 k hk
    .trivial
   split
   .rename_i qs us hp;split
    .split
     .refine⟨(y8 hp).up (λv hv=>?_) (by simp[cls]) _,λk hk=>by simp[qh]at hk⟩;obtain⟨p,hp,rfl⟩:=Lv.1 hv;exact⟨p.2,by simp only[J4];exact Lv.2 ⟨p,hp,rfl⟩,rfl⟩
     .trivial
    .split
     .rename_i z _ _ _ _ hb;refine⟨(y8 hp).up (λv hv=>?_) (by simp[cls]) _,λk hk=>?_⟩
      .obtain⟨p,hp,rfl⟩:=Lv.1 hv;exact⟨p.2,by simp only[J4];exact Lv.2 ⟨p,hp,rfl⟩,rfl⟩
      .have hk:k∈z5 _:=hk;rw[X9 _ _ _ hb (kJ _)]at hk;simp at hk
     .trivial
   .trivial
  .trivial
 |buildSlice t len parts=>
  simp only[xl];split
  .rename_i d;split
   .rename_i e hd he;split
    .unfold Xr;split
     .rename_i j hpv;split
      .split
       .obtain⟨x,_,hx⟩:=JL hpv (by simp);exact GoodR.new2 (us:=[]) rfl hd (by simp) (λu hu k hk=>by
         have hu:u= .arr j:=by simpa [qQ]using hu
         subst hu;exact hρ x k (by rw[hx];exact hk)) (λ_ h=>absurd h (by simp)) (λk hk=>by simpa [qh]using hk)
       .trivial
      .trivial
     .trivial
    split
    .rename_i z qs us hz hp;split
     .split
      .refine GoodR.new rfl hd (by simp) (λu hu=>by simp[qQ]at hu) ((y8 hp).up (λv hv=>?_) (by simp[cls]) _) (λk hk=>by simpa [qh]using hk);obtain⟨p,hp,rfl⟩:=Lv.1 hv;exact⟨p.2,by simp only[J4];exact Lv.2 ⟨p,hp,rfl⟩,rfl⟩
      .trivial
     .trivial
    .trivial
   .trivial
  .trivial
 |load t x=>
  have hx:=hρ x;simp only[xl,NS];split
  .trivial
  .split
   .split
    .rename_i k a6 hv _ a1 hk;split
     .split
      .rename_i b4;split
       .exact GoodR.data rfl
       .split
        .rename_i vcs hvc;refine GoodR.same λk' hk'=>?_
         have hv2:=wI hvc;have a4:=of_decide_eq_true b4;obtain⟨c',hc',hkv⟩:=xx.1 hk';have hm:c'.v∈vcs.map VC.v:=Lv.2 ⟨_,hc',rfl⟩;rw[<-hv2]at hm;rw[X3]at hm;obtain⟨j,_,hj,e⟩:=JF hm;refine hb k c'.v ?_ k' hkv;rw[hk,<-e];show nth .any a1 j∈a1;rw[qk _ (by omega)];exact U0 _
        .trivial
      .trivial
     .split
      .rename_i b0;have b0:a6<a1.length:=by simpa using b0
       refine GoodR.same (hb k _ ?_);rw[hk,qk _ b0];exact U0 b0
      .trivial
    .rename_i k a6 hv _ a1 hk;split
     .trivial
     .split
      .rename_i b0;have b0:a6<a1.length:=by simpa using b0
       refine GoodR.same (hb k _ ?_);rw[hk];exact qT b0
      .trivial
    .trivial
   .trivial
   .split<;>trivial
   .trivial
 |nilCheck x=>
  have hx:=hρ x;simp only[xl];split
  .rename_i k a6 hv;rw[hv]at hx;split
   .exact GoodR.same hx
   .trivial
  .trivial
 |fieldAddr t x f=>
  have hx:=hρ x;simp only[xl];split
  .split
   .trivial
   .split
    .rename_i k a6 hv;rw[hv]at hx;split
     .exact GoodR.same hx
     .trivial
    .rename_i k i a6 hv;rw[hv]at hx;split
     .exact GoodR.same hx
     .trivial
    .exact GoodR.data rfl
    .trivial
  .trivial
 |indexAddr t x i=>
  have hx:=hρ x;simp only[xl,vc];split
  .split
   .split
    .split
     .exact GoodR.dataC rfl
     .trivial
    .rename_i k hv;rw[hv]at hx;split
     .split
      .exact GoodR.sameC hx
      .trivial
     .trivial
    .rename_i k o l hv;rw[hv]at hx;split
     .split
      .exact GoodR.sameC hx
      .trivial
     .trivial
    .rename_i k l hv;rw[hv]at hx;split
     .split
      .exact GoodR.sameC hx
      .trivial
     .trivial
    .trivial
   .split
    .rename_i k a6 hv;rw[hv]at hx;split
     .split
      .split
       .exact GoodR.same hx
       .trivial
      .trivial
     .trivial
    .split
     .exact GoodR.dataC rfl
     .trivial
    .split
     .split
      .exact GoodR.data rfl
      .trivial
     .trivial
    .trivial
   .trivial
  .trivial
 |slice t x lo hi mx=>
  have hx:=hρ x;simp only[xl];split
  .unfold UT
   repeat' split
   all_goals first|trivial|exact GoodR.data rfl
  simp only[Wa,KZ,V0];split
  rotate_left
  .split
   .split
    .rename_i hv;rw[hv]at hx
     repeat' split
     all_goals first|trivial|exact GoodR.same hx
    .trivial
   .trivial
  split
  rotate_left
  .repeat' split
   all_goals first|trivial|exact GoodR.dataC rfl
  split
  .repeat' split
   all_goals first|trivial|exact GoodR.dataC rfl
  .split
   .rename_i z es us hz hel;have hu:=(Ov hel).up (C:=C) (o:=⟨a5,.slice t x lo hi mx,ty,ag,a0,g⟩) (ρ:=ρ) (λv hv=>⟨x,by simp[J4],by simp at hv;exact hv.symm⟩) (by simp[cls]) us
    repeat' split
    all_goals first|trivial|exact⟨hu,λk hk=>by simp[qh]at hk⟩
   .trivial
  .trivial
 |store t p x=>
  have hp:=hρ p;have hx:=hρ x;simp only[xl,Y4];have a7:∀k∈qh (ρ p),k∈opk ⟨a5,.store t p x,ty,ag,a0,g⟩ ρ ob:=λk hk=>vU (x:=p) (by simp[J4]) hk
  have a3:cls C ⟨a5,.store t p x,ty,ag,a0,g⟩=2:=rfl;split
  .trivial
  .split
   .rename_i k a6 hv;rw[hv]at hp a7;split
    .rename_i a1 hk;have b1:∀ad:List V,(∀v∈ad,v∈a1\/v=ρ x\/qh v=[])->GoodR C ⟨a5,.store t p x,ty,ag,a0,g⟩ ρ ob (.ok .any [(k,.box ad)]):=by
      intro ad hcs;refine⟨λq hq=>?_,λk hk=>by simp[qh]at hk⟩;simp only[Ls]at hq;subst hq;refine⟨.inr ⟨a7 k (by simp[qh]),by rw[a3];simp,by rw[hk];simp,λa4=>by rw[a3]at a4;omega⟩,by simp,λv hv j hj=> .inl ?_⟩;rcases hcs v hv with h1|h1|h1
      .exact hb k v (by rw[hk];exact h1) j hj
      .subst h1;exact hx j hj
      .rw[h1]at hj;simp at hj
     have al:∀(ds:List D) (a1:List V) (a6:Nat) (v:V),v∈UO a1 a6 ds->v∈a1\/qh v=[]:=by
      intro ds
      induction ds with
      |nil=>intro a1 a6 v hv;exact .inl hv
      |cons d ds ih=>
       intro a1 a6 v hv;rcases ih _ _ _ hv with hv|hv
       .rcases xJ hv with hv|rfl
        .exact .inl hv
        .exact .inr rfl
       .exact .inr hv
     split
     .split
      .split
       .exact b1 _ λv hv=>by
         rcases al _ _ _ _ hv with h1|h1
         .exact .inl h1
         .exact .inr (.inr h1)
       .trivial
      .rename_i ds hds;split
       .refine⟨λq hq=>?_,λk hk=>by simp[qh]at hk⟩;simp only[Ls]at hq;subst hq;refine⟨.inr ⟨a7 k (by simp[qh]),by rw[a3];simp,by rw[hk];simp,λa4=>by rw[a3]at a4;omega⟩,by simp,λv hv j hj=> .inl ?_⟩;have hm:∀(l:List VC) (cs:List V) (a6:Nat) (v:V),v∈KW cs a6 l->v∈cs\/∃c∈l,v=c.v:=by
         intro l
         induction l with
         |nil=>intro cs a6 v hv;exact .inl hv
         |cons d l ih=>
          intro cs a6 v hv;rcases ih _ _ _ hv with hv|⟨c,hc,e⟩
          .rcases xJ hv with hv|rfl
           .exact .inl hv
           .exact .inr ⟨d,by simp,rfl⟩
          .exact .inr ⟨c,by simp[hc],e⟩
        rcases hm _ _ _ _ hv with h1|⟨c,hc,rfl⟩
        .exact hb k v (by rw[hk];exact h1) j hj
        .rw[hds]at hx;refine hx j ?_;cases c with
         |arr k2=>simp[VC.v,qh]at hj;subst hj;exact wF hc
         |vec k2 n=>simp[VC.v,qh]at hj;subst hj;exact wG hc
         |d d=>simp[VC.v,qh]at hj
         |nil=>simp[VC.v,qh]at hj
       .trivial
      .trivial
     .split
      .split
       .exact b1 _ λv hv=>by
         rcases xJ hv with h1|rfl
         .exact .inl h1
         .exact .inr (.inr rfl)
       .trivial
      .split
       .exact b1 _ λv hv=>by
         rcases xJ hv with h1|rfl
         .exact .inl h1
         .exact .inr (.inr rfl)
       .trivial
      .rename_i j hj;split
       .split
        .exact b1 _ λv hv=>by
          rcases xJ hv with h1|rfl
          .exact .inl h1
          .exact .inr (.inl hj.symm)
        .trivial
       .trivial
      .trivial
    .rename_i a1 hk;split
     .rename_i j hj;split
      .split
       .refine⟨λq hq=>?_,λk hk=>by simp[qh]at hk⟩;simp only[Ls]at hq;subst hq;refine⟨.inr ⟨a7 k (by simp[qh]),by rw[a3];simp,by rw[hk];simp,λa4=>by rw[a3]at a4;omega⟩,by simp,λv hv i hi=> .inl ?_⟩;rcases xJ hv with h1|rfl
        .exact hb k v (by rw[hk];exact h1) i hi
        .exact hx i (by rw[hj];exact hi)
       .trivial
      .trivial
     .trivial
    .trivial
   .rename_i k i a6 hv;rw[hv]at hp a7;split
    .rename_i s es hk;have b1:∀(c:Prop) [Decidable c] (b5:List (List D)),GoodR C ⟨a5,.store t p x,ty,ag,a0,g⟩ ρ ob (.cond c .any [(k,.arr s b5 false)]):=by intro c _ b5;refine⟨λq hq=>?_,λk hk=>by simp[qh]at hk⟩;simp only[Ls]at hq;subst hq;exact⟨.inr ⟨a7 k (by simp[qh]),by rw[a3];simp,by rw[hk];simp,λa4=>by rw[a3]at a4;omega⟩,by simp,λu hu=>by simp[qQ]at hu⟩
     split
     .split
      .exact b1 _ _
      .trivial
     .split
      .exact b1 _ _
      .trivial
     .trivial
    .trivial
   .trivial
 |makeFunc fn first captured=>
  simp only[xl];split
  .split
   .rename_i ps us hc;refine⟨λp hp=>?_,λk hk=>by rw[Tt]at hk;simp at hk⟩;obtain⟨⟨v,hv,hk⟩,⟨a1,hb2⟩,h3⟩:=VI hc p hp;obtain⟨x,hx,rfl⟩:=Lv.1 hv;refine⟨.inr ⟨vU (x:=x) (by simp only[J4,Aw];exact M1 _ hx) hk,by simp[cls],by rw[hb2];simp,λa4=>by simp[cls]at a4⟩,by rw[h3];simp,λu hu=>by rw[h3]at hu;simp[qQ]at hu⟩
   .trivial
  .trivial
 |call c=>
  obtain⟨b3,a2,ts⟩:=c;simp only[xl];have ap:∀(f:Nat) (b2:Operand) (ps:List D),cls C ⟨a5,.call ⟨.value b2,a2,ts⟩,ty,ag,a0,g⟩≠0->GoodR C ⟨a5,.call ⟨.value b2,a2,ts⟩,ty,ag,a0,g⟩ ρ ob (kC C ob f (a2.toList.map ρ++ps.map V.c)):=by
   intro f b2 ps a3;unfold kC;split
   .trivial
   .split
    .trivial
    .split
     .rename_i as us sh hto hsh;have hu:∀p∈us,UOk C ⟨a5,.call ⟨.value b2,a2,ts⟩,ty,ag,a0,g⟩ ρ ob us p:=λp hp=>by
       obtain⟨⟨v,h1,h2⟩,s,es,fz,h3,h4⟩:=kb hto p hp;rcases M2.1 h1 with h1|h1
       .obtain⟨x,hx,rfl⟩:=Lv.1 h1;exact⟨.inr ⟨vU (x:=x) (by simp only[J4,J3,Aw];exact M1 _ hx) h2,a3,by rw[h3];simp,λ_=>⟨s,es,fz,h3,h4⟩⟩,by rw[h4];simp,λu hu=>by rw[h4]at hu;simp[qQ]at hu⟩
       .obtain⟨d,_,rfl⟩:=Lv.1 h1;simp[qh]at h2
      split
      .exact hu
      .exact λ_ h=>absurd h (by simp)
     .trivial
  split
  .rename_i f;split
   .rename_i e he;have a3:cls C ⟨a5,.call ⟨.value (.func f),a2,ts⟩,ty,ag,a0,g⟩=2:=by simp[cls,he]
    have hg:=EffOk.good he a5 (a2.toList.map ρ) ob (λv hv=>by obtain⟨x,_,rfl⟩:=Lv.1 hv;exact hρ x) hb;have hin:∀k,k∈wC ob ((a2.toList.map ρ).flatMap qh)->k∈opk ⟨a5,.call ⟨.value (.func f),a2,ts⟩,ty,ag,a0,g⟩ ρ ob:=λk hkk=>by show k∈wC ob _;refine Jc (λj h1=>?_) hkk;rw[Qi];obtain⟨v,hv,hj⟩:=No.1 h1;obtain⟨x,hx,rfl⟩:=Lv.1 hv;exact No.2 ⟨x,by simp only[J4,J3,Aw];exact M1 _ hx,hj⟩
    have ba:∀{up:List (Nat×Obj)} {p:Nat×Obj},((Bl (C.wd f) a5 p.1/\qx ob p.1=true)\/(p.1∈wC ob ((a2.toList.map ρ).flatMap qh)/\nth .none ob p.1≠ .none))/\p.2≠ .none/\(∀u∈qQ p.2,VOk ob up u)->UOk C ⟨a5,.call ⟨.value (.func f),a2,ts⟩,ty,ag,a0,g⟩ ρ ob up p:=λ{up p} h=>by
     refine⟨?_,h.2⟩;rcases h.1 with h1|⟨h1,h2⟩
     .exact .inl ⟨Wr.2 h1.1,h1.2⟩
     .exact .inr ⟨hin _ h1,by rw[a3];simp,h2,λa4=>by rw[a3]at a4;omega⟩
    generalize e a5 (a2.toList.map ρ) ob=r at *;cases r with
    |fail=>trivial
    |ok v up=>exact⟨λp hp=>ba (hg.1 p hp),hg.2⟩
    |cond c v up=>exact⟨λp hp=>ba (hg.1 p hp),hg.2⟩
    |look _ _ _ _=>trivial
    |call _ _ _ _=>exact hg.elim
   .rename_i he;have:=ap f (.func f) [] (by simp[cls,he]);rw[bv,bd]at this;exact this
  .rename_i t0;split
   .rename_i f _;split
    .trivial
    .have:=ap f (.tmp t0) [] (by simp[cls]);rw[bv,bd]at this;exact this
   .split
    .trivial
    .exact ap _ _ _ (by simp[cls])
   .trivial
  .split
   .unfold EW
    repeat' split
    all_goals first|trivial|exact GoodR.data rfl
   .trivial
  .split
   .rename_i x y an;have hx:=hρ x;have a3:cls C ⟨a5,.call ⟨.builtin .append,a2,ts⟩,ty,ag,a0,g⟩=2:=rfl;have a7:∀k∈qh (ρ x),k∈opk ⟨a5,.call ⟨.builtin .append,a2,ts⟩,ty,ag,a0,g⟩ ρ ob:=λk hk=>vU (x:=x) (by
     simp only[J4,J3,Aw];exact M1 _ (by rw[an];simp)) hk
    unfold Xp;split
    .trivial
    .rename_i d;split
     .trivial
     .rename_i hd;split
      .split
       .split
        .unfold vN;split
         .rename_i xs up v u2 hxs hys hz;split
          .have hy:=hρ y;have hv:∀k∈qh v,nth .none ob k≠ .none:=by
            rcases JN hys with⟨_,h1,_⟩|⟨k,_,h1,_⟩
            .simp at h1
            .exact hb k v (by rw[h1];simp[qQ])
           rcases JN hxs with⟨_,rfl,rfl⟩|⟨k,hvx,hk,rfl⟩
           .exact GoodR.new2 (us:=[]) rfl hd (by simp) (λu hu=>by
             have hu:u=v:=by simpa [qQ]using hu
             rw[hu];exact hv) (λ_ h=>absurd h (by simp)) (λk hk=>by simpa [qh]using hk)
           .rw[hvx]at a7;exact GoodR.new2 (us:=[(k,.dead)]) rfl hd (by simp) (λu hu=>by
             rcases M2.1 (show u∈xs++[v]from hu)with hu|hu
             .exact hb k u (by rw[hk];exact hu)
             .rw[Ls.1 hu];exact hv) (λq hq=>by
              simp only[Ls]at hq;subst hq;exact⟨.inr ⟨a7 k (by simp[qh]),by rw[a3];simp,by rw[hk];simp,λa4=>by rw[a3]at a4;omega⟩,by simp,λu hu=>by simp[qQ]at hu⟩) (λk hk=>by simpa [qh]using hk)
          .trivial
         .trivial
        split
        .split
         .split
          .exact GoodR.new (us:=[]) rfl hd (by simp) (λu hu=>by simp[qQ]at hu) (λ_ h=>absurd h (by simp)) (λk hk=>by simpa [qh]using hk)
          .rename_i k hv;rw[hv]at hx a7;split
           .rename_i s es hk;split
            .exact GoodR.new (us:=[(k,.dead)]) rfl hd (by simp) (λu hu=>by simp[qQ]at hu) (λq hq=>by
              simp only[Ls]at hq;subst hq;exact⟨.inr ⟨a7 k (by simp[qh]),by rw[a3];simp,by rw[hk];simp,λa4=>by rw[a3]at a4;omega⟩,by simp,λu hu=>by simp[qQ]at hu⟩) (λk hk=>by simpa [qh]using hk)
            .trivial
           .trivial
          .rename_i k o n hv;rw[hv]at hx a7;split
           .rename_i s es ho hk;split
            .exact GoodR.new (us:=[(k,.dead)]) rfl hd (by simp) (λu hu=>by simp[qQ]at hu) (λq hq=>by
              simp only[Ls]at hq;subst hq;exact⟨.inr ⟨a7 k (by simp[qh]),by rw[a3];simp,by rw[hk];simp,λa4=>by rw[a3]at a4;omega⟩,by simp,λu hu=>by simp[qQ]at hu⟩) (λk hk=>by simpa [qh]using hk)
            .trivial
           .trivial
          .trivial
         .trivial
        .trivial
       .trivial
      .trivial
   .trivial
  .split
   .rename_i x an;have a7:∀k∈qh (ρ x),k∈opk ⟨a5,.call ⟨.builtin .clear,a2,ts⟩,ty,ag,a0,g⟩ ρ ob:=λk hk=>vU (x:=x) (by
     simp only[J4,J3,Aw];exact M1 _ (by rw[an];simp)) hk
    unfold Xq;split
    .split
     .split
      .rename_i z k o l hz hv;rw[hv]at a7;split
       .rename_i s es hk;split
        .refine⟨λp hp=>?_,λk hk=>by simp[qh]at hk⟩;simp only[Ls]at hp;subst hp;exact⟨.inr ⟨a7 k (by simp[qh]),by simp[cls],by rw[hk];simp,λa4=>by simp[cls]at a4⟩,by simp,λu hu=>by simp[qQ]at hu⟩
        .trivial
       .trivial
      .trivial
     .trivial
    .trivial
   .trivial
  .split
   .exact YG
   .trivial
  .split
   .exact YG
   .trivial
  .trivial
 |_=>trivial
end
end Eng
end
section
namespace Eng
open Go Go.RowKit
variable [Env]
omit [Env] in
theorem vh {α:Type} (l:List α) (i j:Nat) (x y:α) (h:i≠j\/x=y):upd (upd l i x) j y=upd (upd l j y) i x:=by
 simp only[xh];rcases h with h|rfl
 .exact bh _ _ h
 .by_cases hij:i=j
  .subst hij;rfl
  .exact bh _ _ hij
omit [Env] in
theorem YH (k:Nat) (x:Obj):∀(b:List (Nat×Obj)) (ob:List Obj),(∀q∈b,q.1=k->q.2=x)->upds (upd ob k x) b=upd (upds ob b) k x
 |[],_,_=>rfl
 |(j,y)::b,ob,h=>by
  simp only[upds];rw[vh ob k j x y (by
   by_cases hk:k=j
   .exact .inr (h (j,y) (by simp) hk.symm).symm
   .exact .inl hk),YH k x b _ λq hq=>h q (by simp[hq])]
omit [Env] in
theorem Wu:∀(a b:List (Nat×Obj)) (ob:List Obj),(∀p∈a,∀q∈b,q.1=p.1->q.2=p.2)->upds (upds ob a) b=upds (upds ob b) a
 |[],_,_,_=>rfl
 |(k,x)::a,b,ob,h=>by simp only[upds];rw[Wu a b _ λp hp=>h p (by simp[hp]),YH k x b ob λq hq hk=>h (k,x) (by simp) q hq hk]
omit [Env] in
theorem y9 (d:Nat):∀(b:List (Nat×Obj)) (ob:List Obj),nth .none (upds ob b) d=nth .none ob d\/(nth .none (upds ob b) d= .none/\nth .none ob d= .none)\/∃p∈b,p.1=d/\nth .none (upds ob b) d=p.2
 |[],_=> .inl rfl
 |(k,x)::b,ob=>by
  simp only[upds];rcases y9 d b (upd ob k x)with h|⟨h1,h2⟩|⟨p,hp,h1,h2⟩
  .rw[xS]at h;split at h
   .rename_i hk;exact .inr (.inr ⟨(k,x),by simp,hk.1,h⟩)
   .exact .inl h
  .by_cases hk:k=d/\k<ob.length
   .rw[xS,if_pos hk]at h2;exact .inr (.inr ⟨(k,x),by simp,hk.1,by rw[h1];exact h2.symm⟩)
   .rw[xS,if_neg hk]at h2;exact .inr (.inl ⟨h1,h2⟩)
  .exact .inr (.inr ⟨p,by simp[hp],h1,h2⟩)
omit [Env] in
theorem jF:∀(b:List (Nat×Obj)) (ob:List Obj),(upds ob b).length=ob.length
 |[],_=>rfl
 |(k,x)::b,ob=>by simp only[upds];rw[jF b,xh];simp
omit [Env] in
theorem xz {d:Nat}:∀(b:List (Nat×Obj)) (ob:List Obj),(∀p∈b,p.1≠d)->nth .none (upds ob b) d=nth .none ob d
 |[],_,_=>rfl
 |(k,x)::b,ob,h=>by simp only[upds];rw[xz b _ λp hp=>h p (by simp[hp]),qa _ _ _ (h (k,x) (by simp))]
omit [Env] in
theorem zl {d:Nat} {b:List (Nat×Obj)} {ob:List Obj} (h:∀p∈b,p.2≠ .none) (hd:nth .none ob d≠ .none):nth .none (upds ob b) d≠ .none:=by
 rcases y9 d b ob with h1|⟨_,h1⟩|⟨p,hp,_,h2⟩
 .rw[h1];exact hd
 .exact absurd h1 hd
 .rw[h2];exact h p hp
omit [Env] in
theorem XE {d:Nat}:∀{b:List (Nat×Obj)} {ob:List Obj},(∀p∈b,p.2≠ .none)->d<ob.length->(∃x,(d,x)∈b)->nth .none (upds ob b) d≠ .none
 |[],_,_,_,h=>by obtain⟨x,hx⟩:=h;exact absurd hx (by simp)
 |(k,x)::b,ob,h,hd,hx=>by
  simp only[upds];by_cases hk:k=d
  .subst hk;exact zl (λp hp=>h p (by simp[hp])) (by rw[qb _ _ _ hd];exact h (k,x) (by simp))
  .obtain⟨y,hy⟩:=hx;refine XE (λp hp=>h p (by simp[hp])) (by rw[xh];simpa using hd) ⟨y,?_⟩;rcases M0.1 hy with hy|hy
   .simp only[c0]at hy;exact absurd hy.1.symm hk
   .exact hy
section
variable {C:Cx} {Gv:Nat->List A->List A->Prop} {ops:Array Oper}
def Out (Gv:Nat->List A->List A->Prop):R->V->List (Nat×Obj)->Prop
 | .fail,_,_=>False
 | .ok v up,v',up'=>v'=v/\up'=up
 | .cond (dc:=_) c v up,v',up'=>c/\v'=v/\up'=up
 | .look z row off ag,v',up'=>∃ds,cut row off z.length ds/\v'=(match ag with|true=> .ag ds|false=> .c (nth .undef ds 0))/\up'=[]
 | .call f as sh up,v',up'=>∃rs,Gv f as rs/\(zc sh=false->∀r∈rs,Xz r=true)/\v'=ZC rs/\up'=up
def yA (ops:Array Oper) (o:Oper) (tmps:List V) (b:Bool):Prop:=
 match o.guard with
 |none=>b=true
 |some (j,want)=>∃t,vE ops j=some t/\((∃c,nth .any tmps t= .c (.bool c)/\b=(c==want))\/(nth .any tmps t= .no/\b=false))
def Stp (C:Cx) (Gv:Nat->List A->List A->Prop) (ops:Array Oper) (o:Oper) (s:St) (v:V) (up:List (Nat×Obj)):Prop:=
 ∃b,yA ops o s.tmps b/\if b then Out Gv (xl C o (ev s) s.objs) v up else v= .no/\up=[]
structure RecOk (C:Cx) (o:Oper) (s:St) (up:List (Nat×Obj)) (rc:Rec):Prop where
 reads:cls C o≠0->∀k∈opk o (ev s) s.objs,k∈rc.1
 ups:∀p∈up,p.1∈rc.2
def Tr (C:Cx) (Gv:Nat->List A->List A->Prop) (ops:Array Oper) (rc:Nat->Rec):List Nat->St->St->Prop
 |[],s,s'=>s.tmps=s'.tmps/\s.objs=s'.objs
 |i::r,s,s'=>∃o,ops[i]? =some o/\∃v up,Stp C Gv ops o s v up/\RecOk C o s up (rc i)/\Tr C Gv ops rc r (s.put o.dst v up) s'
omit [Env] in
theorem Tv {s s':St} (h:s.tmps=s'.tmps):ev s=ev s':=by
 funext x;cases x with
 |tmp t=>simp only[ev,h]
 |_=>rfl
omit [Env] in
theorem Stp.same {o:Oper} {s s':St} {v:V} {up:List (Nat×Obj)} (h:Stp C Gv ops o s v up) (h1:s.tmps=s'.tmps) (h2:s.objs=s'.objs):Stp C Gv ops o s' v up:=by
 unfold Stp at *;rw[<-h1,<-h2,<-Tv h1];exact h
omit [Env] in
theorem RecOk.same {o:Oper} {s s':St} {up:List (Nat×Obj)} {rc:Rec} (h:RecOk C o s up rc) (h1:s.tmps=s'.tmps) (h2:s.objs=s'.objs):RecOk C o s' up rc:=⟨by rw[<-Tv h1,<-h2];exact h.reads,h.ups⟩
omit [Env] in
theorem Tr.same {rc:Nat->Rec}:∀{l:List Nat} {s s' e:St},Tr C Gv ops rc l s e->s.tmps=s'.tmps->s.objs=s'.objs->Tr C Gv ops rc l s' e
 |[],_,_,_,h,h1,h2=>⟨h1.symm.trans h.1,h2.symm.trans h.2⟩
 |i::r,s,s',e,h,h1,h2=>by obtain⟨o,ho,v,up,hs,hr,ht⟩:=h;exact⟨o,ho,v,up,hs.same h1 h2,hr.same h1 h2,ht.same (by simp only[I3,h1]) (by simp only[I3,h2])⟩
omit [Env] in
theorem Tr.recs {rc rc':Nat->Rec}:∀{l:List Nat} {s e:St},Tr C Gv ops rc l s e->(∀i∈l,rc i=rc' i)->Tr C Gv ops rc' l s e
 |[],_,_,h,_=>h
 |i::r,s,e,h,he=>by obtain⟨o,ho,v,up,hs,hr,ht⟩:=h;exact⟨o,ho,v,up,hs,by rw[<-he i (by simp)];exact hr,ht.recs λj hj=>he j (by simp[hj])⟩
omit [Env] in
theorem VJ {o:Oper} {s:St} {K:St->Prop} (h:opW C Gv o s K):∃v up,Out Gv (xl C o (ev s) s.objs) v up/\K (s.put o.dst v up):=by
 unfold opW at h;generalize xl C o (ev s) s.objs=r at *;cases r with
 |fail=>exact h.elim
 |ok v up=>exact⟨v,up,⟨rfl,rfl⟩,h⟩
 |cond c v up=>exact⟨v,up,⟨h.1,rfl,rfl⟩,h.2⟩
 |look z row off ag=>obtain⟨ds,h1,_⟩:=wJ h;exact⟨_,[],⟨ds,h1.1,rfl,rfl⟩,h1.2⟩
 |call f as sh up=>obtain⟨rs,h1,h2⟩:=Qh h;exact⟨_,up,⟨rs,h1.1,h2,rfl,rfl⟩,h1.2⟩
omit [Env] in
theorem VK {α:Type} (d:α) (l:List α) (i:Nat) (x:α) (h:nth d l i=x):upd l i x=l:=by
 rw[xh];apply List.ext_getElem?;intro j;rw[List.getElem?_set];split
 .rename_i hij;subst hij;split
  .rename_i a0;rw[qk _ a0]at h;rw[List.getElem?_eq_getElem a0,h]
  .rename_i a0;rw[List.getElem?_eq_none (cb.1 a0)]
 .rfl
omit [Env] in
theorem Wv {o:Oper} {s:St} {K:St->Prop} (h:NU C Gv ops o s K):∃v up,Stp C Gv ops o s v up/\K (s.put o.dst v up):=by
 unfold NU at h;split at h
 .rename_i hg;obtain⟨v,up,h1,h2⟩:=VJ h;exact⟨v,up,⟨true,by unfold yA;rw[hg],by rw[if_pos rfl];exact h1⟩,h2⟩
 .rename_i j a0 hg;split at h
  .exact h.elim
  .rename_i t ht;split at h
   .rename_i d hd;have hb:∃c,d= .bool c:=by
     cases d with
     |bool c=>exact⟨c,rfl⟩
     |_=>exact h.elim
    obtain⟨c,rfl⟩:=hb;have hw:∀b,b=(c==a0)->yA ops o s.tmps b:=λb hb=>by unfold yA;rw[hg];exact⟨t,ht,.inl ⟨c,hd,hb⟩⟩
    have hs:(⟨upd s.tmps t (.c (.bool c)),s.objs,s.dirty⟩:St)=s:=by rw[VK _ _ _ _ hd]
    cases c<;>cases a0<;>simp only[cnd,isB,br,toB]at h<;>rw[hs]at h
    .obtain⟨v,up,h1,h2⟩:=VJ h;exact⟨v,up,⟨true,hw _ rfl,by rw[if_pos rfl];exact h1⟩,h2⟩
    .exact⟨.no,[],⟨false,hw _ rfl,by simp⟩,h⟩
    .exact⟨.no,[],⟨false,hw _ rfl,by simp⟩,h⟩
    .obtain⟨v,up,h1,h2⟩:=VJ h;exact⟨v,up,⟨true,hw _ rfl,by rw[if_pos rfl];exact h1⟩,h2⟩
   .rename_i hd;exact⟨.no,[],⟨false,by unfold yA;rw[hg];exact⟨t,ht,.inr ⟨hd,rfl⟩⟩,by simp⟩,h⟩
   .exact h.elim
structure WF (s:St):Prop where
 tmps:∀v∈s.tmps,∀k∈qh v,nth .none s.objs k≠ .none
 objs:∀k,∀u∈qQ (nth .none s.objs k),∀j∈qh u,nth .none s.objs j≠ .none
omit [Env] in
theorem Bn {v:V} {k:Nat} (h:k∈qh (un v)):k∈qh v:=by cases v<;>first|exact h|(simp only[un,qh,Ls]at h;subst h;simp[qh])
omit [Env] in
theorem WF.ev {s:St} (h:WF s) (x:Operand):∀k∈qh (ev s x),nth .none s.objs k≠ .none:=by
 cases x with
 |tmp t=>
  simp only[Eng.ev];by_cases ht:t<s.tmps.length
  .rw[qk _ ht];exact λk hk=>h.tmps _ (U0 ht) k (Bn hk)
  .rw[qC _ (cb.1 ht)];intro k hk;simp[qh,un]at hk
 |const v=>intro k hk;simp only[Eng.ev,Jd]at hk;simp at hk
 |global g=>intro k hk;simp[Eng.ev,qh]at hk
 |func f=>intro k hk;simp[Eng.ev,qh]at hk
omit [Env] in
theorem km (rs:List A):qh (ZC rs)=[]:=by
 unfold ZC;split<;>first|rfl|(split<;>rfl)
theorem Stp.good [EffOk C] {o:Oper} {s:St} {v:V} {up:List (Nat×Obj)} (hs:WF s) (h:Stp C Gv ops o s v up):(∀p∈up,UOk C o (Eng.ev s) s.objs up p)/\VOk s.objs up v:=by
 obtain⟨b,_,h⟩:=h;cases b with
 |false=>obtain⟨rfl,rfl⟩:=h;exact⟨λ_ h=>absurd h (by simp),λk hk=>by simp[qh]at hk⟩
 |true=>
  rw[if_pos rfl]at h;have hg:=Tu (C:=C) (o:=o) (ρ:=Eng.ev s) (ob:=s.objs) hs.ev hs.objs;generalize xl C o (Eng.ev s) s.objs=r at *;cases r with
  |fail=>exact h.elim
  |ok v up=>obtain⟨rfl,rfl⟩:=h;exact hg
  |cond c v up=>obtain⟨_,rfl,rfl⟩:=h;exact hg
  |look z row off ag=>obtain⟨ds,_,rfl,rfl⟩:=h;exact⟨λ_ h=>absurd h (by simp),λk hk=>by cases ag<;>simp[qh]at hk⟩
  |call f as sh up=>obtain⟨rs,_,_,rfl,rfl⟩:=h;exact⟨hg,λk hk=>by rw[km]at hk;simp at hk⟩
theorem WF.put [EffOk C] {o:Oper} {s:St} {v:V} {up:List (Nat×Obj)} (hs:WF s) (h:Stp C Gv ops o s v up):WF (s.put o.dst v up):=by
 obtain⟨hu,hv⟩:=h.good hs;have a1:∀p∈up,p.2≠ .none:=λp hp=>(hu p hp).2.1
 have a2:∀v,VOk s.objs up v->∀k∈qh v,nth .none (upds s.objs up) k≠ .none:=λv hv k hk=>by
  rcases hv k hk with h1|⟨h1,h2⟩
  .exact zl a1 h1
  .exact XE a1 (qI h1).2 h2
 have hvk:=a2 v hv;refine⟨λu hu' k hk=>?_,λk u hu' j hj=>?_⟩
 .have a0:u∈s.tmps->nth .none (upds s.objs up) k≠ .none:=λh1=>zl a1 (hs.tmps u h1 k hk)
  simp only[I3]at hu';cases hd:o.dst with
  |none=>rw[hd]at hu';exact a0 hu'
  |some t=>
   rw[hd]at hu';rcases xJ hu' with h1|rfl
   .exact a0 h1
   .exact hvk k hk
 .change nth .none (upds s.objs up) j≠ .none;change u∈qQ (nth .none (upds s.objs up) k)at hu';rcases y9 k up s.objs with h1|⟨h1,_⟩|⟨p,hp,_,h2⟩
  .rw[h1]at hu';exact zl a1 (hs.objs k u hu' j hj)
  .rw[h1]at hu';simp[qQ]at hu'
  .rw[h2]at hu';exact a2 u ((hu p hp).2.2 u hu') j hj
omit [Env] in
theorem xk {n:Nat}:∀{l:List Nat},k9 n l=true↔n∈l
 |[]=>by simp[k9]
 |m::r=>by
  unfold k9;split
  .rename_i h;have:=bw h;simp[this]
  .rename_i h;have:n≠m:=λe=>by subst e;simp at h
   rw[xk];simp[this]
omit [Env] in
theorem jW {a l:List Nat} (h:NV a l=true):∀x∈a,x∉l:=by
 induction a with
 |nil=>intro x hx;simp at hx
 |cons y r ih=>
  simp only[NV,Hx,I1]at h;intro x hx;rcases M0.1 hx with rfl|hx
  .intro hm;rw[xk.2 hm]at h;simp at h
  .exact ih h.2 x hx
def Fk (ra rb:Rec):Prop:=(∀k∈ra.2,k∉rb.1)/\(∀k∈rb.2,k∉ra.1)/\(∀k∈ra.2,k∉rb.2)
structure Free (C:Cx) (ops:Array Oper) (a b:Oper) (ra rb:Rec):Prop where
 dd:∀d,d∈UU C a->d∉UU C b
 al:∀d,a.dst=some d-> .tmp d∉b.op.operands.toList
 ag:∀d,a.dst=some d->∀j w,b.guard=some (j,w)->vE ops j≠some d
 bl:∀d,b.dst=some d-> .tmp d∉a.op.operands.toList
 bg:∀d,b.dst=some d->∀j w,a.guard=some (j,w)->vE ops j≠some d
 cl:(cls C a=0\/cls C b=0\/(cls C a=1/\cls C b=1))\/Fk ra rb
omit [Env] in
theorem Free.symm {a b:Oper} {ra rb:Rec} (h:Free C ops a b ra rb):Free C ops b a rb ra:=
 ⟨λd h1 h2=>h.dd d h2 h1,h.bl,h.bg,h.al,h.ag,by
  rcases h.cl with(h|h|h)|h
  .exact .inl (.inr (.inl h))
  .exact .inl (.inl h)
  .exact .inl (.inr (.inr ⟨h.2,h.1⟩))
  .exact .inr ⟨h.2.1,h.1,λk hk hk'=>h.2.2 k hk' hk⟩⟩
omit [Env] in
theorem YI {a b:Oper} {ra rb:Rec} (h:NW C ops.toList a b=true) (hc:(cls C a=0\/cls C b=0\/(cls C a=1/\cls C b=1))\/Fk ra rb):Free C ops a b ra rb:=by
 simp only[NW,Hx]at h;obtain⟨⟨h1,h2⟩,h3⟩:=h;have dl:∀{o:Oper} {d:Nat},o.dst=some d->d∈aE o:=λ{o} {d} h=>by simp[aE,h]
 have lo:∀{o:Oper} {d:Nat},.tmp d∈o.op.operands.toList->d∈looks ops.toList o:=λ{o} {d} h=>
  List.mem_append_left _ (No.2 ⟨_,h,by simp[RC]⟩)
 have lg:∀{o:Oper} {d:Nat} {j:Nat} {w:Bool},o.guard=some (j,w)->vE ops j=some d->d∈looks ops.toList o:=λ{o} {d} {j} {w} h hg=>by
  refine M1 _ ?_;rw[h];unfold vE at hg;split at hg
  .rename_i g hj;have:nth default ops.toList j=g:=by rw[qw];simp[hj]
   dsimp only
   rw[this,hg];simp
  .simp at hg
 exact⟨λd ha hb=>jW h1 d ha hb,λd ha hb=>jW h2 d (dl ha) (lo hb),λd ha j w hg ht=>jW h2 d (dl ha) (lg hg ht),λd hb ha=>jW h3 d (dl hb) (lo ha),
  λd hb j w hg ht=>jW h3 d (dl hb) (lg hg ht),hc⟩
omit [Env] in
theorem YJ {a b:Oper} (h:NX C a b=true):cls C a=0\/cls C b=0\/(cls C a=1/\cls C b=1):=by
 simp only[NX,Hy,Hx]at h;rcases h with(h4|h4)|h4
 .exact .inl (bw h4)
 .exact .inr (.inl (bw h4))
 .exact .inr (.inr ⟨bw h4.1,bw h4.2⟩)
omit [Env] in
theorem Ow {a b:Oper} {ra rb:Rec} (h:ST C ops.toList a b=true):Free C ops a b ra rb:=by
 simp only[ST,Hx]at h;exact YI h.1 (.inl (YJ h.2))
omit [Env] in
theorem Tw {a b:Oper} {ra rb:Rec} (h:UV C ops.toList a b ra rb=true):Free C ops a b ra rb:=by
 simp only[UV,Hx,Hy]at h;refine YI h.1 ?_;rcases h.2 with h|h
 .exact .inl (YJ h)
 .simp only[EX,Hx]at h;exact .inr ⟨jW h.1.1,jW h.1.2,jW h.2⟩
omit [Env] in
theorem RI {s:St} {dst:Option Nat} {v:V} {up:List (Nat×Obj)} {x:Operand} (h:∀d,dst=some d->x≠ .tmp d):ev (s.put dst v up) x=ev s x:=by
 cases x with
 |tmp t=>
  simp only[ev,I3];cases dst with
  |none=>rfl
  |some d=>exact congrArg un (qa _ _ _ λe=>h d rfl (by rw[e]))
 |_=>rfl
omit [Env] in
theorem JP {a b:Oper} {ra rb:Rec} {s:St} {va:V} {ua:List (Nat×Obj)} (hf:Free C ops a b ra rb):V4 (ev (s.put a.dst va ua)) b.op.operands.toList=V4 (ev s) b.op.operands.toList:=by
 have hev:∀x∈b.op.operands.toList,ev (s.put a.dst va ua) x=ev s x:=λx hx=>RI λd hd hxd=>hf.al d hd (hxd▸hx)
 have:∀l:List Operand,(∀x∈l,ev (s.put a.dst va ua) x=ev s x)->V4 (ev (s.put a.dst va ua)) l=V4 (ev s) l:=by
  intro l
  induction l with
  |nil=>intro _;rfl
  |cons x l ih=>intro h;simp only[V4];rw[h x (by simp),ih λy hy=>h y (by simp[hy])]
 exact this _ hev
omit [Env] in
theorem vi {b:Oper} {s:St} (hs:WF s):∀k∈V4 (ev s) b.op.operands.toList,nth .none s.objs k≠ .none:=λk hk=>by
 rw[Qi]at hk;obtain⟨x,_,hx⟩:=No.1 hk;exact hs.ev x k hx
omit [Env] in
theorem XF {ob ob':List Obj}:∀{l:List Nat},(∀k∈l,nth .none ob k=nth .none ob' k\/∃s es fz s' es' fz',nth .none ob k= .arr s es fz/\nth .none ob' k= .arr s' es' fz')->Wc ob l=Wc ob' l
 |[],_=>rfl
 |k::r,h=>by
  simp only[Wc];rw[XF λj hj=>h j (by simp[hj])];rcases h k (by simp)with h1|⟨s,es,fz,s',es',fz',h1,h2⟩
  .rw[h1]
  .rw[h1,h2]
omit [Env] in
theorem vW {ob ob':List Obj}:∀{l:List Nat},(∀k∈l,nth .none ob k=nth .none ob' k\/∃s es fz s' es' fz',nth .none ob k= .arr s es fz/\nth .none ob' k= .arr s' es' fz')->jQ ob l=jQ ob' l
 |[],_=>rfl
 |k::r,h=>by
  simp only[jQ];rw[vW λj hj=>h j (by simp[hj])];rcases h k (by simp)with h1|⟨s,es,fz,s',es',fz',h1,h2⟩
  .rw[h1]
  .rw[h1,h2]
omit [Env] in
theorem Tx {o:Oper} {ρ:Operand->V} {ob:List Obj}:∀k∈V4 ρ o.op.operands.toList,k∈opk o ρ ob:=λk hk=>by
 unfold opk;split
 .exact jV (qq.2 ⟨k,hk,.inl rfl⟩)
 .exact y5.2 ⟨k,hk,.inl rfl⟩
theorem Ty [EffOk C] {a b:Oper} {ra rb:Rec} {s:St} {va:V} {ua:List (Nat×Obj)} (hs:WF s) (hf:Free C ops a b ra rb) (ha:Stp C Gv ops a s va ua) (hra:∀p∈ua,p.1∈ra.2) (hb0:cls C b≠0) (hrl:(∀k∈opk b (ev s) s.objs,k∈rb.1)\/∀k∈opk b (ev (s.put a.dst va ua)) (s.put a.dst va ua).objs,k∈rb.1):
 opk b (ev (s.put a.dst va ua)) (s.put a.dst va ua).objs=opk b (ev s) s.objs:=by
 obtain⟨hu,_⟩:=ha.good hs;have ag:∀k,nth .none s.objs k≠ .none->k∈rb.1->nth .none (upds s.objs ua) k=nth .none s.objs k\/∃sz es fz s' es' fz',nth .none (upds s.objs ua) k= .arr sz es fz/\nth .none s.objs k= .arr s' es' fz':=λk hthere hk=>by
  rcases y9 k ua s.objs with h1|⟨_,h1⟩|⟨p,hp,rfl,h2⟩
  .exact .inl h1
  .exact absurd h1 hthere
  .rcases(hu p hp).1 with⟨_,h3⟩|⟨_,h3,_,h4⟩
   .exact absurd (qI h3).1 hthere
   .rcases hf.cl with(h|h|h)|h
    .exact absurd h h3
    .exact absurd h hb0
    .obtain⟨sz,es,fz,h5,h6⟩:=h4 (by omega);exact .inr ⟨_,_,_,_,_,_,h2.trans h6,h5⟩
    .exact absurd hk (h.1 _ (hra p hp))
 have hl:∀k∈V4 (ev s) b.op.operands.toList,k∈rb.1:=λk hk=>by
  rcases hrl with h|h
  .exact h k (Tx k hk)
  .exact h k (Tx k (by rw[JP hf];exact hk))
 have a0:∀k∈V4 (ev s) b.op.operands.toList,nth .none (s.put a.dst va ua).objs k=nth .none s.objs k\/∃sz es fz s' es' fz',nth .none (s.put a.dst va ua).objs k= .arr sz es fz/\nth .none s.objs k= .arr s' es' fz':=λk hk=>ag k (vi hs k hk) (hl k hk)
 cases hc:UW b with
 |false=>unfold opk;rw[JP hf,hc];exact XF a0
 |true=>
  have e1:=vW a0;unfold opk at hrl ⊢;rw[JP hf]at hrl ⊢;rw[hc]at hrl ⊢;simp only at hrl ⊢;unfold wC at hrl ⊢;rw[e1]at hrl ⊢;refine vW λk hk=>ag k ?_ ?_
  .obtain⟨j,h1,h2⟩:=qq.1 hk;rcases h2 with rfl|⟨q,hq,h2⟩
   .exact vi hs k h1
   .exact hs.objs j q hq k h2
  .rcases hrl with h|h
   .exact h k (j6 hk)
   .exact h k (j6 hk)
theorem Stp.indep [EffOk C] {a b:Oper} {ra rb:Rec} {s:St} {va vb:V} {ua ub:List (Nat×Obj)} (hs:WF s) (hf:Free C ops a b ra rb) (ha:Stp C Gv ops a s va ua) (hra:∀p∈ua,p.1∈ra.2) (hrb:cls C b≠0->∀k∈opk b (ev s) s.objs,k∈rb.1):
 Stp C Gv ops b (s.put a.dst va ua) vb ub↔Stp C Gv ops b s vb ub:=by
 obtain⟨hu,_⟩:=ha.good hs;have hev:∀x∈b.op.operands.toList,ev (s.put a.dst va ua) x=ev s x:=λx hx=>RI λd hd hxd=>hf.al d hd (hxd▸hx)
 have hw:∀c,yA ops b (s.put a.dst va ua).tmps c↔yA ops b s.tmps c:=λc=>by
  unfold yA;split
  .exact Iff.rfl
  .rename_i j a1 hg;have:∀t,vE ops j=some t->nth .any (s.put a.dst va ua).tmps t=nth .any s.tmps t:=λt ht=>by
    simp only[I3];cases hd:a.dst with
    |none=>rfl
    |some d=>exact qa _ _ _ λe=>hf.ag d hd j a1 hg (by rw[ht,e])
   constructor
   .rintro⟨t,h1,h2⟩;exact⟨t,h1,by rw[<-this t h1];exact h2⟩
   .rintro⟨t,h1,h2⟩;exact⟨t,h1,by rw[this t h1];exact h2⟩
 have hop:xl C b (ev (s.put a.dst va ua)) (s.put a.dst va ua).objs=xl C b (ev s) s.objs:=by
  rw[H4 hev];refine Eq.symm (Bm ?_ λd hd=>?_)
  .by_cases hb:cls C b=0
   .exact .inl hb
   .refine .inr λk hk=>?_
    have a0:nth .none s.objs k≠ .none:=by
     unfold opk at hk;split at hk
     .have hB:∀j,j∈jQ s.objs (V4 (ev s) b.op.operands.toList)->nth .none s.objs j≠ .none:=λj hj=>by
       obtain⟨i,h1,h2⟩:=qq.1 hj;rcases h2 with rfl|⟨q,hq,h2⟩
       .exact vi hs j h1
       .exact hs.objs i q hq j h2
      obtain⟨j,h1,h2⟩:=qq.1 hk;rcases h2 with rfl|⟨q,hq,h2⟩
      .exact hB k h1
      .exact hs.objs j q hq k h2
     .obtain⟨j,h1,h2⟩:=y5.1 hk;rcases h2 with rfl|⟨T,q,hq,h2⟩
      .exact vi hs k h1
      .exact hs.objs j q (by rw[hq];simp[qQ]) k h2
    refine Ag.symm ?_;change Ag _ (nth .none (upds s.objs ua) k) _;rcases y9 k ua s.objs with h1|⟨_,h1⟩|⟨p,hp,rfl,h2⟩
    .exact .inl h1
    .exact absurd h1 a0
    .rcases(hu p hp).1 with⟨_,h3⟩|⟨_,h3,_,h4⟩
     .exact absurd (qI h3).1 a0
     .have hca:cls C a=1/\cls C b=1:=by
       rcases hf.cl with(h|h|h)|h
       .exact absurd h h3
       .exact absurd h hb
       .exact h
       .exact absurd (hrb hb _ hk) (h.1 _ (hra p hp))
      obtain⟨sz,es,fz,h5,h6⟩:=h4 (by omega);exact .inr ⟨by omega,sz,es,true,fz,by rw[h2,h6],h5⟩
  .refine Eq.symm ?_;have hne:∀p∈ua,p.2≠ .none:=λp hp=>(hu p hp).2.1
   change qx (upds s.objs ua) d=_;by_cases hex:∃p∈ua,p.1=d
   .obtain⟨p,hp,rfl⟩:=hex;rcases(hu p hp).1 with⟨h3,_⟩|⟨_,_,h3,_⟩
    .exact absurd hd (hf.dd _ h3)
    .have h4:=zl hne h3;have a2:∀{ob:List Obj} {d:Nat},nth .none ob d≠ .none->qx ob d=false:=λ{ob} {d} h=>by
      cases hfk:qx ob d
      .rfl
      .exact absurd (qI hfk).1 h
     rw[a2 h3,a2 h4]
   .have:nth .none (upds s.objs ua) d=nth .none s.objs d:=xz _ _ λp hp e=>hex ⟨p,hp,e⟩
    have hl:=jF ua s.objs;unfold qx;by_cases hlt:d<s.objs.length
    .rw[qk _ hlt,qk _ (by rw[hl];exact hlt)];rw[qk _ hlt,qk _ (by rw[hl];exact hlt)]at this;rw[this]
    .rw[qC (l:=upds s.objs ua) _ (by rw[hl];exact cb.1 hlt),qC (l:=s.objs) _ (cb.1 hlt)]
 unfold Stp;rw[hop];constructor
 .rintro⟨c,h1,h2⟩;exact⟨c,(hw c).1 h1,h2⟩
 .rintro⟨c,h1,h2⟩;exact⟨c,(hw c).2 h1,h2⟩
theorem Stp.swap [EffOk C] {a b:Oper} {ra rb:Rec} {s:St} {va vb:V} {ua ub:List (Nat×Obj)} (hs:WF s) (hf:Free C ops a b ra rb) (ha:Stp C Gv ops a s va ua) (hra:RecOk C a s ua ra) (hb:Stp C Gv ops b (s.put a.dst va ua) vb ub) (hrb:RecOk C b (s.put a.dst va ua) ub rb):
 (Stp C Gv ops b s vb ub/\RecOk C b s ub rb)/\(Stp C Gv ops a (s.put b.dst vb ub) va ua/\RecOk C a (s.put b.dst vb ub) ua ra)/\((s.put a.dst va ua).put b.dst vb ub).tmps=((s.put b.dst vb ub).put a.dst va ua).tmps/\
  ((s.put a.dst va ua).put b.dst vb ub).objs=((s.put b.dst vb ub).put a.dst va ua).objs:=by
 have a0:RecOk C b s ub rb:=⟨λhb0=>by
  rw[<-Ty hs hf ha hra.ups hb0 (.inr (hrb.reads hb0))];exact hrb.reads hb0,hrb.ups⟩
 have a1:=(ha.indep hs hf hra.ups a0.reads).1 hb;refine⟨⟨a1,a0⟩,⟨(a1.indep hs hf.symm hrb.ups hra.reads).2 ha,λha0=>by
  rw[Ty hs hf.symm a1 hrb.ups ha0 (.inl (hra.reads ha0))];exact hra.reads ha0,hra.ups⟩,?_,?_⟩
 .simp only[I3];cases hda:a.dst with
  |none=>rfl
  |some d=>
   cases hdb:b.dst with
   |none=>rfl
   |some e=>exact vh _ _ _ _ _ (.inl λhe=>hf.dd d (y6 hda) (y6 (by rw[hdb,he])))
 .simp only[I3];refine Wu _ _ _ λp hp q hq hpq=>?_
  have hp':=((ha.good hs).1 p hp).1;have a2:=((a1.good hs).1 q hq).1;rcases hp' with⟨h1,h2⟩|⟨_,h1,h2,h3⟩
  .rcases a2 with⟨h4,h5⟩|⟨_,_,h4,_⟩
   .exact absurd (hpq▸h4) (hf.dd _ h1)
   .rw[hpq]at h4;exact absurd (qI h2).1 h4
  .rcases a2 with⟨h4,h5⟩|⟨_,h4,_,h6⟩
   .rw[hpq]at h5;exact absurd (qI h5).1 h2
   .have hca:cls C a=1/\cls C b=1:=by
     rcases hf.cl with(h|h|h)|h
     .exact absurd h h1
     .exact absurd h h4
     .exact h
     .exact absurd (hpq▸hrb.ups q hq) (h.2.2 _ (hra.ups p hp))
    obtain⟨sz,es,fz,h7,h8⟩:=h3 (by omega);obtain⟨sz',es',fz',h9,h10⟩:=h6 (by omega);rw[hpq,h7]at h9;simp only[Obj.arr.injEq]at h9;obtain⟨rfl,rfl,_⟩:=h9;rw[h8,h10]
theorem Tr.front [EffOk C] {rc:Nat->Rec} {i:Nat} {o:Oper} (ho:ops[i]? =some o):∀{pre post:List Nat} {s e:St},WF s->(∀j∈pre,∀b,ops[j]? =some b->Free C ops b o (rc j) (rc i))->Tr C Gv ops rc (pre++i::post) s e->Tr C Gv ops rc (i::(pre++post)) s e
 |[],post,s,e,_,_,h=>h
 |j::pre,post,s,e,hs,hf,h=>by
  obtain⟨b,hb,vb,ub,h1,hr1,h2⟩:=h;obtain⟨o',ho',v,up,h3,hr3,h4⟩:=Tr.front ho (hs.put h1) (λj' hj'=>hf j' (by simp[hj'])) h2;obtain rfl:o=o':=by rw[ho]at ho';exact cv ho'
  obtain⟨h5,h6,h7,h8⟩:=h1.swap hs (hf j (by simp) b hb) hr1 h3 hr3;exact⟨o,ho,v,up,h5.1,h5.2,b,hb,vb,ub,h6.1,h6.2,h4.same h7 h8⟩
end
end Eng
end
section
namespace Eng
open Go Go.RowKit
variable [Env]
section
variable {C:Cx} {B:Bd} {F0:Nat->Prop} {w0:World} {ops:Array Oper} {Q:Exit->Act->World->Prop}
theorem xc {s s':St} {a:Act} {w:World} (h:I2 C B F0 w0 s a w) (h1:s.tmps=s'.tmps) (h2:s.objs=s'.objs):I2 C B F0 w0 s' a w:=by
 obtain⟨F,loc,h⟩:=h;obtain⟨t,o,d⟩:=s;obtain⟨t',o',d'⟩:=s';subst h1 h2;exact⟨F,loc,h.redirty⟩
theorem Tz {o:Oper} {s:St} {a:Act} {w:World} {F:Nat->Prop} {loc:Where} {b:Bool} (h:Conc C B F0 w0 F loc s a w) (hw:yA ops o s.tmps b):Lr o (yielded ops a.tmps)=b:=by
 unfold yA at hw;unfold Lr;split at hw
 .rename_i hg;rw[hg];exact hw.symm
 .rename_i j a2 hg;obtain⟨t,h1,hw⟩:=hw;rw[hg];rcases hw with⟨c,h2,rfl⟩|⟨h2,rfl⟩
  rotate_left
  .have ht:t<s.tmps.length:=by
    rcases cg t s.tmps.length with h|h
    .exact h
    .rw[qC _ h]at h2;simp at h2
   have hv:=h.tmps.nth .any undef _ _ t ht;rw[h2,QS]at hv;have a0:a.tmps.getD t undef=undef:=hv;have a1:t<a.tmps.size:=by have:=h.tmps.length;simpa [this]using ht
   have hy:yielded ops a.tmps j=none:=by
    unfold yielded;unfold vE at h1;split at h1
    .rename_i g hj;have:a.tmps[t]? =some undef:=by rw[Hv a1];simp[Dd,a1]at a0;rw[a0]
     simp[hj,h1,this,undef]
    .simp at h1
   dsimp only
   rw[hy];cases a2<;>rfl
  have ht:t<s.tmps.length:=by
   rcases cg t s.tmps.length with h|h
   .exact h
   .rw[qC _ h]at h2;simp at h2
  have hv:=h.tmps.nth .any undef _ _ t ht;rw[h2,QS]at hv;have a0:a.tmps.getD t undef= .bool c:=(λ(x:Value) (hx:CD w F (.bool c) x)=>(by cases hx;rfl:x= .bool c)) _ hv;have a1:t<a.tmps.size:=by have:=h.tmps.length;simpa [this]using ht
  have hy:yielded ops a.tmps j=some c:=by
   unfold yielded;unfold vE at h1;split at h1
   .rename_i g hj;have:a.tmps[t]? =some (.bool c):=by rw[Hv a1];simp[Dd,a1]at a0;rw[a0]
    simp[hj,h1,this]
   .simp at h1
  dsimp only
  rw[hy];cases c<;>cases a2<;>rfl
theorem Stp.wp [EffOk C] {o:Oper} {i:Nat} {s:St} {a:Act} {w:World} {v:V} {up:List (Nat×Obj)} {K:Act->World->Prop} (ho:ops[i]? =some o) (h:I2 C B F0 w0 s a w) (hs:Stp C (Gives C) ops o s v up)
 (hK:∀a' w',I2 C B F0 w0 (s.put o.dst v up) a' w'->K a' w'):wpOp C.P ops Q i K a w:=by
 obtain⟨F,loc,h⟩:=h;obtain⟨b,hw,hs⟩:=hs;unfold wpOp;rw[ho]
 dsimp only
 rw[Tz h hw];cases b with
 |false=>obtain⟨rfl,rfl⟩:=hs;rw[if_neg (by simp)];exact hK _ _ ⟨F,loc,h.pure (v:= .no) rfl trivial⟩
 |true=>
  rw[if_pos rfl]at hs ⊢;refine .inl ?_;have hr:=cM (o:=o) h;generalize xl C o (ev s) s.objs=r at *;cases r with
  |fail=>exact hs.elim
  |ok v up=>obtain⟨rfl,rfl⟩:=hs;exact hr K Q hK
  |cond c v up=>obtain⟨hc,rfl,rfl⟩:=hs;exact hr hc K Q hK
  |look z row off ag=>obtain⟨ds,hc,rfl,rfl⟩:=hs;exact hr ds hc K Q hK
  |call f as sh up=>obtain⟨rs,h1,h2,rfl,rfl⟩:=hs;exact hr rs h1 h2 K Q hK
theorem Fl {s:St} {a:Act} {w:World} (h:I2 C B F0 w0 s a w):WF s:=by
 obtain⟨F,loc,h⟩:=h;have hk:∀v,Ref s.objs v->∀k∈qh v,nth .none s.objs k≠ .none:=λv hv k hk=>by
  cases v<;>simp only[qh,Ls,List.not_mem_nil]at hk<;>first|(subst hk;exact hv)|exact hv k hk|(rcases M0.1 hk with rfl|hk;exact hv.1;obtain⟨p,hp,rfl⟩:=Lv.1 hk;exact hv.2 p hp)
 refine⟨λv hv=>hk v (h.refs v hv),λk u hu=>hk u ?_⟩;have:=h.objs k;cases hc:nth .none s.objs k with
 |box cells=>rw[hc]at this hu;obtain⟨_,_,_,_,_,_,_,_,h5⟩:=this;exact h5 u hu
 |vec cells=>rw[hc]at this hu;obtain⟨_,_,_,_,_,_,_,_,_,_,h5,_⟩:=this;exact h5 u hu
 |bld T q=>rw[hc]at this hu;obtain⟨_,_,_,_,_,_,_,_,_,h5⟩:=this;simp[qQ]at hu;subst hu;exact h5.1
 |_=>rw[hc]at hu;simp[qQ]at hu
theorem YK [EffOk C] {rc:Nat->Rec}:∀{l:List Nat} {s e:St} {a:Act} {w:World},Tr C (Gives C) ops rc l s e->I2 C B F0 w0 s a w->(∀a w,I2 C B F0 w0 e a w->Q .normal a w)->wpOps C.P ops Q l a w
 |[],s,e,a,w,ht,h,hQ=>hQ a w (xc h ht.1 ht.2)
 |i::l,s,e,a,w,ht,h,hQ=>by obtain⟨o,ho,v,up,h1,_,h2⟩:=ht;rw[wpOps_cons];exact h1.wp ho h λa' w' h'=>YK h2 h' hQ
omit [Env] in
theorem XG (m j:Nat):Y5 m j=m.testBit j:=by
 unfold Y5;rw[Bool.eq_iff_iff,Nat.beq_eq];show(m>>>j)&&&1=1↔_;rw[Nat.testBit,Nat.and_comm,Nat.one_and_eq_mod_two,bne_iff_ne];omega
omit [Env] in
theorem RJ:∀(l:List Oper) (acc:List Nat),∃ext,anc l acc=acc++ext/\ext.length=l.length/\∀i o,l[i]? =some o->nth 0 ext i=vF o.after.toList (acc++ext.take i)
 |[],acc=>⟨[],by simp[anc],rfl,λi o h=>by simp at h⟩
 |o::l,acc=>by
  obtain⟨ext,h1,h2,h3⟩:=RJ l (acc++[vF o.after.toList acc]);refine⟨vF o.after.toList acc::ext,by simp only[anc];rw[h1,W2];rfl,by simp[h2],λi p hi=>?_⟩;cases i with
  |zero=>simp only[Pl,cp]at hi;subst hi;simp[nth]
  |succ i=>simp only[P1]at hi;have:=h3 i p hi;simp only[nth,List.take_succ_cons];rw[this,W2];rfl
omit [Env] in
theorem XH {acc:List Nat} {j:Nat}:∀{es:List Edge},Y5 (vF es acc) j=true->∃e∈es,Lm .any e=true/\(j=e.on\/Y5 (nth 0 acc e.on) j=true)
 |[],h=>by rw[XG]at h;simp[vF]at h
 |e::r,h=>by
  simp only[vF]at h;split at h
  .rename_i hb;have h:Y5 ((2^e.on|||nth 0 acc e.on)|||vF r acc) j=true:=h;rw[XG,cm,cm,Nat.testBit_two_pow,Hy,Hy,decide_eq_true_eq,<-XG,<-XG]at h;rcases h with(h|h)|h
   .exact⟨e,by simp,hb,.inl h.symm⟩
   .exact⟨e,by simp,hb,.inr h⟩
   .obtain⟨e',h1,h2,h3⟩:=XH h;exact⟨e',by simp[h1],h2,h3⟩
  .obtain⟨e',h1,h2,h3⟩:=XH h;exact⟨e',by simp[h1],h2,h3⟩
omit [Env] in
theorem Fm {i j:Nat} {o:Oper} {l:List Oper} (ho:l[i]? =some o) (h:Y5 (nth 0 (anc l []) i) j=true):∃e∈o.after.toList,Lm .any e=true/\(j=e.on\/Y5 (nth 0 (anc l []) e.on) j=true):=by
 obtain⟨ext,h1,h2,h3⟩:=RJ l [];simp only[List.nil_append]at h1 h3;rw[h1]at h ⊢;rw[h3 i o ho]at h;obtain⟨e,h4,h5,h6⟩:=XH h;refine⟨e,h4,h5,h6.imp_right λh6=>?_⟩;by_cases he:e.on<(ext.take i).length
 .rw[qk _ he]at h6;have hlt:e.on<ext.length:=by simp at he;omega
  rw[qk _ hlt]
  simpa using h6
 .rw[qC _ (cb.1 he),XG]at h6;simp at h6
structure ROk (C:Cx) (ops:Array Oper) (rc:Nat->Rec):Prop where
 free:∀i o,ops[i]? =some o->∀j b,j<i->ops[j]? =some b->Y5 (nth 0 (anc ops.toList []) i) j=true\/Free C ops b o (rc j) (rc i)
 back:∀i o,ops[i]? =some o->∀e∈o.after.toList,Lm .any e=true->e.on<i
omit [Env] in
theorem JQ {i:Nat}:∀{es:List Edge},V3 es i=true->∀e∈es,Lm .any e=true->e.on<i
 |[],_,e,he,_=>by simp at he
 |e'::r,h,e,he,hb=>by
  simp only[V3,Hx]at h;rcases M0.1 he with rfl|he
  .have:=h.1;rw[hb]at this
   simpa [Nat.blt_eq]using this
  .exact JQ h.2 e he hb
omit [Env] in
theorem Je {o:Oper} {an:Nat}:∀{l:List Oper} {j:Nat},Xs C ops.toList o an l j=true->∀k b,l[k]? =some b->Y5 an (j+k)=true\/∀rb ro,Free C ops b o rb ro
 |[],_,_,k,b,hb=>by simp at hb
 |b'::r,j,h,k,b,hb=>by
  simp only[Xs,Hx,Hy]at h;cases k with
  |zero=>
   simp only[Pl,cp]at hb;subst hb;rcases h.1 with h1|h1
   .exact .inl h1
   .exact .inr λrb ro=>Ow h1
  |succ k=>
   simp only[P1]at hb;have:=Je h.2 k b hb
   rwa [bF,cc 1 k]at this
omit [Env] in
theorem XI {an:List Nat} {all:List Oper}:∀{l:List Oper} {k:Nat},vd C all an l k=true->∀i o,l[i]? =some o->Xs C all o (nth 0 an (k+i)) (all.take (k+i)) 0=true/\V3 o.after.toList (k+i)=true
 |[],_,_,i,o,h=>by simp at h
 |o'::r,k,h,i,o,ho=>by
  simp only[vd,Hx]at h;cases i with
  |zero=>simp only[Pl,cp]at ho;subst ho;exact h.1
  |succ i=>
   simp only[P1]at ho;have:=XI h.2 i o ho
   rwa [bF,cc 1 i]at this
omit [Env] in
theorem XJ (rc:Nat->Rec) (h:ve C ops.toList=true):ROk C ops rc:=by
 have hg:=λi o (ho:ops[i]? =some o)=>XI (k:=0) h i o (by simpa using ho)
 simp only[bx]at hg;refine⟨λi o ho j b hj hb=>?_,λi o ho=>JQ (hg i o ho).2⟩;have:=Je (hg i o ho).1 j b (by rw[W0 hj];simpa using hb);rw[bx]at this;exact this.imp_right λh=>h _ _
omit [Env] in
theorem XK {o:Oper} {ro:Rec} {an:Nat}:∀{l:List Oper} {rs:List Rec} {j:Nat},yn C ops.toList o ro an l rs j=true->∀k b,l[k]? =some b->Y5 an (j+k)=true\/Free C ops b o (nth ([],[]) rs k) ro
 |[],_,_,_,k,b,hb=>by simp at hb
 |b'::r,rs,j,h,k,b,hb=>by
  simp only[yn,Hx,Hy]at h;cases k with
  |zero=>
   simp only[Pl,cp]at hb;subst hb;rcases h.1 with h1|h1
   .exact .inl h1
   .exact .inr (Tw h1)
  |succ k=>
   simp only[P1]at hb;have:=XK h.2 k b hb;rw[bF,cc 1 k]at this;refine this.imp_right λh=>?_
   have e:nth ([],[]) (rs.drop 1) k=nth ([],[]) rs (k+1):=by rw[qw,qw];simp
   rwa [e]at h
omit [Env] in
theorem Q7 {an:List Nat} {all:List Oper} {recs:List Rec}:∀{l:List Oper} {k:Nat},kE C all recs an l k=true->∀i o,l[i]? =some o->yn C all o (nth ([],[]) recs (k+i)) (nth 0 an (k+i)) (all.take (k+i)) recs 0=true/\V3 o.after.toList (k+i)=true
 |[],_,_,i,o,h=>by simp at h
 |o'::r,k,h,i,o,ho=>by
  simp only[kE,Hx]at h;cases i with
  |zero=>simp only[Pl,cp]at ho;subst ho;exact h.1
  |succ i=>
   simp only[P1]at ho;have:=Q7 h.2 i o ho
   rwa [bF,cc 1 i]at this
omit [Env] in
theorem Q8 {recs:List Rec} (h:wB C ops.toList recs=true):ROk C ops (λi=>nth ([],[]) recs i):=by
 have hg:=λi o (ho:ops[i]? =some o)=>Q7 (k:=0) h i o (by simpa using ho)
 simp only[bx]at hg;refine⟨λi o ho j b hj hb=>?_,λi o ho=>JQ (hg i o ho).2⟩;have:=XK (hg i o ho).1 j b (by rw[W0 hj];simpa using hb)
 rwa [bx]at this
theorem Ox [EffOk C] {rc:Nat->Rec} (hr:ROk C ops rc):∀{rem:List Nat} {listed:Array Bool} {s e:St} {a:Act} {w:World},Tr C (Gives C) ops rc rem s e->I2 C B F0 w0 s a w->(∀a w,I2 C B F0 w0 e a w->Q .normal a w)->
 rem.Pairwise (· < ·)->listed.size=ops.size->(∀i,i∈rem↔i<ops.size/\listed.getD i true=false)->(∀i,i<ops.size->listed.getD i true=true->∀j,Y5 (nth 0 (anc ops.toList []) i) j=true->listed.getD j false=true)->
 wpAny C.P .any ops Q rem.length listed a w:=by
 intro rem;generalize hn:rem.length=n
 induction n generalizing rem with
 |zero=>intro listed s e a w ht h hQ a2 b4 a0 ap;have a4:rem=[]:=U3 hn;subst a4;refine⟨?_,hQ a w (xc h ht.1 ht.2)⟩;apply List.eq_nil_iff_forall_not_mem.2;intro i hi;obtain⟨h0,o,ho,_⟩:=mem_ready.1 hi;have:=(a0 i).2 ⟨(Hu.1 ho).1,h0⟩;simp at this
 |succ n ih=>
  intro listed s e a w ht h hQ a2 b4 a0 ap;have a1:∀j,j<listed.size->listed.getD j true=listed.getD j false:=λj hj=>by simp[Dd,hj]
  refine⟨λa4=>?_,λi hi=>?_⟩
  .cases rem with
   |nil=>simp at hn
   |cons i r=>
    exfalso;have hi:=(a0 i).1 (by simp);obtain⟨o,ho,_⟩:=ht;have:i∈Region.ready .any ops listed:=by
     refine mem_ready.2 ⟨hi.2,o,ho,λe he hb=>?_⟩;have b0:=hr.back i o ho e (by simpa using he) hb;cases hl:listed.getD e.on true with
     |true=>rw[<-a1 _ (by omega)];exact hl
     |false=>
      have:=(a0 e.on).2 ⟨by omega,hl⟩;rcases M0.1 this with h1|h1
      .omega
      .have:=V1 a2 h1;omega
    rw[a4]at this;simp at this
  .obtain⟨h0,o,ho,an⟩:=mem_ready.1 hi;have ad:i<ops.size:=(Hu.1 ho).1;have him:i∈rem:=(a0 i).2 ⟨ad,h0⟩;obtain⟨al,a3,rfl⟩:=List.append_of_mem him;have a6:∀j,Y5 (nth 0 (anc ops.toList []) i) j=true->listed.getD j false=true:=λj hj=>by
    obtain⟨e,h1,h2,h3⟩:=Fm (by simpa using ho) hj;have he:=an e (by simpa using h1) h2;rcases h3 with rfl|h3
    .exact he
    .have b0:=hr.back i o ho e h1 h2;exact ap e.on (by omega) (by rw[a1 _ (by omega)];exact he) j h3
   have a5:=W1.1 a2;have a7:∀j∈al,∀b,ops[j]? =some b->Free C ops b o (rc j) (rc i):=λj hj b hb=>by
    have b0:j<i:=a5.2.2 j hj i (by simp);rcases hr.free i o ho j b b0 hb with h1|h1
    .have h2:=a6 j h1;have h3:=((a0 j).1 (by simp[hj])).2;rw[a1 j (by omega),h2]at h3;simp at h3
    .exact h1
   obtain⟨o',b5,v,up,h1,_,h2⟩:=Tr.front ho (Fl h) a7 ht;obtain rfl:o=o':=by rw[ho]at b5;exact cv b5
   refine h1.wp ho h λa' w' h'=>?_
   have b1:∀j,j∈al++a3↔j∈al++i::a3/\j≠i:=λj=>by
    have b2:∀j∈al,j≠i:=λj hj he=>by have:=a5.2.2 j hj i (by simp);omega
    have ag:∀j∈a3,j≠i:=λj hj he=>by have:=V1 a5.2.1 hj;omega
    simp only[M2,M0];constructor
    .rintro(h|h)
     .exact⟨.inl h,b2 j h⟩
     .exact⟨.inr (.inr h),ag j h⟩
    .rintro⟨h|h|h,h'⟩
     .exact .inl h
     .exact absurd h h'
     .exact .inr h
   have b3:∀j,(listed.setIfInBounds i true).getD j true=false↔listed.getD j true=false/\j≠i:=λj=>by
    by_cases hij:i=j
    .subst hij;simp[b4,ad]
    .rw[getD_set_ne true hij];exact⟨λh=>⟨h,λe=>hij e.symm⟩,λh=>h.1⟩
   refine ih (rem:=al++a3) (by simp at hn ⊢;omega) h2 h' hQ ?_ (by simp[b4]) (λj=>?_) (λk hk hlk j hj=>?_)
   .exact W1.2 ⟨a5.1,(List.pairwise_cons.1 a5.2.1).2,λx hx y hy=>a5.2.2 x hx y (by simp[hy])⟩
   .rw[b1,a0,b3];exact⟨λh=>⟨h.1.1,h.1.2,h.2⟩,λh=>⟨⟨h.1,h.2.1⟩,h.2.2⟩⟩
   .by_cases hki:i=k
    .subst hki;exact getD_set_true (a6 j hj)
    .rw[getD_set_ne true hki]at hlk;exact getD_set_true (ap k hk hlk j hj)
theorem yB [EffOk C] {rc:Nat->Rec} {id:Nat} {draw:Bool} {s e:St} {a:Act} {w:World} (hm:C.P.follows .mixedOrders=true) (hr:draw=true->ROk C ops rc) (ht:Tr C (Gives C) ops rc (Ts ops.size) s e) (h:I2 C B F0 w0 s a w)
 (hQ:∀a w,I2 C B F0 w0 e a w->Q .normal a w):(Code.region id ops draw).wp C.P Q a w:=by
 cases draw with
 |false=>exact wp_region (YK ht h hQ)
 |true=>
  refine wp_region_any hm ?_;have hd:I2 C B F0 w0 s a {w with drawn:=w.drawn+1}:=by obtain⟨F,loc,h⟩:=h;exact⟨F,loc,h.drew⟩
  have:=Ox (hr rfl) (listed:=Array.replicate ops.size false) ht hd hQ List.pairwise_lt_range (by simp) (λi=>by
   constructor
   .intro h;exact⟨by simpa using h,by simp[Dd,be.1 h]⟩
   .intro h;exact be.2 h.1) (λi hi h=>by simp[Dd,hi]at h)
  rwa [List.length_range]at this
end
end Eng
end
