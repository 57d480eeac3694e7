import Derived.Test.YtmfkgpfkpnmdnaaGreatDoorEngE
import Derived.LoopN
open Array renaming toList_map->Aw, ext'->Bx, mapM_eq_mapM_toList->Dd, toList_replicate->Hu, toList_append->Hv, replicate->Hx
open Bool renaming and_eq_true->Hy, not_eq_true'->I0
open Eng renaming settleO->I1, settle1->I2, evict1->I3, evict->J3, resD->J4
open Eng.Obj renaming none->Lm
open Eng.St renaming has->Lr, put->Ls
open Eng.V renaming box->Lv, c->M0
open Go.Code renaming wp_mono->M1
open Go.Ending renaming returned->M2
open Go.Value renaming pointer->M3, slice->No
open List renaming mem_flatMap->Pl, mem_singleton->P1, mem_cons->Sz, mem_append->Tk, length_map->Ts, mem_map->U0, replicate->U3, map_cons->V1, length_cons->W0, size_toArray->W1, mem_cons_of_mem->W2, getElem_of_mem->bv, mem_replicate->bw, cons_append->bx
open List.cons renaming injEq->bF
open Nat renaming eq_of_beq_eq_true->cc, add_sub_cancel_left->cm, lt_of_lt_of_le->cp, beq->cv, le_of_ble_eq_true->c2, le_trans->c3, zero_add->c4, add_zero->cF, mul_one->cH, le_refl->cL
open Option.some renaming injEq->dc
open Prod.mk renaming injEq->dl
section
namespace Eng
open Go Go.RowKit
variable [Env]
section
variable {C:Cx} {B:Bd} {F0:Nat->Prop} {w0:World} {F:Nat->Prop} {loc:Where} {st:St} {a:Act} {w:World}
theorem Conc.adoptG {dst:Option Nat} {d s b c:Nat} {es:List (List D)} {cs:Array Value} {t:TypeId} {w':World} {F' X:Nat->Prop} {dead:List (Nat×Obj)} {rv:V} {rx:Value} (h:Conc C B F0 w0 F loc st a w) (hd:qx st.objs d=true)
 (hdead:∀p∈dead,p.2= .dead/\p.1<st.objs.length/\nth .none st.objs p.1≠ .none) (hX:∀x,X x->¬F x/\∃p∈dead,∃c,loc p.1=some (x,c))
 (hbel:BelowX ⟨w.heap.size,X⟩ w w') (hF1:∀x,F x->F' x) (hF2:∀x,F' x->x<w'.heap.size/\(F x\/Own ⟨w.heap.size,X⟩ x)) (hb1:Own ⟨w.heap.size,X⟩ b) (hL:LentOk C.P w' F' b c cs t s es) (hv:∀(loc:Where) (objs:List Obj),nth .none objs d= .arr s es false->loc d=some (b,c)->CV loc objs w' F' rv rx/\Ref objs rv):
 Lr C B F0 w0 (st.put dst rv (dead++[(d,.arr s es false)])) (a.put dst rx) w':=by
 obtain⟨a0,hlt⟩:=qI hd;have a5:=hbel.size;have hnd:=λk=>z6 dead st.objs k λp hp=>⟨(hdead p hp).1,(hdead p hp).2.1⟩
 have hdd:¬∃p∈dead,p.1=d:=λ⟨p,hp,e⟩=>(hdead p hp).2.2 (by rw[e];exact a0)
 have hn:∀k,nth .none (upds st.objs (dead++[(d,.arr s es false)])) k=if k=d then .arr s es false else if(∃p∈dead,p.1=k)then .dead else nth .none st.objs k:=λk=>by
  rw[xE];show nth .none (upd (upds st.objs dead) d (.arr s es false)) k=_;by_cases hk:d=k
  .subst hk;rw[qb _ _ _ (by rw[jF];exact hlt),if_pos rfl]
  .rw[qa _ _ _ hk,if_neg (Ne.symm hk),hnd]
 have a2:∀x,Own ⟨w.heap.size,X⟩ x->Own B x:=λx hx=>by
  rcases hx with hx|hx
  .exact .inl (c3 h.hB hx)
  .obtain⟨_,p,_,c,hl⟩:=hX x hx;exact(h.fresh _ _ _ hl).1
 have a6:∀x,F x->w'.heap[x]? =w.heap[x]? :=λx hx=>hbel.block x (h.bound x hx) λhX'=>(hX x hX').1 hx
 open Classical in
 let loc':Where:=⟨loc.P,λk=>if k=d then some (b,c)else if(∃p∈dead,p.1=k)then none else loc k,λk=>if k=d then t else loc.ty k⟩
 have a3:∀k x y,loc' k=some (x,y)->(k=d/\x=b/\y=c)\/(k≠d/\(¬∃p∈dead,p.1=k)/\loc k=some (x,y)):=λk x y hl=>by
  simp only[loc']at hl;split at hl
  .simp only[dc,dl]at hl;exact .inl ⟨‹_›,hl.1.symm,hl.2.symm⟩
  .split at hl
   .simp at hl
   .exact .inr ⟨‹_›,‹_›,hl⟩
 have a1:∀k x y,(¬∃p∈dead,p.1=k)->loc k=some (x,y)->¬X x:=λk x y hk hl hx=>by obtain⟨_,p,hp,c',hl2⟩:=hX x hx;exact hk ⟨p,hp,h.inj _ _ _ _ _ hl2 hl⟩
 have a4:Le st.objs (upds st.objs (dead++[(d,.arr s es false)])) loc loc':=by
  refine⟨rfl,λk hk=>by
   have:k≠d:=λe=>by subst e;exact absurd a0 hk
   simp[loc',this],λk hk=>?_,λk o' hk hc hbx=>?_,λk s' es' fz' hk hc=>?_⟩
  .have:k≠d:=λe=>by subst e;exact absurd a0 hk
   rw[hn,if_neg this];split
   .simp
   .exact hk
  .have:k≠d:=λe=>by subst e;exact absurd a0 hk
   rw[hn,if_neg this]at hc;split at hc
   .rw[<-hc]at hbx;simp[xD]at hbx
   .rename_i e;exact⟨by rw[hc];exact hbx,by simp only[loc'];rw[if_neg this,if_neg e]⟩
  .have:k≠d:=λe=>by subst e;exact absurd a0 hk
   rw[hn,if_neg this]at hc;split at hc
   .simp at hc
   .rename_i e;exact⟨⟨_,_,hc,rfl⟩,by simp only[loc'];rw[if_neg this,if_neg e]⟩
 have hbw:BelowX B w w':=⟨hbel.os,hbel.tape,hbel.output,hbel.size,λj hj hjX=>hbel.block j (cp hj h.hB) λhx=>by
  rcases a2 j (.inr hx)with h1|h1
  .omega
  .exact hjX h1⟩
 refine⟨F',loc',h.step hF1 a6 a4 (h.below.trans hbw) (by have:=h.hB;omega) (λk=>?_) ?_ ?_ (λx hx=>(hF2 x hx).1) (λx hx=>?_) (hv _ _ (by rw[hn,if_pos rfl]) (by simp[loc'])).1 (hv loc' _ (by rw[hn,if_pos rfl]) (by simp[loc'])).2⟩
 .rw[hn];split
  .rename_i e;exact⟨hL.room,hL.s0,hL.lens,.inr ⟨b,c,cs,t,by simp[loc',e],hL.nF,hL.blk,hL.sz,hL.lc,hL.cd,by show loc.P.cellsOf t=s;rw[h.prog];exact hL.ct,by simp[loc',e]⟩⟩
  .rename_i e1;split
   .rename_i e2;show loc' k=none;simp only[loc'];rw[if_neg e1,if_pos e2]
   .rename_i e2;refine CO.le hF1 a6 a4 (by simp only[loc'];rw[if_neg e1,if_neg e2]) (by simp only[loc'];rw[if_neg e1]) (λx y hl=>?_) (h.objs k);have hf:=(h.fresh _ _ _ hl).2;have hx:=a1 _ _ _ e2 hl;refine⟨hbel.block x hf hx,λhnF hF'=>?_⟩;rcases(hF2 x hF').2 with h1|h1|h1
    .exact hnF h1
    .have h1:w.heap.size<=x:=h1;omega
    .exact hx h1
 .intro k k' x y y' q1 q2;rcases a3 _ _ _ q1 with⟨r1,r2,r3⟩|⟨r1,r2,r3⟩<;>rcases a3 _ _ _ q2 with⟨u1,u2,u3⟩|⟨u1,u2,u3⟩
  .rw[r1,u1]
  .subst r2;exfalso;rcases hb1 with hb1|hb1
   .have hb1:w.heap.size<=x:=hb1;have:=(h.fresh _ _ _ u3).2;omega
   .exact a1 _ _ _ u2 u3 hb1
  .subst u2;exfalso;rcases hb1 with hb1|hb1
   .have hb1:w.heap.size<=x:=hb1;have:=(h.fresh _ _ _ r3).2;omega
   .exact a1 _ _ _ r2 r3 hb1
  .exact h.inj _ _ _ _ _ r3 u3
 .intro k x y q1;rcases a3 _ _ _ q1 with⟨r1,r2,r3⟩|⟨r1,r2,r3⟩
  .subst r2;exact⟨a2 _ hb1,hL.lt⟩
  .have:=h.fresh _ _ _ r3;exact⟨this.1,by omega⟩
 .rcases(hF2 x hx).2 with h1|h1
  .exact h.fsub x h1
  .exact .inr (a2 x h1)
theorem Conc.goneD {dst:Option Nat} {w':World} {F' X:Nat->Prop} {dead:List (Nat×Obj)} {rv:V} {rx:Value} (h:Conc C B F0 w0 F loc st a w)
 (hdead:∀p∈dead,p.2= .dead/\p.1<st.objs.length/\nth .none st.objs p.1≠ .none) (hX:∀x,X x->¬F x/\∃p∈dead,∃c,loc p.1=some (x,c))
 (hbel:BelowX ⟨w.heap.size,X⟩ w w') (hF1:∀x,F x->F' x) (hF2:∀x,F' x->x<w'.heap.size/\(F x\/Own ⟨w.heap.size,X⟩ x))
 (hv:∀(loc:Where) (objs:List Obj),CV loc objs w' F' rv rx/\Ref objs rv):Lr C B F0 w0 (st.put dst rv dead) (a.put dst rx) w':=by
 have a4:=hbel.size;have hn:=λk=>z6 dead st.objs k λp hp=>⟨(hdead p hp).1,(hdead p hp).2.1⟩
 have a1:∀x,Own ⟨w.heap.size,X⟩ x->Own B x:=λx hx=>by
  rcases hx with hx|hx
  .exact .inl (c3 h.hB hx)
  .obtain⟨_,p,_,c,hl⟩:=hX x hx;exact(h.fresh _ _ _ hl).1
 have a5:∀x,F x->w'.heap[x]? =w.heap[x]? :=λx hx=>hbel.block x (h.bound x hx) λhX'=>(hX x hX').1 hx
 open Classical in
 let loc':Where:=⟨loc.P,λk=>if(∃p∈dead,p.1=k)then none else loc k,loc.ty⟩
 have a2:∀k x y,loc' k=some (x,y)->(¬∃p∈dead,p.1=k)/\loc k=some (x,y):=λk x y hl=>by
  simp only[loc']at hl;split at hl
  .simp at hl
  .exact⟨‹_›,hl⟩
 have a0:∀k x y,(¬∃p∈dead,p.1=k)->loc k=some (x,y)->¬X x:=λk x y hk hl hx=>by obtain⟨_,p,hp,c',hl2⟩:=hX x hx;exact hk ⟨p,hp,h.inj _ _ _ _ _ hl2 hl⟩
 have a3:Le st.objs (upds st.objs dead) loc loc':=by
  refine⟨rfl,λk hk=>rfl,λk hk=>?_,λk o' hk hc hbx=>?_,λk s' es' fz' hk hc=>?_⟩
  .rw[hn];split
   .simp
   .exact hk
  .rw[hn]at hc;split at hc
   .rw[<-hc]at hbx;simp[xD]at hbx
   .rename_i e;exact⟨by rw[hc];exact hbx,by simp only[loc'];rw[if_neg e]⟩
  .rw[hn]at hc;split at hc
   .simp at hc
   .rename_i e;exact⟨⟨_,_,hc,rfl⟩,by simp only[loc'];rw[if_neg e]⟩
 have hbw:BelowX B w w':=⟨hbel.os,hbel.tape,hbel.output,hbel.size,λj hj hjX=>hbel.block j (cp hj h.hB) λhx=>by
  rcases a1 j (.inr hx)with h1|h1
  .omega
  .exact hjX h1⟩
 refine⟨F',loc',h.step hF1 a5 a3 (h.below.trans hbw) (by have:=h.hB;omega) (λk=>?_) ?_ ?_ (λx hx=>(hF2 x hx).1) (λx hx=>?_) (hv _ _).1 (hv loc' _).2⟩
 .rw[hn];split
  .rename_i e2;show loc' k=none;simp only[loc'];rw[if_pos e2]
  .rename_i e2;refine CO.le hF1 a5 a3 (by simp only[loc'];rw[if_neg e2]) rfl (λx y hl=>?_) (h.objs k);have hf:=(h.fresh _ _ _ hl).2;have hx:=a0 _ _ _ e2 hl;refine⟨hbel.block x hf hx,λhnF hF'=>?_⟩;rcases(hF2 x hF').2 with h1|h1|h1
   .exact hnF h1
   .have h1:w.heap.size<=x:=h1;omega
   .exact hx h1
 .intro k k' x y y' q1 q2;exact h.inj _ _ _ _ _ (a2 _ _ _ q1).2 (a2 _ _ _ q2).2
 .intro k x y q1;have:=h.fresh _ _ _ (a2 _ _ _ q1).2;exact⟨this.1,by omega⟩
 .rcases(hF2 x hx).2 with h1|h1
  .exact h.fsub x h1
  .exact .inr (a1 x h1)
end
def WD (C:Cx) (f:Nat) (al:List A) (s:Nat) (es:List (List D)) (as:List A):Prop:=
 ∀(w:World) (F:Nat->Prop) (vs:List Value),(∀b,F b->b<w.heap.size)->Inv C F w->All2 (CA w F) al vs->
  Calls C.P f vs.toArray w λe w'=>BelowX ⟨w.heap.size,λ_=>False⟩ w w'/\
   ∃(F':Nat->Prop) (b c:Nat) (cs:Array Value) (t:TypeId) (ys:List Value),e= .returned (.tuple (.slice (some ⟨b,0,none⟩) es.length c::ys).toArray)/\(∀x,F x->F' x)/\(∀x,F' x->x<w'.heap.size/\(F x\/Own ⟨w.heap.size,λ_=>False⟩ x))/\
    Own ⟨w.heap.size,λ_=>False⟩ b/\LentOk C.P w' F' b c cs t s es/\All2 (CA w' F') as ys
def Fs (C:Cx) (st:St) (rs:List ResultVar):Option (Nat×List (List D)×List A):=
 match rs with
 | .tmp t::r::rr=>match nth .any st.tmps t with
  | .arr k=>match nth .none st.objs k with
   | .arr s es false=>match resD C st (r::rr)with
    |some as=>match z8 as&&(ZM es&&!as.isEmpty)with
     |true=>some (s,es,as)
     |false=>none
    |none=>none
   |_=>none
  |_=>none
 |_=>none
def TG (tab:Nat->List A->Option (List A)) (C:Cx) (lim n f:Nat) (al:List A):Option (Nat×List (List D)×List A):=
 match C.P.funcs[f]? with
 |none=>none
 |some fn=>match fn.body with
  |none=>none
  |some c=>match jb (wv tab C lim n) C lim c (ki fn.ntmps al)with
   |some (.normal,s)=>Fs C s fn.results.toList
   |some (.ret,s)=>Fs C s fn.results.toList
   |_=>none
def TH (chk:List A->Bool) (mk:List A->Nat×List (List D)×List A) (dst:Option Nat) (vs:List V) (ob:List Obj):R:=
 match dst with
 |none=> .fail
 |some d=>match qx ob d,j5 ob vs with
  |true,some (al,us)=> .cond (chk al=true) (.tpo d (mk al).2.2) (us++[(d,.arr (mk al).1 (mk al).2.1 false)])
  |_,_=> .fail
def WE (C:Cx) (f s:Nat) (es:List (List D)) (post res:List A):Prop:=
 ∀(w:World) (F:Nat->Prop) (vs2:List Value) (g c0:Nat) (cs0:Array Value) (t0:TypeId),(∀b,F b->b<w.heap.size)->Inv C F w->All2 (CA w F) post vs2->LentOk C.P w F g c0 cs0 t0 s es->
  Calls C.P f (.slice (some ⟨g,0,none⟩) es.length c0::vs2).toArray w λe w'=>BelowX ⟨w.heap.size,λb=>b=g⟩ w w'/\∃v,e= .returned v/\vO w' (QL F ⟨w.heap.size,λb=>b=g⟩ w') res v
def TI (tab:Nat->List A->Option (List A)) (C:Cx) (lim n f s:Nat) (es:List (List D)) (post:List A):Option (List A):=
 match C.P.funcs[f]? with
 |none=>none
 |some fn=>match fn.body with
  |none=>none
  |some c=>match jb (wv tab C lim n) C lim c (W9 fn.ntmps [] (some (s,es)) post)with
   |some (.normal,st)=>resD C st fn.results.toList
   |some (.ret,st)=>resD C st fn.results.toList
   |_=>none
def TJ (s:Nat) (chk:List (List D)->List A->Bool) (mk:List (List D)->List A->List A) (_:Option Nat) (vs:List V) (ob:List Obj):R:=
 match vs with
 | .arr k::r=>match nth .none ob k,j5 ob r with
  | .arr s0 es false,some (al,[])=>match cv s0 s&&ZM es with
   |true=> .cond (chk es al=true) (ZC (mk es al)) [(k,.dead)]
   |false=> .fail
  |_,_=> .fail
 |_=> .fail
section
variable {C:Cx}
theorem O5 {fn:Func} {w:World} {B:Bd} {F:Nat->Prop} {s':St} {a':Act} {w':World} {s:Nat} {es:List (List D)} {as:List A} (hh:Lr C B F w s' a' w') (has:Fs C s' fn.results.toList=some (s,es,as)):
 a'.defers=[]/\∃v,(results fn a'.tmps).run C.P w'= .ok v w'/\BelowX B w w'/\∃(F':Nat->Prop) (b c:Nat) (cs:Array Value) (t:TypeId) (ys:List Value),M2 v= .returned (.tuple (.slice (some ⟨b,0,none⟩) es.length c::ys).toArray)/\(∀x,F x->F' x)/\(∀x,F' x->x<w'.heap.size/\(F x\/Own B x))/\
  Own B b/\LentOk C.P w' F' b c cs t s es/\All2 (CA w' F') as ys:=by
 obtain⟨F',loc',h⟩:=hh;unfold Fs at has;split at has
 .rename_i t r rr hrs;split at has
  .rename_i k hk;split at has
   .rename_i s0 a0 a6;split at has
    .rename_i as0 hrd;split at has
     .rename_i a1;simp only[dc,dl]at has;obtain⟨rfl,rfl,rfl⟩:=has;simp only[Hy,I0,List.isEmpty_eq_false_iff]at a1;obtain⟨us,h1,h2⟩:=Qk h hrd;have h3:All2 (CA w' F') as0 us:=h2.mono_mem λr hr v hv=>XC hv (ja a1.1 r hr)
      have hx:=(wH h t).1;simp only[Act.eval]at hx;rw[hk]at hx;have a3:=h.objs k;rw[a6]at a3;obtain⟨a2,hs0,a4,a3⟩:=a3;rcases a3 with⟨_,h5⟩|⟨b',c',cs,t',h4,h5,h6,h7,h8,h9,h10,h11⟩
      .rw[h5]at a1;simp[ZM]at a1
      rcases hx _ _ _ a6 with⟨b,c,hl,hv⟩|⟨hl,_,_⟩
      .rw[h4]at hl;simp only[dc,dl]at hl;obtain⟨rfl,rfl⟩:=hl;have a5:=h.fresh _ _ _ h4;have hl2:0<us.length:=by rw[<-h2.length];exact List.length_pos_iff.2 a1.2.2
       refine⟨h.defers,.tuple (.slice (some ⟨b',0,none⟩) a0.length c'::us).toArray,?_,h.below,F',b',c',cs,t',us,rfl,h.fsup,λx hx=>⟨h.bound x hx,h.fsub x hx⟩,a5.1,⟨by simpa using h5,a5.2,h6,h7,h8,a2,hs0,a4,by rw[<-h.prog];exact h10,h9⟩,h3⟩;have h6:((fn.results.toList).mapM (N1 a'.tmps)).run C.P w'= .ok (.slice (some ⟨b',0,none⟩) a0.length c'::us) w':=by
        rw[hrs,List.mapM_cons];have h7:(N1 a'.tmps (.tmp t)).run C.P w'= .ok (.slice (some ⟨b',0,none⟩) a0.length c') w':=by show(pure (a'.tmps.getD t undef):Sem Value).run C.P w'=_;rw[hv];rfl
        simp only[Sem.run_bind,h7,Result.andThen,h1];rfl
       have h8:(results fn a'.tmps).run C.P w'= .ok (if h:(No (some ⟨b',0,none⟩) a0.length c'::us).toArray.size=1 then(No (some ⟨b',0,none⟩) a0.length c'::us).toArray[0]else .tuple (No (some ⟨b',0,none⟩) a0.length c'::us).toArray) w':=by
        unfold results;rw[Dd];simp only[Sem.run_bind,map_eq_pure_bind];have h5:∀g:ResultVar->Sem Value,g=N1 a'.tmps->(fn.results.toList.mapM g).run C.P w'= .ok (.slice (some ⟨b',0,none⟩) a0.length c'::us) w':=λg hg=>by rw[hg];exact h6
        rw[h5 _ (by funext r;cases r<;>rfl)];rfl
       rw[h8,dif_neg (by simp only[W1,W0];omega)]
      .rw[h4]at hl;simp at hl
     .simp at has
    .simp at has
   .simp at has
  .simp at has
 .simp at has
theorem O6 [EffOk C] {tab:Nat->List A->Option (List A)} {lim:Nat} (hm:C.P.follows .mixedOrders=true) (htab:∀f as rs,tab f as=some rs->Gives C f as rs) {n f s:Nat} {al:List A} {es:List (List D)} {as:List A}
 (h:TG tab C lim n f al=some (s,es,as)):WD C f al s es as:=by
 unfold TG at h;split at h
 .simp at h
 rename_i fn hf;split at h
 .simp at h
 rename_i c hc;have a3:∀(x:X) (s':St),(x= .normal\/x= .ret)->jb (wv tab C lim n) C lim c (ki fn.ntmps al)=some (x,s')->Fs C s' fn.results.toList=some (s,es,as)->WD C f al s es as:=by
  intro x s' hx hr a1 w F vs hb a0 h1;refine calls_of_wp hf hc (M1 (λe a' w' hp=>?_) (yc hm (λf as rs h=>z9 hm htab n f as rs h) lim c _ s' x _ w hr (vn hb a0 h1)));obtain⟨he,hh⟩:=hp;have a2:=O5 (fn:=fn) hh a1;rcases hx with rfl|rfl
  .have he:e= .normal:=he;subst he;exact a2
  .have he:e= .ret:=he;subst he;exact a2
 split at h
 .rename_i s' hr;exact a3 _ _ (.inl rfl) hr h
 .rename_i s' hr;exact a3 _ _ (.inr rfl) hr h
 .simp at h
theorem O7 {fn:Func} {w:World} {B:Bd} {F:Nat->Prop} {s':St} {a':Act} {w':World} {res:List A} (hh:Lr C B F w s' a' w') (has:resD C s' fn.results.toList=some res):
 a'.defers=[]/\∃v,(results fn a'.tmps).run C.P w'= .ok v w'/\BelowX B w w'/\∃u,M2 v= .returned u/\vO w' (QL F B w') res u:=by
 obtain⟨F',loc',a0⟩:=hh;obtain⟨us,h1,h2⟩:=Qk a0 has;refine⟨a0.defers,if h:us.toArray.size=1 then us.toArray[0]else .tuple us.toArray,?_,a0.below,_,rfl,?_⟩
 .unfold results;rw[Dd];simp only[Sem.run_bind,map_eq_pure_bind];have h5:∀g:ResultVar->Sem Value,g=N1 a'.tmps->(fn.results.toList.mapM g).run C.P w'= .ok us w':=λg hg=>by rw[hg];exact h1
  rw[h5 _ (by funext r;cases r<;>rfl)];rfl
 .match res,us,h2 with
  |[a],[u],h2=>exact h2.1
  |[],[],h2=>exact⟨#[],rfl,trivial⟩
  |a::b::r,u::v::s,h2=>exact⟨(u::v::s).toArray,by simp,h2⟩
theorem O8 [EffOk C] {tab:Nat->List A->Option (List A)} {lim:Nat} (hm:C.P.follows .mixedOrders=true) (htab:∀f as rs,tab f as=some rs->Gives C f as rs) {n f s:Nat} {es:List (List D)} {post res:List A}
 (h:TI tab C lim n f s es post=some res):WE C f s es post res:=by
 unfold TI at h;split at h
 .simp at h
 rename_i fn hf;split at h
 .simp at h
 rename_i c hc;have a3:∀(x:X) (s':St),(x= .normal\/x= .ret)->jb (wv tab C lim n) C lim c (W9 fn.ntmps [] (some (s,es)) post)=some (x,s')->resD C s' fn.results.toList=some res->WE C f s es post res:=by
  intro x s' hx hr a1 w F vs2 g c0 cs0 t0 hb a0 h2 hL;refine calls_of_wp hf hc (M1 (λe a' w' hp=>?_) (yc hm (λf as rs h=>z9 hm htab n f as rs h) lim c _ s' x _ w hr (WA (vs1:=[]) hb a0 trivial h2 (λs0 es0 he=>by simp only[dc,dl]at he;obtain⟨rfl,rfl⟩:=he;exact hL))));obtain⟨he,hh⟩:=hp;have a2:=O7 (fn:=fn) hh a1;rcases hx with rfl|rfl
  .have he:e= .normal:=he;subst he;exact a2
  .have he:e= .ret:=he;subst he;exact a2
 split at h
 .rename_i s' hr;exact a3 _ _ (.inl rfl) hr h
 .rename_i s' hr;exact a3 _ _ (.inr rfl) hr h
 .simp at h
theorem O9 {f:Nat} {fn:Func} {chk:List A->Bool} {mk:List A->Nat×List (List D)×List A} (hf:C.P.funcs[f]? =some fn) (hb:fn.body≠none) (hn:fn.name≠ "runtime.NumGoroutine") (hmk:∀al,chk al=true->WD C f al (mk al).1 (mk al).2.1 (mk al).2.2):EffAt C f (TH chk mk):=by
 refine⟨λ{B F0 w0 F loc st a w dst args ts ty pos after g} hc=>?_,λdst vs ob ob' hh hd=>?_,λdst vs ob hv _=>?_⟩
 .unfold TH;split
  .trivial
  .rename_i d;split
   .rename_i al us hd a7;obtain⟨a3,a4⟩:=jZ hc a7 (js hc args.toList);obtain⟨F',a6,hF',hb'⟩:=hc.freezes a3 st.dirty;have a2:=a4 F' hF' hb';intro hck next Q hnx
    have hG:=hmk al hck;have a0:=hG w F' (args.toList.map a.eval) a6.bound a6.inv a2;have a1:(args.toList.map a.eval).toArray=args.map a.eval:=by apply Bx;simp
    rw[a1]at a0;refine zg hf hb hn a0 λe w' he=>?_
    obtain⟨a5,F2,b,c,cs,t,ys,rfl,h1,h2,h3,h4,h5⟩:=he;refine⟨_,rfl,hnx _ _ ?_⟩;have h6:=a6.adoptG (dst:=some d) (d:=d) (dead:=[]) (rv:= .tpo d (mk al).2.2) (rx:= .tuple (.slice (some ⟨b,0,none⟩) (mk al).2.1.length c::ys).toArray) (zz a3 hd) (λp hp=>by simp at hp) (λx hx=>hx.elim) a5 h1 h2 h3 h4
     (λloc objs q1 q2=>⟨⟨_,_,rfl,λs' es' fz' hc=>by
      rw[q1]at hc;simp only[Obj.arr.injEq]at hc;obtain⟨rfl,rfl,rfl⟩:=hc;exact⟨b,c,q2,rfl⟩,h5⟩,by
      show nth .none objs d≠ .none;rw[q1];simp⟩)
    refine xc h6 rfl ?_;show upds (upds st.objs us) ([]++[(d,.arr (mk al).1 (mk al).2.1 false)])=upds st.objs (us++[(d,.arr (mk al).1 (mk al).2.1 false)]);rw[xE us];rfl
   .trivial
 .unfold TH;cases dst with
  |none=>rfl
  |some d=>
   have h1:j5 ob vs=j5 ob' vs:=z7 (c:=2) λv hv k hk=> .inl (hh k (by
    rw[qq];exact⟨k,Pl.2 ⟨v,hv,hk⟩,.inl rfl⟩))
   simp only[h1];rw[hd d (.inl rfl)]
 .unfold TH;split
  .trivial
  .rename_i d;split
   .rename_i al us hd a7;have a3:=kb a7;refine⟨λp hp=>?_,λk hk=>?_⟩
    .rcases Tk.1 hp with hp|hp
     .obtain⟨⟨v,hv1,hv2⟩,s',es',fz,h1,h2⟩:=a3 p hp;refine⟨.inr ⟨?_,by rw[h1];simp⟩,by rw[h2];simp,λu hu=>by rw[h2]at hu;simp[qQ]at hu⟩;rw[qq];exact⟨p.1,Pl.2 ⟨v,hv1,hv2⟩,.inl rfl⟩
     .simp only[P1]at hp;subst hp;exact⟨.inl ⟨.inl rfl,hd⟩,by simp,λu hu=>by simp[qQ]at hu⟩
    .simp only[qh,P1]at hk;subst hk;exact .inr ⟨hd,_,List.mem_append_right _ (P1.2 rfl)⟩
   .trivial
theorem OA {f s:Nat} {fn:Func} {chk:List (List D)->List A->Bool} {mk:List (List D)->List A->List A} (hf:C.P.funcs[f]? =some fn) (hb:fn.body≠none) (hn:fn.name≠ "runtime.NumGoroutine")
 (hmk:∀es al,chk es al=true->WE C f s es al (mk es al)):EffAt C f (TJ s chk mk):=by
 refine⟨λ{B F0 w0 F loc st a w dst args ts ty pos after g} hc=>?_,λdst vs ob ob' hh hd=>?_,λdst vs ob hv _=>?_⟩
 .unfold TJ;split
  .rename_i k r a4;split
   .rename_i s0 es al hk ad;split
    .rename_i a5;simp only[Hy]at a5;obtain rfl:=cc a5.1;intro hck next Q hnx
     have hG:=hmk es al hck;obtain⟨x0,xs,ag⟩:∃x0 xs,args.toList=x0::xs:=by
      cases h:args.toList with
      |nil=>rw[h]at a4;simp at a4
      |cons x0 xs=>exact⟨x0,xs,rfl⟩
     rw[ag]at a4;simp only[V1,bF]at a4;obtain⟨hx0,rfl⟩:=a4;obtain⟨hfz,a6⟩:=jZ hc ad (js hc xs);have a2:=a6 F (λ_ h=>h) (λp hp=>by simp at hp);obtain⟨gb,c0,cs0,t0,q1,q2,hL⟩:=Bw hc hx0 hk (λe=>by rw[e]at a5;simp[ZM]at a5);have a0:=hG w F (xs.map a.eval) gb c0 cs0 t0 hc.bound hc.inv a2 hL;have a1:(No (some ⟨gb,0,none⟩) es.length c0::xs.map a.eval).toArray=args.map a.eval:=by apply Bx;rw[Aw,ag];simp[q2]
     rw[a1]at a0;refine zg hf hb hn a0 λe w' he=>?_
     obtain⟨a3,v,rfl,a7⟩:=he;refine⟨_,rfl,hnx _ _ ?_⟩;exact hc.goneD (dead:=[(k,.dead)]) (rv:=ZC (mk es al)) (λp hp=>by
      simp only[P1]at hp;subst hp;exact⟨rfl,qW (by rw[hk];simp),by rw[hk];simp⟩) (λx hx=>by
      have hx:x=gb:=hx;rw[hx];exact⟨hL.nF,(k,.dead),by simp,c0,q1⟩) a3 (λx hx=> .inl hx) (λx hx=>by
      rcases hx with hx|hx
      .exact⟨cp (hc.bound x hx) a3.size,.inl hx⟩
      .exact⟨hx.2,.inr hx.1⟩) (λloc objs=>ZZ a7)
    .trivial
   .trivial
  .trivial
 .unfold TJ;cases vs with
  |nil=>rfl
  |cons v r=>
   cases v with
   |arr k=>
    have h0:nth .none ob k=nth .none ob' k:=hh k (by
     rw[qq];exact⟨k,Pl.2 ⟨.arr k,by simp,by simp[qh]⟩,.inl rfl⟩)
    have h1:j5 ob r=j5 ob' r:=z7 (c:=2) λv hv k hk=> .inl (hh k (by
     rw[qq];exact⟨k,Pl.2 ⟨v,by simp[hv],hk⟩,.inl rfl⟩))
    simp only[h0,h1]
   |_=>rfl
 .unfold TJ;split
  .rename_i k r;split
   .rename_i s0 es al hk ad;split
    .refine⟨λp hp=>?_,λj hj=>by rw[km]at hj;simp at hj⟩;simp only[P1]at hp;subst hp;refine⟨.inr ⟨?_,by rw[hk];simp⟩,by simp,λu hu=>by simp[qQ]at hu⟩;rw[qq];exact⟨k,Pl.2 ⟨.arr k,by simp,by simp[qh]⟩,.inl rfl⟩
    .trivial
   .trivial
  .trivial
end
theorem TK {C C':Cx} (hP:C'.P=C.P) (hG:C'.G=C.G) {f s:Nat} {al as:List A} {es:List (List D)} (h:WD C f al s es as):WD C' f al s es as:=by
 intro w F vs hb hi h2;rw[hP];exact h w F vs hb (QD hG.symm hi) h2
theorem TM {C C':Cx} (hP:C'.P=C.P) (hG:C'.G=C.G) {f s:Nat} {es:List (List D)} {post res:List A} (h:WE C f s es post res):WE C' f s es post res:=by
 intro w F vs2 g c0 cs0 t0 hb hi h2 hl;rw[hP]at hl ⊢;exact h w F vs2 g c0 cs0 t0 hb (QD hG.symm hi) h2 hl
end Eng
end
section
namespace Eng
open Go Go.RowKit
variable [Env]
def Ft:V->Bool
 | .arrAt .. =>true
 | .boxAt .. =>true
 | .pinB .. =>true
 |_=>false
section
variable {g c t:Nat} {ps:List (Nat×Nat×Nat×Nat)}
def RM (ps:List (Nat×Nat×Nat×Nat)):List (Nat×Nat×Nat×Nat):=ps.map λp=>(p.1,0,0,0)
def S0 (g c t:Nat) (ps:List (Nat×Nat×Nat×Nat)) (a b:V):Prop:=(a=b/\Ft a=false)\/∃k,(a= .arrAt k 0 0 0/\b= .arrAt k g c t)\/(a= .boxAt k 0/\b= .boxAt k g)\/(a= .pinB k 0 (RM ps)/\b= .pinB k g ps)
structure SmE (g c t:Nat) (ps:List (Nat×Nat×Nat×Nat)) (st st':St):Prop where
 tm:∃a b r,st.tmps=a::r/\st'.tmps=b::r/\S0 g c t ps a b
 ob:st'.objs=st.objs
 dt:st'.dirty=st.dirty
omit [Env] in
theorem SmE.nth {st st':St} (h:SmE g c t ps st st') (i:Nat):nth .any st'.tmps i=nth .any st.tmps i\/S0 g c t ps (nth .any st.tmps i) (nth .any st'.tmps i):=by
 obtain⟨a,b,r,e1,e2,h0⟩:=h.tm;rw[e1,e2];cases i with
 |zero=>exact .inr h0
 |succ i=>exact .inl rfl
omit [Env] in
theorem S0.un {a b:V} (h:S0 g c t ps a b):un b=un a:=by
 rcases h with⟨rfl,_⟩|⟨k,⟨rfl,rfl⟩|⟨rfl,rfl⟩|⟨rfl,rfl⟩⟩<;>rfl
omit [Env] in
theorem SmE.ev {st st':St} (h:SmE g c t ps st st'):ev st'=ev st:=by
 funext x;cases x with
 |tmp i=>
  show Eng.un _=Eng.un _;rcases h.nth i with e|e
  .rw[e]
  .exact e.un
 |_=>rfl
omit [Env] in
theorem SmE.step {st st':St} {K:Nat->List A->Option (List A)} {C:Cx} {ops:Array Oper} {o:Oper} (h:SmE g c t ps st st'):JY K C ops o st'=JY K C ops o st:=by
 unfold JY;rw[h.ev,h.ob];split
 .rfl
 .split
  .rfl
  .rename_i i _;rcases h.nth i with e|⟨e,_⟩|⟨k,⟨e1,e2⟩|⟨e1,e2⟩|⟨e1,e2⟩⟩
   .rw[e]
   .rw[e]
   .rw[e1,e2]
   .rw[e1,e2]
   .rw[e1,e2]
omit [Env] in
theorem SmE.put {st st':St} (h:SmE g c t ps st st') {d:Option Nat} (hd:d≠some 0) (v:V) (up:List (Nat×Obj)):SmE g c t ps (st.put d v up) (st'.put d v up):=by
 obtain⟨a,b,r,e1,e2,h0⟩:=h.tm;refine⟨?_,?_,?_⟩
 .unfold Ls;simp only;cases d with
  |none=>exact⟨a,b,r,e1,e2,h0⟩
  |some i=>
   cases i with
   |zero=>exact absurd rfl hd
   |succ i=>exact⟨a,b,upd r i v,by rw[e1];rfl,by rw[e2];rfl,h0⟩
 .unfold Ls;simp only;rw[h.ob]
 .unfold Ls;simp only;rw[h.dt]
def OS {α:Type} (g c t:Nat) (ps:List (Nat×Nat×Nat×Nat)):Option (α×St)->Option (α×St)->Prop
 |none,none=>True
 |some (x,s),some (y,s')=>x=y/\SmE g c t ps s s'
 |_,_=>False
def OS1 (g c t:Nat) (ps:List (Nat×Nat×Nat×Nat)):Option St->Option St->Prop
 |none,none=>True
 |some s,some s'=>SmE g c t ps s s'
 |_,_=>False
omit [Env] in
theorem VT {K:Nat->List A->Option (List A)} {C:Cx} {ops:Array Oper}:∀{l:List Oper} {st st':St},(∀o∈l,o.dst≠some 0)->SmE g c t ps st st'->OS1 g c t ps (N3 K C ops l st) (N3 K C ops l st')
 |[],_,_,_,h=>h
 |o::l,st,st',hl,h=>by
  simp only[N3];rw[h.step];cases JY K C ops o st with
  |none=>trivial
  |some x=>exact VT (λo ho=>hl o (by simp[ho])) (h.put (hl o (by simp)) x.1 x.2)
omit [Env] in
theorem YU {K:Nat->List A->Option (List A)} {C:Cx} {ops:Array Oper}:∀{l:List Oper} {st st':St} {rs:List Rec},(∀o∈l,o.dst≠some 0)->SmE g c t ps st st'->
 (ZJ K C ops l st rs=none/\ZJ K C ops l st' rs=none)\/∃s s' r,ZJ K C ops l st rs=some (s,r)/\ZJ K C ops l st' rs=some (s',r)/\SmE g c t ps s s'
 |[],st,st',rs,_,h=> .inr ⟨st,st',rs,rfl,rfl,h⟩
 |o::l,st,st',rs,hl,h=>by
  simp only[ZJ];rw[h.step,h.ev,h.ob];cases JY K C ops o st with
  |none=>exact .inl ⟨rfl,rfl⟩
  |some x=>exact YU (λo ho=>hl o (by simp[ho])) (h.put (hl o (by simp)) x.1 x.2)
omit [Env] in
theorem By {K:Nat->List A->Option (List A)} {C:Cx} {ops:Array Oper} {d:Bool} {st st':St} (hl:∀o∈ops.toList,o.dst≠some 0) (h:SmE g c t ps st st'):OS1 g c t ps (RL K C ops d st) (RL K C ops d st'):=by
 unfold RL;cases d with
 |false=>exact VT hl h
 |true=>
  simp only;cases ve C ops.toList with
  |true=>exact VT hl h
  |false=>
   simp only;rcases YU (K:=K) (C:=C) (ops:=ops) (rs:=[]) hl h with⟨e1,e2⟩|⟨s,s',r,e1,e2,h2⟩
   .rw[e1,e2];trivial
   .rw[e1,e2];simp only;cases wB C ops.toList r with
    |true=>exact h2
    |false=>trivial
omit [Env] in
theorem SmE.map {st st':St} {f:V->V} {ob:List Obj} {dt:List Nat} (h:SmE g c t ps st st') (hf:∀a b,S0 g c t ps a b->S0 g c t ps (f a) (f b)):SmE g c t ps ⟨st.tmps.map f,ob,dt⟩ ⟨st'.tmps.map f,ob,dt⟩:=by
 obtain⟨a,b,r,e1,e2,h0⟩:=h.tm;exact⟨⟨f a,f b,r.map f,by rw[e1];rfl,by rw[e2];rfl,hf _ _ h0⟩,rfl,rfl⟩
omit [Env] in
theorem S0.ren {d m:Nat} {a b:V} (h:S0 g c t ps a b):S0 g c t ps (N2 d m a) (N2 d m b):=by
 rcases h with⟨rfl,h⟩|⟨k,⟨rfl,rfl⟩|⟨rfl,rfl⟩|⟨rfl,rfl⟩⟩
 .refine .inl ⟨rfl,?_⟩;cases a<;>first|rfl|simp[Ft]at h
 .exact .inl ⟨rfl,rfl⟩
 .exact .inr ⟨_,.inr (.inl ⟨rfl,rfl⟩)⟩
 .exact .inl ⟨rfl,rfl⟩
omit [Env] in
theorem S0.frz {k:Nat} {ds:List D} {a b:V} (h:S0 g c t ps a b):S0 g c t ps (JX k ds a) (JX k ds b):=by
 rcases h with⟨rfl,h⟩|⟨j,⟨rfl,rfl⟩|⟨rfl,rfl⟩|⟨rfl,rfl⟩⟩
 .refine .inl ⟨rfl,?_⟩;cases a<;>first|(simp[Ft]at h;done)|skip
  all_goals first|rfl|(simp only[JX];split<;>rfl)
 .exact .inr ⟨_,.inl ⟨rfl,rfl⟩⟩
 .simp only[JX];cases cv j k with
  |true=>exact .inl ⟨rfl,rfl⟩
  |false=>exact .inr ⟨_,.inr (.inl ⟨rfl,rfl⟩)⟩
 .exact .inl ⟨rfl,rfl⟩
omit [Env] in
theorem SmE.evict1 {d:Nat} {st st':St} (h:SmE g c t ps st st'):SmE g c t ps (evict1 d st) (evict1 d st'):=by
 unfold I3;rw[h.ob];split
 .exact h
 .split
  .rw[jh,jh];exact h.map λ_ _ h=>h.ren
  .exact h
omit [Env] in
theorem SmE.evict:∀{l:List Nat} {st st':St},SmE g c t ps st st'->SmE g c t ps (evict l st) (evict l st')
 |[],_,_,h=>h
 |d::l,st,st',h=>SmE.evict (l:=l) (st:=I3 d st) (st':=I3 d st') (SmE.evict1 h)
omit [Env] in
theorem SmE.frz1 {k:Nat} {st st':St} (h:SmE g c t ps st st'):SmE g c t ps (frz1 k st) (frz1 k st'):=by
 unfold Eng.frz1;rw[h.ob];split
 .split
  .rw[ji,ji];exact h.map λ_ _ h=>h.frz
  .exact h
 .exact h
omit [Env] in
theorem SmE.settle1 {k i:Nat} {st st':St} (h:SmE g c t ps st st'):SmE g c t ps (settle1 k i st) (settle1 k i st'):=by
 unfold I2;rw[h.ob,h.dt];split
 .split
  .split
   .exact⟨h.tm,rfl,rfl⟩
   .exact h
  .exact h
 .exact h
omit [Env] in
theorem SmE.settleN {k:Nat}:∀{n:Nat} {st st':St},SmE g c t ps st st'->SmE g c t ps (settleN k n st) (settleN k n st')
 |0,_,_,h=>h
 |n+1,st,st',h=>SmE.settleN (n:=n) (st:=I2 k n st) (st':=I2 k n st') h.settle1
omit [Env] in
theorem SmE.settle {k:Nat} {st st':St} (h:SmE g c t ps st st'):SmE g c t ps (settle k st) (settle k st'):=by
 unfold Eng.settle;rw[h.ob];split
 .split
  .exact h.settleN
  .exact h
 .exact h
omit [Env] in
theorem SmE.settleM:∀{l:List Operand} {st st':St},SmE g c t ps st st'->SmE g c t ps (settleM l st) (settleM l st')
 |[],_,_,h=>h
 |x::l,st,st',h=>by
  simp only[Eng.settleM];rw[h.ev];split
  .exact SmE.settleM h.settle.frz1
  .exact SmE.settleM h
omit [Env] in
theorem SmE.settleO {C:Cx}:∀{l:List Oper} {st st':St},SmE g c t ps st st'->SmE g c t ps (settleO C l st) (settleO C l st')
 |[],_,_,h=>h
 |o::l,st,st',h=>by
  simp only[I1];split
  .split
   .rw[h.ev];split
    .exact SmE.settleO h.settle
    .exact SmE.settleO h
   .exact SmE.settleO h
  .exact SmE.settleO h.settleM
  .exact SmE.settleO h
omit [Env] in
theorem YV {o:Oper}:∀{l:List Oper},o∈l->∀i,o.dst=some i->i∈Hk l
 |p::l,h,i,hi=>by
  simp only[Hk];rcases Sz.1 h with rfl|h
  .rw[hi];simp
  .have:=YV h i hi;split
   .exact W2 _ this
   .exact this
omit [Env] in
theorem kR {K:Nat->List A->Option (List A)} {C:Cx}:∀{n:Nat} {b:Code} {st st':St},0∉Z8 b->SmE g c t ps st st'->OS g c t ps (jb K C n b st) (jb K C n b st')
 |0,_,_,_,_,_=>trivial
 |n+1,b,st,st',hb,h=>by
  cases b with
  |skip=>exact⟨rfl,h⟩
  |region id ops d=>
   simp only[jb];have:=By (K:=K) (C:=C) (ops:=ops) (d:=d) (λo ho e=>hb (YV ho 0 e)) (SmE.settleO (C:=C) (l:=ops.toList) (SmE.evict (l:=H9 C ops.toList) h));revert this;cases RL K C ops d (I1 C ops.toList (J3 (H9 C ops.toList) st))<;>cases RL K C ops d (I1 C ops.toList (J3 (H9 C ops.toList) st'))<;>intro this<;>first|trivial|exact this.elim|skip
   have this:SmE g c t ps _ _:=this;exact⟨rfl,this.tm,this.ob,rfl⟩
  |seq a b=>
   simp only[Z8,Tk,not_or]at hb;simp only[jb];have:=kR (K:=K) (C:=C) (n:=n) hb.1 h;revert this;cases jb K C n a st with
   |none=>cases jb K C n a st' with
    |none=>exact λh=>h
    |some x=>exact λh=>h.elim
   |some x=>cases jb K C n a st' with
    |none=>exact λh=>h.elim
    |some y=>
     obtain⟨x,s⟩:=x;obtain⟨y,s'⟩:=y;rintro⟨rfl,h2⟩;cases x with
     |normal=>exact kR hb.2 h2
     |_=>exact⟨rfl,h2⟩
  |cond x a b=>
   simp only[Z8,Tk,not_or]at hb;simp only[jb];rw[h.ev];split
   .exact kR hb.1 h
   .exact kR hb.2 h
   .trivial
  |block id a=>
   simp only[Z8]at hb;simp only[jb];have:=kR (K:=K) (C:=C) (n:=n) hb h;revert this;cases jb K C n a st with
   |none=>cases jb K C n a st' with
    |none=>exact λh=>h
    |some x=>exact λh=>h.elim
   |some x=>cases jb K C n a st' with
    |none=>exact λh=>h.elim
    |some y=>
     obtain⟨x,s⟩:=x;obtain⟨y,s'⟩:=y;rintro⟨rfl,h2⟩;cases x with
     |exit i=>simp only;split<;>exact⟨rfl,h2⟩
     |_=>exact⟨rfl,h2⟩
  |exit id=>exact⟨rfl,h⟩
  |ret=>exact⟨rfl,h⟩
  |loop a=>
   have hb1:0∉Z8 a:=by simpa only[Z8]using hb
   simp only[jb];have:=kR (K:=K) (C:=C) (n:=n) hb1 h;revert this;cases jb K C n a st with
   |none=>cases jb K C n a st' with
    |none=>exact λh=>h
    |some x=>exact λh=>h.elim
   |some x=>cases jb K C n a st' with
    |none=>exact λh=>h.elim
    |some y=>
     obtain⟨x,s⟩:=x;obtain⟨y,s'⟩:=y;rintro⟨rfl,h2⟩;cases x with
     |normal=>exact kR hb h2
     |_=>exact⟨rfl,h2⟩
  |_=>trivial
omit [Env] in
theorem SmE.resD {C:Cx} {st st':St} (h:SmE g c t ps st st'):∀{rs:List ResultVar},resD C st' rs=resD C st rs
 |[]=>rfl
 | .tmp i::r=>by
  simp only[J4];rw[SmE.resD h,h.ob];rcases h.nth i with e|⟨e,_⟩|⟨k,⟨e1,e2⟩|⟨e1,e2⟩|⟨e1,e2⟩⟩
  .rw[e]
  .rw[e]
  .rw[e1,e2];rfl
  .rw[e1,e2];rfl
  .rw[e1,e2];rfl
 | .cell i t'::r=>by
  simp only[J4];rw[SmE.resD h,h.ob];rcases h.nth i with e|⟨e,_⟩|⟨k,⟨e1,e2⟩|⟨e1,e2⟩|⟨e1,e2⟩⟩
  .rw[e]
  .rw[e]
  .rw[e1,e2]
  .rw[e1,e2]
  .rw[e1,e2]
end
omit [Env] in
theorem Kd {n:Nat} {l:List Nat} (h:k9 n l=false):n∉l:=λe=>by rw[xk.2 e]at h;cases h
def HB (C:Cx) (f:Nat):List Nat:=
 match C.P.funcs[f]? with
 |some fn=>match fn.body with
  |some b=>Z8 b
  |none=>[]
 |none=>[]
def okI (C:Cx) (f s:Nat) (es:List (List D)) (o:Option (List A×List (List D)×Nat×Nat×Nat×Nat)):Bool:=
 match o with
 |some (as,es',s',0,0,0)=>z8 as&&(cv es'.length es.length&&(cv s' s&&(!k9 0 (HB C f))))
 |_=>false
omit [Env] in
theorem TN {C:Cx} {fn:Func} {st st':St} {g c t s:Nat} {as:List A} {es:List (List D)} (h:SmE g c t [] st st') (he:Bv C fn st=some (as,es,s,0,0,0)):Bv C fn st'=some (as,es,s,g,c,t):=by
 unfold Bv at he ⊢;rw[h.resD,h.ob];split at he
 .simp at he
 rename_i as' has;obtain⟨a,b,r,e1,e2,h0⟩:=h.tm;have n1:nth .any st.tmps 0=a:=by rw[e1];rfl
 have n2:nth .any st'.tmps 0=b:=by rw[e2];rfl
 rw[n1]at he;rw[n2];rcases h0 with⟨rfl,ha⟩|⟨k,⟨rfl,rfl⟩|⟨rfl,rfl⟩|⟨rfl,rfl⟩⟩
 .split at he
  .simp[Ft]at ha
  .simp at he
 .simp only at he ⊢;split at he
  .rename_i q1 q2;simp only[dc,dl]at he;obtain⟨rfl,rfl,rfl,_⟩:=he;rfl
  .simp at he
 .simp at he
 .simp at he
omit [Env] in
theorem TO {tab:Nat->List A->Option (List A)} {C:Cx} {lim n f s s':Nat} {es es':List (List D)} {post as:List A} (hm:k9 0 (HB C f)=false) (h:WC tab C lim n f s es post 0 0 0=some (as,es',s',0,0,0)) (g c t:Nat):WC tab C lim n f s es post g c t=some (as,es',s',g,c,t):=by
 unfold WC at h ⊢;unfold HB at hm;split at h
 .simp at h
 rename_i fn hf;rw[hf]at hm;simp only at hm;split at h
 .simp at h
 rename_i b hbd;rw[hbd]at hm;simp only at hm;have h0:SmE g c t [] (ZL fn.ntmps s es post 0 0 0) (ZL fn.ntmps s es post g c t):=⟨⟨_,_,_,rfl,rfl,.inr ⟨_,.inl ⟨rfl,rfl⟩⟩⟩,rfl,rfl⟩;have:=kR (K:=wv tab C lim n) (C:=C) (n:=lim) (b:=b) (Kd hm) h0;revert this h;cases jb (wv tab C lim n) C lim b (ZL fn.ntmps s es post 0 0 0)with
 |none=>intro h;simp at h
 |some x=>
  obtain⟨x,s1⟩:=x;cases jb (wv tab C lim n) C lim b (ZL fn.ntmps s es post g c t)with
  |none=>intro _ h;exact h.elim
  |some y=>
   obtain⟨y,s2⟩:=y;intro h;rintro⟨rfl,h2⟩;cases x with
   |normal=>exact TN h2 h
   |ret=>exact TN h2 h
   |exit i=>simp at h
noncomputable def xC (tab:Nat->List A->Option (List A)) (C:Cx) (f s:Nat):Option Nat->List V->List Obj->R:=
 VR s (λes al=>match es with|[]=>false|_=>okI C f s es (WC tab C 1000 40 f s es al 0 0 0)) (λes al=>match WC tab C 1000 40 f s es al 0 0 0 with|some x=>x.2.1|none=>[])
  (λes al=>match WC tab C 1000 40 f s es al 0 0 0 with|some x=>x.1|none=>[])
theorem qy {C C':Cx} [EffOk C] {tab:Nat->List A->Option (List A)} (hm:C.P.follows .mixedOrders=true) (htab:∀f as rs,tab f as=some rs->Gives C f as rs) (hP:C'.P=C.P) (hG:C'.G=C.G) {f s:Nat} {fn:Func} (hf:C'.P.funcs[f]? =some fn) (hb:fn.body≠none) (hn:fn.name≠ "runtime.NumGoroutine"):EffAt C' f (xC tab C f s):=by
 refine YT hf hb hn λes al hc=>?_
 cases hes:es with
 |nil=>rw[hes]at hc;cases hc
 |cons e r=>
  rw[hes]at hc;simp only at hc;refine⟨by simp,TF hP hG ?_⟩;unfold okI at hc;split at hc
  .rename_i as es' s' hr;simp only[Hy,I0]at hc;obtain⟨h1,h2,h3,h4⟩:=hc;obtain rfl:=cc h3;rw[hr];exact O4 hm htab h1 h2 λg c t=>TO h4 hr g c t
  .cases hc
end Eng
end
section
namespace Eng
open Go Go.RowKit
variable [Env]
structure LentP (w:World) (F:Nat->Prop) (g:Nat) (cs:Array Value) (ds:List D) (t:TypeId):Prop where
 nF:¬F g
 lt:g<w.heap.size
 blk:w.heap[g]? =some (.cells cs t (0,0))
 cd:All2 (CD w F) ds cs.toList
def aK (w:World) (F:Nat->Prop) (g:Nat) (res:List A) (ds':List D) (v:Value) (w':World):Prop:=
 BelowX ⟨w.heap.size,λb=>b=g⟩ w w'/\∃(F':Nat->Prop) (cs:Array Value) (t:TypeId),(∀x,F x->F' x)/\(∀x,F' x->x<w'.heap.size/\(F x\/Own ⟨w.heap.size,λb=>b=g⟩ x))/\vO w' F' res v/\LentP w' F' g cs ds' t
def WG (C:Cx) (f:Nat) (ds:List D) (post res:List A) (ds':List D):Prop:=
 ∀(w:World) (F:Nat->Prop) (vs2:List Value) (g:Nat) (cs:Array Value) (t:TypeId),(∀b,F b->b<w.heap.size)->Inv C F w->All2 (CA w F) post vs2->LentP w F g cs ds t->
  Calls C.P f (.pointer (some ⟨g,0,none⟩)::vs2).toArray w λe w'=>∃v,e= .returned v/\aK w F g res ds' v w'
theorem TP {C C':Cx} (hP:C'.P=C.P) (hG:C'.G=C.G) {f:Nat} {ds ds':List D} {post res:List A} (h:WG C f ds post res ds'):WG C' f ds post res ds':=by
 intro w F vs2 g cs t hb hi h2 hl;rw[hP];exact h w F vs2 g cs t hb (QD hG.symm hi) h2 hl
def HC (n:Nat) (ds:List D) (post:List A) (g:Nat):St:=
 ⟨.boxAt (Vr n) g::(post.map Oa++U3 (n-(1+post.length)) .any),upd (U3 (n+8) .none) (Vr n) (.box (ds.map M0)),[]⟩
def aM (C:Cx) (fn:Func) (st:St):Option (List A×List D×Nat):=
 match resD C st fn.results.toList with
 |none=>none
 |some as=>match nth .any st.tmps 0 with
  | .boxAt k g=>match cv k (Vr fn.ntmps),nth .none st.objs (Vr fn.ntmps)with
   |true,.box cells=>match qB cells with
    |some ds=>some (as,ds,g)
    |none=>none
   |_,_=>none
  |_=>none
def Fu (tab:Nat->List A->Option (List A)) (C:Cx) (lim n f:Nat) (ds:List D) (post:List A) (g:Nat):Option (List A×List D×Nat):=
 match C.P.funcs[f]? with
 |none=>none
 |some fn=>match fn.body with
  |none=>none
  |some b=>match jb (wv tab C lim n) C lim b (HC fn.ntmps ds post g)with
   |some (.normal,st)=>aM C fn st
   |some (.ret,st)=>aM C fn st
   |_=>none
section
variable {C:Cx}
theorem TQ {n g:Nat} {ds:List D} {post:List A} {vs2:List Value} {w:World} {F:Nat->Prop} {cs:Array Value} {t:TypeId} (hb:∀b,F b->b<w.heap.size) (hinv:Inv C F w) (h2:All2 (CA w F) post vs2) (hL:LentP w F g cs ds t):
 Lr C ⟨w.heap.size,λb=>b=g⟩ F w (HC n ds post g) {tmps:=(M3 (some ⟨g,0,none⟩)::vs2).toArray++Hx (n-(M3 (some ⟨g,0,none⟩)::vs2).toArray.size) undef,defers:=[]} w:=by
 have hl2:=h2.length;have hkl:Vr n<(U3 (n+8) Lm).length:=by simp[Vr]
 have hn:∀k,nth .none (upd (U3 (n+8) Lm) (Vr n) (.box (ds.map M0))) k=if k=Vr n then .box (ds.map M0)else .none:=λk=>by
  by_cases hk:Vr n=k
  .subst hk;rw[qb _ _ _ hkl,if_pos rfl]
  .rw[qa _ _ _ hk,XR,if_neg (Ne.symm hk)]
 have a1:∀(ds:List D) (vs:List Value) (a3:Where) (a0:List Obj),All2 (CD w F) ds vs->All2 (λv x=>CV a3 a0 w F v x/\x.oneCell'=true) (ds.map M0) vs:=by
  intro ds
  induction ds with
  |nil=>intro vs a3 a0 a2;cases vs with|nil=>trivial|cons _ _=>exact a2.elim
  |cons d ds ih=>intro vs a3 a0 a2;cases vs with|nil=>exact a2.elim|cons y vs=>exact⟨⟨a2.1,a2.1.one⟩,ih vs a3 a0 a2.2⟩
 refine⟨F,⟨C.P,λk=>if k=Vr n then some (g,0)else none,λ_=>0⟩,⟨rfl,BelowX.refl _ _,cL _,rfl,?_,λv hv=>?_,λk=>?_,?_,?_,hb,λb h=> .inl h,λ_ h=>h,hinv⟩⟩
 .simp only[HC,Hv,Hu,W1,bx];refine⟨?_,kN (vZ h2) ?_⟩
  .intro o _ _;exact⟨⟨0,by simp⟩,rfl⟩
  .have e:(M3 (some ⟨g,0,none⟩)::vs2).length=1+post.length:=by simp only[W0];omega
   rw[e];exact vm trivial _
 .simp only[HC,Tk,Sz,U0,bw]at hv;rcases hv with rfl|⟨x,_,rfl⟩|⟨_,rfl⟩
  .intro hc;have hc:nth Lm (upd (U3 (n+8) Lm) (Vr n) (.box (ds.map M0))) (Vr n)=Lm:=hc;rw[hn,if_pos rfl]at hc;simp at hc
  .exact vk x
  .trivial
 .simp only[HC];rw[hn];split
  .rename_i e;exact⟨g,0,cs,t,by simp[e],hL.nF,hL.blk,a1 _ _ _ _ hL.cd,λv hv=>by obtain⟨_,_,rfl⟩:=U0.1 hv;trivial⟩
  .rename_i e;show(if k=Vr n then some (g,0)else none)=none;rw[if_neg e]
 .intro k k' b c c' q1 q2;simp only at q1 q2;split at q1
  .split at q2
   .rename_i e1 e2;rw[e1,e2]
   .simp at q2
  .simp at q1
 .intro k b c q1;simp only at q1;split at q1
  .simp only[dc,dl]at q1;obtain⟨rfl,rfl⟩:=q1;exact⟨.inr rfl,hL.lt⟩
  .simp at q1
theorem finP {fn:Func} {w:World} {F:Nat->Prop} {g:Nat} {st:St} {a':Act} {w':World} {res:List A} {ds':List D} {cells:List V} {k:Nat} (hh:Lr C ⟨w.heap.size,λb=>b=g⟩ F w st a' w') (hfl:∀r∈res,Xz r=true) (has:resD C st fn.results.toList=some res)
 (h0:nth .any st.tmps 0= .boxAt k g) (hk:k=Vr fn.ntmps) (hob:nth .none st.objs (Vr fn.ntmps)= .box cells) (hds:qB cells=some ds'):
 a'.defers=[]/\∃v,(results fn a'.tmps).run C.P w'= .ok v w'/\∃v',M2 v= .returned v'/\aK w F g res ds' v' w':=by
 subst hk;obtain⟨F',a1,a0⟩:=hh;obtain⟨hd,v,hv1,hv2⟩:=Ka a0 has hfl;have a2:=(wH a0 0).1;rw[h0]at a2;obtain⟨⟨cg,q1⟩,q2⟩:=a2 _ hob rfl;have a3:=a0.objs (Vr fn.ntmps);rw[hob]at a3;obtain⟨gb,cb,cs,t',p1,p2,p3,p4,p5⟩:=a3;rw[p1]at q1;simp only[dc,dl]at q1;obtain⟨rfl,rfl⟩:=q1;exact⟨hd,v,hv1,v,rfl,a0.below,F',cs,t',a0.fsup,λx hx=>⟨a0.bound x hx,a0.fsub x hx⟩,hv2 F',p2,(a0.fresh _ _ _ p1).2,p3,zb (loc:=a1) (objs:=st.objs) hds (p4.mono λ_ _ h=>h.1)⟩
theorem OB [EffOk C] {tab:Nat->List A->Option (List A)} {lim:Nat} (hm:C.P.follows .mixedOrders=true) (htab:∀f as rs,tab f as=some rs->Gives C f as rs) {n f:Nat} {ds ds':List D} {post res:List A} (hfl:z8 res=true)
 (h:∀g,Fu tab C lim n f ds post g=some (res,ds',g)):WG C f ds post res ds':=by
 intro w F vs2 g cs t hb a1 h2 hL;have h:=h g;unfold Fu at h;split at h
 .simp at h
 rename_i fn hf;split at h
 .simp at h
 rename_i b hbd;have a4:∀(x:X) (s':St),(x= .normal\/x= .ret)->jb (wv tab C lim n) C lim b (HC fn.ntmps ds post g)=some (x,s')->aM C fn s'=some (res,ds',g)->Calls C.P f (.pointer (some ⟨g,0,none⟩)::vs2).toArray w λe w'=>∃v,e= .returned v/\aK w F g res ds' v w':=by
  intro x s' hx hr a0;refine calls_of_wp hf hbd (M1 (λe a' w' hp=>?_) (yc hm (λf as rs h=>z9 hm htab n f as rs h) lim b _ s' x _ w hr (TQ hb a1 h2 hL)));obtain⟨he,hh⟩:=hp;have a3:a'.defers=[]/\∃v,(results fn a'.tmps).run C.P w'= .ok v w'/\∃v',M2 v= .returned v'/\aK w F g res ds' v' w':=by
   unfold aM at a0;split at a0
   .simp at a0
   rename_i as has;split at a0
   .rename_i k g1 h0;split at a0
    .rename_i a2 hkb hob;split at a0
     .rename_i ds1 hds;simp only[dc,dl]at a0;obtain⟨rfl,rfl,rfl⟩:=a0;exact finP hh (ja hfl) has h0 (cc hkb) hob hds
     .simp at a0
    .simp at a0
   .simp at a0
  rcases hx with rfl|rfl
  .have he:e= .normal:=he;subst he;exact a3
  .have he:e= .ret:=he;subst he;exact a3
 split at h
 .rename_i s' hr;exact a4 _ _ (.inl rfl) hr h
 .rename_i s' hr;exact a4 _ _ (.inr rfl) hr h
 .simp at h
variable {B:Bd} {F0:Nat->Prop} {w0:World} {F:Nat->Prop} {loc:Where} {st:St} {a:Act} {w:World}
theorem Conc.turnedP {dst:Option Nat} {k g c0:Nat} {cells:List V} {ds':List D} {cs:Array Value} {t:TypeId} {w':World} {F':Nat->Prop} {v:V} {x:Value} {us:List (Nat×Obj)} (h:Conc C B F0 w0 F loc st a w) (hk:nth .none st.objs k= .box cells) (hl:loc k=some (g,c0)) (hnF:¬F g)
 (hbel:BelowX ⟨w.heap.size,λb=>b=g⟩ w w') (hF1:∀x,F x->F' x) (hF2:∀x,F' x->x<w'.heap.size/\(F x\/Own ⟨w.heap.size,λb=>b=g⟩ x)) (hL:LentP w' F' g cs ds' t) (hus:us=[(k,.box (ds'.map M0))])
 (hv:∀(loc:Where) (objs:List Obj),CV loc objs w' F' v x/\Ref objs v):Lr C B F0 w0 (st.put dst v us) (a.put dst x) w':=by
 subst hus;have hkl:k<st.objs.length:=qW (by rw[hk];simp);have a4:Le st.objs (upd st.objs k (.box (ds'.map M0))) loc loc:=RG hk;have a3:=hbel.size;have a5:∀x,F x->w'.heap[x]? =w.heap[x]? :=λx hx=>hbel.block x (h.bound x hx) λe=>by have e:x=g:=e;exact hnF (e▸hx)
 have hfr:=h.fresh _ _ _ hl;have a2:∀x,Own ⟨w.heap.size,λb=>b=g⟩ x->Own B x:=λx hx=>by
  rcases hx with hx|hx
  .exact .inl (c3 h.hB hx)
  .have hx:x=g:=hx;rw[hx];exact hfr.1
 have hbw:BelowX B w w':=⟨hbel.os,hbel.tape,hbel.output,hbel.size,λj hj hjX=>hbel.block j (cp hj h.hB) λhx=>by
  rcases a2 j (.inr hx)with h1|h1
  .omega
  .exact hjX h1⟩
 have a0:∀(ds:List D) (vs:List Value) (loc:Where) (objs:List Obj),All2 (CD w' F') ds vs->All2 (λv x=>CV loc objs w' F' v x/\x.oneCell'=true) (ds.map M0) vs:=by
  intro ds
  induction ds with
  |nil=>intro vs loc objs a1;cases vs with|nil=>trivial|cons _ _=>exact a1.elim
  |cons d ds ih=>intro vs loc objs a1;cases vs with|nil=>exact a1.elim|cons y vs=>exact⟨⟨a1.1,a1.1.one⟩,ih vs loc objs a1.2⟩
 refine⟨F',loc,h.step (up:=[(k,.box (ds'.map M0))]) hF1 a5 a4 (h.below.trans hbw) (by have:=h.hB;omega) (λj=>?_) h.inj (λj x y hj=>⟨(h.fresh _ _ _ hj).1,cp (h.fresh _ _ _ hj).2 a3⟩) (λx hx=>(hF2 x hx).1) (λx hx=>?_) (hv _ _).1 (hv loc _).2⟩
 .show CO _ (upd st.objs k (.box (ds'.map M0))) _ _ _ (nth .none (upd st.objs k (.box (ds'.map M0))) j);by_cases hkj:k=j
  .subst hkj;rw[qb _ _ _ hkl];exact⟨g,c0,cs,t,hl,hL.nF,hL.blk,a0 _ _ _ _ hL.cd,λv hv=>by obtain⟨_,_,rfl⟩:=U0.1 hv;trivial⟩
  .rw[qa _ _ _ hkj];refine CO.le hF1 a5 a4 rfl rfl (λx y hj=>?_) (h.objs j);have hx:x≠g:=λe=>by subst e;exact hkj (h.inj _ _ _ _ _ hl hj)
   refine⟨hbel.block x (h.fresh _ _ _ hj).2 hx,λhnF2 hF'=>?_⟩;rcases(hF2 x hF').2 with h1|h1|h1
   .exact hnF2 h1
   .have h1:w.heap.size<=x:=h1;have:=(h.fresh _ _ _ hj).2;omega
   .exact hx h1
 .rcases(hF2 x hx).2 with h1|h1
  .exact h.fsub x h1
  .exact .inr (a2 x h1)
end
def TR (chk:List D->List A->Bool) (mk:List D->List A->List D) (res:List D->List A->List A) (_:Option Nat) (vs:List V) (ob:List Obj):R:=
 match vs with
 | .box k off::r=>match nth .none ob k,j5 ob r with
  | .box cells,some (al,us)=>match cv off 0&&!k9 k (VQ us),qB cells with
   |true,some ds=> .cond (chk ds al=true) (ZC (res ds al)) (us++[(k,.box ((mk ds al).map M0))])
   |_,_=> .fail
  |_,_=> .fail
 |_=> .fail
section
variable {C:Cx}
theorem OC {f:Nat} {fn:Func} {chk:List D->List A->Bool} {mk:List D->List A->List D} {res:List D->List A->List A} (hf:C.P.funcs[f]? =some fn) (hb:fn.body≠none) (hn:fn.name≠ "runtime.NumGoroutine")
 (hmk:∀ds al,chk ds al=true->WG C f ds al (res ds al) (mk ds al)):EffAt C f (TR chk mk res):=by
 refine⟨λ{B F0 w0 F loc st a w dst args ts ty pos after g} hc=>?_,λdst vs ob ob' hh hd=>?_,λdst vs ob hv _=>?_⟩
 .unfold TR;split
  .rename_i k a7 r a5;split
   .rename_i a0 al us hk b0;split
    .rename_i ds a6 hds;simp only[Hy,I0]at a6;obtain rfl:=cc a6.1;have hku:¬∃p∈us,p.1=k:=λh=>by have:=xk.2 (yF.2 h);rw[this]at a6;simp at a6
     intro hck next Q hnx
     have hG:=hmk ds al hck;obtain⟨x0,xs,b4⟩:∃x0 xs,args.toList=x0::xs:=by
      cases h:args.toList with
      |nil=>rw[h]at a5;simp at a5
      |cons x0 xs=>exact⟨x0,xs,rfl⟩
     rw[b4]at a5;simp only[V1,bF]at a5;obtain⟨hx0,rfl⟩:=a5;obtain⟨ap,ad⟩:=jZ hc b0 (js hc xs);obtain⟨F',a4,hF',hb'⟩:=hc.freezes ap st.dirty;have a3:=ad F' hF' hb';have b3:=(qU hc x0).1;rw[hx0]at b3;have b2:nth .none (upds st.objs us) k= .box a0:=by rw[xz _ _ λp hp e=>hku ⟨p,hp,e⟩];exact hk
     have an:=a4.objs k;simp only at an;rw[b2]at an;obtain⟨gb,c0,cs0,t0,q5,q6,q7,q8,q9⟩:=an;obtain⟨b1,c1,r1,r2⟩:=b3 _ hk rfl;have h6:loc k=some (gb,c0):=q5;rw[h6]at r1;simp only[dc,dl]at r1;obtain⟨rfl,rfl⟩:=r1;have a1:=hG w F' (xs.map a.eval) gb cs0 t0 a4.bound a4.inv a3 ⟨q6,(a4.fresh _ _ _ q5).2,q7,zb (objs:=upds st.objs us) hds (q8.mono λ_ _ h=>h.1)⟩;have a2:(M3 (some ⟨gb,0,none⟩)::xs.map a.eval).toArray=args.map a.eval:=by apply Bx;rw[Aw,b4];simp[r2]
     rw[a2]at a1;refine zg hf hb hn a1 λe w' he=>?_
     obtain⟨v,rfl,ag,F2,cs,t,h1,h2,h3,h4⟩:=he;refine⟨_,rfl,hnx _ _ ?_⟩;have h6:=a4.turnedP (dst:=dst) (k:=k) (ds':=mk ds al) (v:=ZC (res ds al)) (x:=v) b2 q5 q6 ag h1 h2 h4 rfl (λloc objs=>ZZ h3);refine xc h6 rfl ?_;show upds (upds st.objs us) [(k,.box ((mk ds al).map M0))]=upds st.objs (us++[(k,.box ((mk ds al).map M0))]);rw[xE us]
    .trivial
   .trivial
  .trivial
 .unfold TR;cases vs with
  |nil=>rfl
  |cons v r=>
   cases v with
   |box k a7=>
    have h0:nth .none ob k=nth .none ob' k:=hh k (by
     rw[qq];exact⟨k,Pl.2 ⟨.box k a7,by simp,by simp[qh]⟩,.inl rfl⟩)
    have h1:j5 ob r=j5 ob' r:=z7 (c:=2) λv hv k hk=> .inl (hh k (by
     rw[qq];exact⟨k,Pl.2 ⟨v,by simp[hv],hk⟩,.inl rfl⟩))
    simp only[h0,h1]
   |_=>rfl
 .unfold TR;split
  .rename_i k a7 r;split
   .rename_i a0 al us hk b0;split
    .have ap:=kb b0;refine⟨λp hp=>?_,λj hj=>by rw[km]at hj;simp at hj⟩;rcases Tk.1 hp with hp|hp
     .obtain⟨⟨v,hv1,hv2⟩,s',es',fz,h1,h2⟩:=ap p hp;refine⟨.inr ⟨?_,by rw[h1];simp⟩,by rw[h2];simp,λu hu=>by rw[h2]at hu;simp[qQ]at hu⟩;rw[qq];exact⟨p.1,Pl.2 ⟨v,by simp[hv1],hv2⟩,.inl rfl⟩
     .simp only[P1]at hp;subst hp;refine⟨.inr ⟨?_,by rw[hk];simp⟩,by simp,λu hu=>?_⟩
      .rw[qq];exact⟨k,Pl.2 ⟨.box k a7,by simp,by simp[qh]⟩,.inl rfl⟩
      .obtain⟨_,_,rfl⟩:=U0.1 (show u∈List.map M0 _ from hu);intro j hj;simp[qh]at hj
    .trivial
   .trivial
  .trivial
end
end Eng
end
section
namespace Eng
open Go Go.RowKit
variable [Env]
abbrev Bz:=Option Nat->List V->List Obj->R
def B0:List V->Bool
 | .c (.sl [])::_=>true
 | .nilS::_=>true
 |_=>false
def zm (e1 e2:Bz) (dst:Option Nat) (vs:List V) (ob:List Obj):R:=
 match B0 vs with
 |true=>e1 dst vs ob
 |false=>e2 dst vs ob
def TS (C:Cx) (f:Nat) (chk:List A->Bool) (res:List A->List A) (_:Option Nat) (vs:List V) (ob:List Obj):R:=
 match kC C ob f vs with
 | .call _ as sh up=>match zc sh||z8 (res as)with
  |true=> .cond (chk as=true) (ZC (res as)) up
  |false=> .fail
 |_=> .fail
section
variable {C:Cx}
theorem qN {f:Nat} {e1 e2:Bz} (h1:EffAt C f e1) (h2:EffAt C f e2):EffAt C f (zm e1 e2):=by
 refine⟨λ{B F0 w0 F loc st a w dst args ts ty pos after g} hc=>?_,λdst vs ob ob' hh hd=>?_,λdst vs ob hv hb=>?_⟩
 .unfold zm;split
  .exact h1.rs hc
  .exact h2.rs hc
 .unfold zm;split
  .exact h1.ag dst vs ob ob' hh hd
  .exact h2.ag dst vs ob ob' hh hd
 .unfold zm;split
  .exact h1.good dst vs ob hv hb
  .exact h2.good dst vs ob hv hb
omit [Env] in
theorem WH {ob:List Obj} {f f':Nat} {vs:List V} {as:List A} {sh:List (Bool×List Value)} {up:List (Nat×Obj)} (h:kC C ob f vs= .call f' as sh up):f'=f/\∃us,j5 ob vs=some (as,us)/\(up=us\/up=[]):=by
 unfold kC at h;split at h
 .simp at h
 split at h
 .simp at h
 split at h
 .rename_i as' us sh' h1 _;split at h
  .simp only[R.call.injEq]at h;obtain⟨rfl,rfl,rfl,rfl⟩:=h;exact⟨rfl,_,h1,.inl rfl⟩
  .simp only[R.call.injEq]at h;obtain⟨rfl,rfl,rfl,rfl⟩:=h;exact⟨rfl,_,h1,.inr rfl⟩
 .simp at h
theorem OD {f:Nat} {chk:List A->Bool} {res:List A->List A} (hmk:∀al,chk al=true->Gives C f al (res al)):EffAt C f (TS C f chk res):=by
 refine⟨λ{B F0 w0 F loc st a w dst args ts ty pos after g} hc=>?_,λdst vs ob ob' hh hd=>?_,λdst vs ob hv hb=>?_⟩
 .have h1:=VF (dst:=dst) (ty:=ty) (pos:=pos) (after:=after) (g:=g) (f:=f) (cal:= .func f) (args:=args) (ts:=ts) hc rfl;unfold TS;revert h1;cases hr:kC C st.objs f (args.toList.map (ev st))with
  |call f' as sh up=>
   intro h1;simp only;obtain⟨rfl,_⟩:=WH hr;cases hs:(zc sh||z8 (res as))with
   |false=>trivial
   |true=>
    intro hck next Q hn
    refine h1 (res as) (hmk as hck) (λh0=>ja ?_) next Q hn
    simpa [h0]using hs
  |_=>intro _;trivial
 .unfold TS;have h1:j5 ob vs=j5 ob' vs:=z7 (c:=2) λv hv k hk=> .inl (hh k (by
   rw[qq];exact⟨k,Pl.2 ⟨v,hv,hk⟩,.inl rfl⟩))
  have h2:kC C ob f vs=kC C ob' f vs:=by unfold kC;rw[h1]
  rw[h2]
 .unfold TS;split
  .rename_i f' as sh up hr;split
   .obtain⟨_,us,hto,hup⟩:=WH hr;have hfz:=kb hto;refine⟨λp hp=>?_,λj hj=>by rw[km]at hj;simp at hj⟩;rcases hup with rfl|rfl
    .obtain⟨⟨v,hv1,hv2⟩,s',es',fz,h1,h2⟩:=hfz p hp;refine⟨.inr ⟨?_,by rw[h1];simp⟩,by rw[h2];simp,λu hu=>by rw[h2]at hu;simp[qQ]at hu⟩;rw[qq];exact⟨p.1,Pl.2 ⟨v,hv1,hv2⟩,.inl rfl⟩
    .simp at hp
   .trivial
  .trivial
end
variable (tab:Nat->List A->Option (List A)) (C:Cx)
def okF:Option (List A)->Bool
 |some _=>true
 |none=>false
noncomputable def zC (C':Cx) (f:Nat):Bz:=TS C' f (λal=>okF (wv tab C 1000 40 f al)) (λal=>match wv tab C 1000 40 f al with|some r=>r|none=>[])
noncomputable def vK (f s:Nat):Bz:=HA (λal=>match Kb tab C 1000 40 f al none []with|some (k,es)=>cv k s&&ZM es|none=>false) s (λal=>match Kb tab C 1000 40 f al none []with|some x=>x.2|none=>[])
noncomputable def wQ (f s:Nat):Bz:=TD s (λes al=>ZM es&&match Kb tab C 1000 40 f [] (some (s,es)) al with|some (k,es)=>cv k s&&ZM es|none=>false) (λes al=>match Kb tab C 1000 40 f [] (some (s,es)) al with|some x=>x.2|none=>[])
noncomputable def WI (f s:Nat):Bz:=TJ s (λes al=>okF (TI tab C 1000 40 f s es al)) (λes al=>match TI tab C 1000 40 f s es al with|some r=>r|none=>[])
noncomputable def HD (f:Nat):Bz:=TH (λal=>match TG tab C 1000 40 f al with|some _=>true|none=>false) (λal=>match TG tab C 1000 40 f al with|some r=>r|none=>(0,[],[]))
omit [Env] in
theorem yG {es:List (List D)} (h:ZM es=true):es≠[]:=by cases es<;>simp_all[ZM]
section
variable {tab} {C} {C':Cx} [EffOk C] (hm:C.P.follows .mixedOrders=true) (htab:∀f as rs,tab f as=some rs->Gives C f as rs) (hP:C'.P=C.P) (hG:C'.G=C.G)
include hm htab hP hG
theorem qO {f:Nat}:EffAt C' f (zC tab C C' f):=by
 refine OD λal hc=>?_
 revert hc;cases hr:wv tab C 1000 40 f al with
 |none=>intro h;cases h
 |some r=>intro _;exact xP hP hG (z9 hm htab 40 f al r hr)
theorem zD {f s:Nat} {fn:Func} (hf:C'.P.funcs[f]? =some fn) (hb:fn.body≠none) (hn:fn.name≠ "runtime.NumGoroutine"):EffAt C' f (vK tab C f s):=by
 refine YS hf hb hn λal hc=>?_
 revert hc;cases hr:Kb tab C 1000 40 f al none []with
 |none=>intro h;cases h
 |some x=>obtain⟨k,es⟩:=x;intro h;simp only[Hy]at h;obtain⟨h1,h2⟩:=h;obtain rfl:=cc h1;exact⟨yG h2,Za hP hG (Kc hm htab (yG h2) hr)⟩
theorem zn {f s:Nat} {fn:Func} (hf:C'.P.funcs[f]? =some fn) (hb:fn.body≠none) (hn:fn.name≠ "runtime.NumGoroutine"):EffAt C' f (wQ tab C f s):=by
 refine O3 hf hb hn λes al hc=>?_
 rw[Hy]at hc;obtain⟨h0,hc⟩:=hc;revert hc;cases hr:Kb tab C 1000 40 f [] (some (s,es)) al with
 |none=>intro h;cases h
 |some x=>obtain⟨k,es'⟩:=x;intro h;simp only[Hy]at h;obtain⟨h1,h2⟩:=h;obtain rfl:=cc h1;exact⟨yG h0,yG h2,Za hP hG (Kc hm htab (yG h2) hr)⟩
theorem kS {f s:Nat} {fn:Func} (hf:C'.P.funcs[f]? =some fn) (hb:fn.body≠none) (hn:fn.name≠ "runtime.NumGoroutine"):EffAt C' f (WI tab C f s):=by
 refine OA hf hb hn λes al hc=>?_
 revert hc;cases hr:TI tab C 1000 40 f s es al with
 |none=>intro h;cases h
 |some r=>intro _;exact TM hP hG (O8 hm htab hr)
theorem yH {f:Nat} {fn:Func} (hf:C'.P.funcs[f]? =some fn) (hb:fn.body≠none) (hn:fn.name≠ "runtime.NumGoroutine"):EffAt C' f (HD tab C f):=by
 refine O9 hf hb hn λal hc=>?_
 revert hc;cases hr:TG tab C 1000 40 f al with
 |none=>intro h;cases h
 |some r=>obtain⟨s,es,as⟩:=r;intro _;exact TK hP hG (O6 hm htab hr)
end
end Eng
end
section
namespace Eng
open Go Go.RowKit
def cS (k n:Nat) (d:D):V->V
 | .vec j m=>match cv j k with
  |true=>match cv m n with
   |true=> .c d
   |false=> .any
  |false=> .vec j m
 |v=>v
def cT (k:Nat) (st:St):St:=
 match nth .none st.objs k with
 | .vec cells=>match Ny cells with
  |some cs=>match dataC st.objs cs with
   |some (ds,us)=>match k9 k (jw us [])with
    |true=>st
    |false=>⟨st.tmps.map (cS k cells.length (.sl (ds.map λd=>[d]))),upd (upds st.objs us) k .dead,st.dirty⟩
   |none=>st
  |none=>st
 |_=>st
def cU (x:Operand):List Oper->Operand
 |[]=>x
 |o::r=>match o.dst,x,o.op with
  |some d,.tmp t,.move y=>match cv d t with
   |true=>y
   |false=>cU x r
  |_,_,_=>cU x r
def cV (ops:List Oper):List Operand->St->St
 |[],st=>st
 |x::r,st=>cV ops r (match ev st (cU x ops)with
  | .vec k _=>cT k st
  |_=>st)
def cW (ops:List Oper):List Oper->St->St
 |[],st=>st
 |o::r,st=>cW ops r (match UW o with
  |true=>cV ops o.op.operands.toList st
  |false=>st)
section
variable [Env] {C:Cx} {B:Bd} {F0:Nat->Prop} {w0:World}
omit [Env] in
theorem YW {α β:Type} {R S:α->β->Prop}:∀{as:List α} {bs:List β},All2 R as bs->All2 S as bs->All2 (λa b=>R a b/\S a b) as bs
 |[],[],_,_=>trivial
 |_::_,_::_,h,k=>⟨⟨h.1,k.1⟩,YW h.2 k.2⟩
 |[],_::_,h,_=>h.elim
 |_::_,[],h,_=>h.elim
theorem Conc.more {F:Nat->Prop} {loc:Where} {st:St} {a:Act} {w:World} {b0:Nat} (h:Conc C B F0 w0 F loc st a w) (ho:Own B b0) (hs:b0<w.heap.size) (hn:∀j c,loc j≠some (b0,c)):
 Conc C B F0 w0 (λb=>F b\/b=b0) loc st a w:=by
 have hF:∀b,F b->F b\/b=b0:=λ_ h=> .inl h
 refine⟨h.prog,h.below,h.hB,h.defers,h.tmps.mono_mem λv hv x hx=>CV.le hF (λ_ _=>rfl) (Le.refl _ _) (h.refs v hv) hx,h.refs,λk=>?_,h.inj,h.fresh,λb hb=>?_,λb hb=>?_,λb hb=> .inl (h.fsup b hb),h.inv.mono hF λ_ _=>rfl⟩
 .refine CO.le hF (λ_ _=>rfl) (Le.refl _ _) rfl rfl (λb c hb=>⟨rfl,λh1 h2=>?_⟩) (h.objs k);rcases h2 with h2|rfl
  .exact h1 h2
  .exact hn _ _ hb
 .rcases hb with hb|rfl
  .exact h.bound b hb
  .exact hs
 .rcases hb with hb|rfl
  .exact h.fsub b hb
  .exact .inr ho
theorem OE {k:Nat} {st:St} {a:Act} {w:World} (hh:Lr C B F0 w0 st a w):Lr C B F0 w0 (cT k st) a w:=by
 unfold cT;split
 .rename_i a0 hk;split
  .rename_i cs hcs;split
   .rename_i ds us hds;split
    .exact hh
    rename_i ad;obtain⟨F,b1,h⟩:=hh;have a6:=h.objs k;rw[hk]at a6;obtain⟨b0,c0,vs,t,a3,hnF,a5,hsz,hlc,a4,an,_⟩:=a6;have ag:(vs.toList.take a0.length).length=a0.length:=by simp;omega
    have al:∀j,j<a0.length->nth undef (vs.toList.take a0.length) j=nth undef vs.toList j:=λj hj=>by rw[qw,qw,List.getElem?_take,if_pos hj]
    have h2:All2 (λv x=>CV b1 st.objs w F v x/\x.oneCell'=true) a0 (vs.toList.take a0.length):=zY .any undef ag.symm λj hj=>by
     obtain⟨u,q1,q2,q3⟩:=a4 j hj;have e:nth undef vs.toList j=u:=by rw[qw];simp[q1]
     rw[al j hj,e];exact⟨q2,q3⟩
    have h2':All2 (λv x=>CV b1 st.objs w F v x/\x.oneCell'=true) (cs.map VC.v) (vs.toList.take a0.length):=by rw[<-wI hcs];exact h2
    obtain⟨hfz,a1⟩:=yt h hds (JG h2');obtain⟨F1,h3,hF1,hus⟩:=h.freezes hfz st.dirty;have a1:=a1 F1 hF1 hus;have a2:∀p∈us,p.1≠k:=λp hp e=>by have:k9 k (jw us [])=true:=xk.2 (jm.2 (.inr ⟨p,hp,e⟩));rw[this]at ad;cases ad
    have hk1:nth .none (upds st.objs us) k= .vec a0:=by rw[xz _ _ a2];exact hk
    have h4:=(h3.killO (k:=k) (by simp only;rw[hk1];simp) st.dirty).more (b0:=b0) (h.fresh _ _ _ a3).1 (h.fresh _ _ _ a3).2 λj c hj=>by
     simp only[ka]at hj;split at hj
     .cases hj
     .rename_i e;exact e (h.inj _ _ _ _ _ hj a3)
    have a1:=a1.mono λd x hd=>CD.mono (F':=λb=>F1 b\/b=b0) (w':=w) hd (λ_ h=> .inl h) λ_ _=>rfl
    have a7:=a1.length;rw[ag]at a7;have hf:∀l:List D,(l.map λd=>[d]).flatten=l:=λl=>by induction l with|nil=>rfl|cons _ _ ih=>simp[ih]
    have ap:=CD.sl (w:=w) (F:=λb=>F1 b\/b=b0) (ds.map λd=>[d]) b0 0 c0 1 (λj=>nth undef (vs.toList.take a0.length) j) (by rw[Ts];omega) (λe he=>by obtain⟨_,_,rfl⟩:=U0.1 he;rfl) (.inr rfl) (λj hj=>by
     rw[Ts,cH]at hj;rw[c4,xI a5,al j (by omega),qw];simp[show j<vs.size by omega]) (λj hj=>by
     rw[Ts,cH]at hj;rw[hf];exact a1.nth .undef undef _ _ j hj)
    rw[Ts,a7]at ap;refine⟨_,_,h4.prog,h4.below,h4.hB,h4.defers,?_,?_,h4.objs,h4.inj,h4.fresh,h4.bound,h4.fsub,h4.fsup,h4.inv⟩
    .refine j7 (λv hv x hx=>?_) (YW h.tmps h4.tmps);obtain⟨q1,q2⟩:=hx;unfold cS;split
     .rename_i j m;split
      .rename_i e;obtain rfl:=cc e;split
       .rename_i e;obtain rfl:=cc e;obtain⟨b,c,r1,rfl⟩:=q1 _ hk rfl;rw[a3]at r1;simp only[dc,dl]at r1;obtain⟨rfl,rfl⟩:=r1;exact ap
       .trivial
      .exact q2
     .exact q2
    .intro v hv;obtain⟨u,hu,rfl⟩:=U0.1 hv;have:=h4.refs u hu;unfold cS;split
     .split
      .split<;>trivial
      .exact this
     .exact this
   .exact hh
  .exact hh
 .exact hh
theorem YX {ops:List Oper} {a:Act} {w:World}:∀(l:List Operand) {st:St},Lr C B F0 w0 st a w->Lr C B F0 w0 (cV ops l st) a w
 |[],_,h=>h
 |x::l,st,h=>by
  refine YX l ?_;split
  .exact OE h
  .exact h
theorem YY {ops:List Oper} {a:Act} {w:World}:∀(l:List Oper) {st:St},Lr C B F0 w0 st a w->Lr C B F0 w0 (cW ops l st) a w
 |[],_,h=>h
 |o::l,st,h=>by
  refine YY l ?_;split
  .exact YX _ h
  .exact h
end
def Fv (f:(X->St->Prop)->St->Prop):Nat->(X->St->Prop)->St->Prop
 |0,_,_=>False
 |k+1,Q,st=>f (λe s=>match e with
  | .normal=>Fv f k Q s
  | .exit i=>Q (.exit i) s
  | .ret=>Q .ret s) st
def wpU (C:Cx) (Gv:Nat->List A->List A->Prop) (anns:Nat->Ann) (un:Nat->Nat):Nat->Code->(X->St->Prop)->St->Prop
 |_,.skip,Q,st=>Q .normal st
 |n,.region id ops d,Q,st=>wpC C Gv anns n (.region id ops d) (λe s=>Q e (T9 s)) (settleO C ops.toList (evict (H9 C ops.toList) (cW ops.toList ops.toList st)))
 |n,.seq a b,Q,st=>wpU C Gv anns un n a (λe s=>match e with
  | .normal=>wpU C Gv anns un (n+zS a) b Q s
  | .exit i=>Q (.exit i) s
  | .ret=>Q .ret s) st
 |n,.cond c x y,Q,st=>match ev st c with
  | .c d=>cnd (isB d) (br (toB d) (wpU C Gv anns un n x Q st) (wpU C Gv anns un (n+zS x) y Q st))
  |_=>False
 |n,.block id c,Q,st=>wpU C Gv anns un n c (λe s=>match e with
  | .normal=>Q .normal s
  | .exit i=>match cv i id with
   |true=>Q .normal s
   |false=>Q (.exit i) s
  | .ret=>Q .ret s) st
 |_,.exit id,Q,st=>Q (.exit id) st
 |_,.ret,Q,st=>Q .ret st
 |n,.loop body,Q,st=>match un n with
  |0=>wpC C Gv anns n (.loop body) (λe s=>Q e (T9 s)) st
  |k+1=>Fv (λQ st=>wpU C Gv anns un (n+1) body Q st) (k+1) Q st
 |_,_,_,_=>False
def B1 (C:Cx) (Gv:Nat->List A->List A->Prop) (anns:Nat->Ann) (un:Nat->Nat) (fn:Func) (args:List A) (Q:List A->Prop):Prop:=
 match fn.body with
 |none=>False
 |some c=>wpU C Gv anns un 0 c (λe s=>match e with
  | .normal| .ret=>match resD C s fn.results.toList with
   |some as=>Q as
   |none=>False
  | .exit _=>False) (ki fn.ntmps args)
section
variable [Env] {C:Cx} {B:Bd} {F0:Nat->Prop} {w0:World}
def Fw (C:Cx) (B:Bd) (F0:Nat->Prop) (w0:World) (Q:X->St->Prop) (e:Exit) (a:Act) (w:World):Prop:=
 ∃x s',XM x e/\Q x s'/\Lr C B F0 w0 s' a w
theorem Fx [EffOk C] (hm:C.P.follows .mixedOrders=true) {anns:Nat->Ann} {un:Nat->Nat}:∀(c:Code) (n:Nat) (Q:X->St->Prop) (s:St) (a:Act) (w:World),wpU C (Gives C) anns un n c Q s->Lr C B F0 w0 s a w->
 c.wp C.P (Fw C B F0 w0 Q) a w:=by
 intro c;have a1:∀(c:Code) (n:Nat) (Q:X->St->Prop) (s:St) (a:Act) (w:World),wpC C (Gives C) anns n c (λe s=>Q e (T9 s)) s->Lr C B F0 w0 s a w->c.wp C.P (Fw C B F0 w0 Q) a w:=λc n Q s a w h hh=>by refine M1 (λe a' w' hp=>?_) (T6 hm c n _ s a w h hh);obtain⟨x,s',hx,hq,_,h'⟩:=hp;exact⟨x,T9 s',hx,hq,xc h' rfl rfl⟩
 induction c with
 |skip=>intro n Q s a w h hh;exact wp_skip ⟨.normal,s,rfl,h,hh⟩
 |region id ops d=>intro n Q s a w h hh;exact a1 _ n Q _ a w h (yb _ (XS _ (YY _ hh)))
 |seq x y ihx ihy=>
  intro n Q s a w h hh;simp only[wpU]at h;refine wp_seq (M1 (λe a' w' hp=>?_) (ihx n _ s a w h hh));obtain⟨z,s',hz,hq,a0⟩:=hp;cases z with
  |normal=>have hz:e= .normal:=hz;subst hz;exact ihy _ _ s' a' w' hq a0
  |exit i=>have hz:e= .exit i:=hz;subst hz;exact⟨.exit i,s',rfl,hq,a0⟩
  |ret=>have hz:e= .ret:=hz;subst hz;exact⟨.ret,s',rfl,hq,a0⟩
 |cond cd x y ihx ihy=>
  intro n Q s a w h hh;simp only[wpU]at h;split at h
  .rename_i d hd;obtain⟨F,a2,hc⟩:=hh;have he:=(qU hc cd).1;rw[hd]at he;cases d with
   |bool b=>
    have hb:a.eval cd= .bool b:=(λ(x:Value) (hx:CD w F (.bool b) x)=>(by cases hx;rfl:x= .bool b)) _ he;refine wp_cond hb ?_;cases b with
    |true=>rw[if_pos rfl];exact ihx n Q s a w h ⟨F,a2,hc⟩
    |false=>rw[if_neg (by simp)];exact ihy _ Q s a w h ⟨F,a2,hc⟩
   |_=>exact h.elim
  .exact h.elim
 |block id x ih=>
  intro n Q s a w h hh;simp only[wpU]at h;refine wp_block (M1 (λe a' w' hp=>?_) (ih n _ s a w h hh));obtain⟨z,s',hz,hq,a0⟩:=hp;cases z with
  |normal=>have hz:e= .normal:=hz;subst hz;exact⟨.normal,s',rfl,hq,a0⟩
  |exit i=>
   have hz:e= .exit i:=hz;subst hz;simp only at hq;unfold Exit.inBlock;split at hq
   .rename_i hi;have:=cc hi;simp only[this,if_true];exact⟨.normal,s',rfl,hq,a0⟩
   .rename_i hi;have:i≠id:=λe=>by subst e;simp at hi
    simp only[this,if_false];exact⟨.exit i,s',rfl,hq,a0⟩
  |ret=>have hz:e= .ret:=hz;subst hz;exact⟨.ret,s',rfl,hq,a0⟩
 |exit id=>intro n Q s a w h hh;exact wp_exit ⟨.exit id,s,rfl,h,hh⟩
 |ret=>intro n Q s a w h hh;exact wp_ret ⟨.ret,s,rfl,h,hh⟩
 |loop body ih=>
  intro n Q s a w h hh;simp only[wpU]at h;split at h
  .exact a1 _ n Q s a w h hh
  .rename_i k _;refine wp_loop_rounds (k+1) ?_;generalize k+1=m at h
   induction m generalizing s a w with
   |zero=>exact h.elim
   |succ m im=>
    rw[rounds_succ];refine M1 (λe a' w' hp=>?_) (ih (n+1) _ s a w h hh);obtain⟨z,s',hz,hq,a0⟩:=hp;cases z with
    |normal=>have hz:e= .normal:=hz;subst hz;exact im s' a' w' a0 hq
    |exit i=>have hz:e= .exit i:=hz;subst hz;exact⟨.exit i,s',rfl,hq,a0⟩
    |ret=>have hz:e= .ret:=hz;subst hz;exact⟨.ret,s',rfl,hq,a0⟩
 |_=>intro n Q s a w h hh;exact h.elim
theorem TT [EffOk C] {anns:Nat->Ann} {un:Nat->Nat} {f:Nat} {fn:Func} {args res:List A} (hm:C.P.follows .mixedOrders=true) (hf:C.P.funcs[f]? =some fn) (h:B1 C (Gives C) anns un fn args (λr=>r=res)):Gives C f args res:=by
 intro w F vs hb a2 a0;unfold B1 at h;split at h
 .exact h.elim
 rename_i c hc;refine calls_of_wp hf hc ?_;refine M1 (λe a' w' hp=>?_) (Fx hm c 0 _ _ _ _ h (vn hb a2 a0));obtain⟨x,s',hx,hq,hh⟩:=hp;have a3:∀as,resD C s' fn.results.toList=some as->as=res->_:=λas a1 he=>VN (fn:=fn) hh (he▸a1)
 cases x with
 |normal=>
  have hx:e= .normal:=hx;subst hx;simp only at hq;split at hq
  .rename_i as a1;exact a3 as a1 hq
  .exact hq.elim
 |ret=>
  have hx:e= .ret:=hx;subst hx;simp only at hq;split at hq
  .rename_i as a1;exact a3 as a1 hq
  .exact hq.elim
 |exit i=>exact hq.elim
end
end Eng
end
section
namespace Eng
open Go Go.RowKit
variable [Env]
def Up (r:Nat->Nat):V->V
 | .arr k=> .arr (r k)
 | .vec k n=> .vec (r k) n
 |v=>v
def Ke (r:Nat->Nat):List V->List V
 |[]=>[]
 |v::l=>Up r v::Ke r l
def Jq (r:Nat->Nat):Obj->Obj
 | .box cs=> .box (Ke r cs)
 | .vec cs=> .vec (Ke r cs)
 |o=>o
def v7 (r:Nat->Nat):List Obj->List Obj
 |[]=>[]
 |o::l=>Jq r o::v7 r l
def okV (p:Nat->Bool):V->Bool
 | .arr k=>p k
 | .vec k _=>p k
 | .c _=>true
 | .nilS=>true
 |_=>false
def Uq (p:Nat->Bool):List V->Bool
 |[]=>true
 |v::l=>okV p v&&Uq p l
def okO (p:Nat->Bool):Obj->Bool
 | .box cs=>Uq p cs
 | .vec cs=>Uq p cs
 | .arr _ es false=>ZM es
 |_=>false
def KN (p:Nat->Bool):List Obj->Bool
 |[]=>true
 |o::l=>okO p o&&KN p l
omit [Env] in
theorem kT (r:Nat->Nat):∀l,Ke r l=l.map (Up r)
 |[]=>rfl
 |v::l=>by simp only[Ke,V1];rw[kT r l]
omit [Env] in
theorem vo (r:Nat->Nat):∀l,v7 r l=l.map (Jq r)
 |[]=>rfl
 |v::l=>by simp only[v7,V1];rw[vo r l]
omit [Env] in
theorem QV {p:Nat->Bool}:∀{l:List V},Uq p l=true->∀v∈l,okV p v=true
 |[],_,_,h=>by simp at h
 |u::l,h,v,hv=>by
  simp only[Uq,Hy]at h;rcases Sz.1 hv with rfl|hv
  .exact h.1
  .exact QV h.2 v hv
omit [Env] in
theorem zh {p:Nat->Bool}:∀{l:List Obj},KN p l=true->∀v∈l,okO p v=true
 |[],_,_,h=>by simp at h
 |u::l,h,v,hv=>by
  simp only[KN,Hy]at h;rcases Sz.1 hv with rfl|hv
  .exact h.1
  .exact zh h.2 v hv
omit [Env] in
theorem yI {r:Nat->Nat} {o:Obj} {s:Nat} {es:List (List D)} {fz:Bool}:Jq r o= .arr s es fz↔o= .arr s es fz:=by
 cases o<;>simp[Jq]
omit [Env] in
theorem yJ {r:Nat->Nat} {o:Obj}:xD (Jq r o)=xD o:=by
 cases o<;>rfl
omit [Env] in
theorem kr {r:Nat->Nat} {o:Obj} (h:o≠ .none):Jq r o≠ .none:=by
 cases o<;>simp_all[Jq]
omit [Env] in
theorem kt {r:Nat->Nat} {l:List Obj} {i:Nat}:nth .none (v7 r l) i=Jq r (nth .none l i):=by
 rw[vo];exact ya (Jq r) .none l i
omit [Env] in
theorem QE {p:Nat->Bool} {o:Obj} (h:okO p o=true):o≠ .none:=by
 intro e;subst e;cases h
structure Rel (objs1 objs2:List Obj) (l1 l2:Where) (r:Nat->Nat) (k:Nat):Prop where
 arr:∀s es fz,nth .none objs2 (r k)= .arr s es fz->nth .none objs1 k= .arr s es fz
 box:xD (nth .none objs2 (r k))=true->xD (nth .none objs1 k)=true
 loc:l2 (r k)=l1 k
 ne:nth .none objs2 (r k)≠ .none
theorem CV.mapv {l1 l2:Where} {objs1 objs2:List Obj} {w:World} {F:Nat->Prop} {r:Nat->Nat} {p:Nat->Bool} (hp:∀k,p k=true->Rel objs1 objs2 l1 l2 r k) {v:V} {x:Value} (hok:okV p v=true) (h:CV l1 objs1 w F v x):CV l2 objs2 w F (Up r v) x/\Ref objs2 (Up r v):=by
 cases v with
 |arr k=>have hr:=hp k hok;refine⟨λs es fz hc=>?_,hr.ne⟩;rw[hr.loc];exact h s es fz (hr.arr _ _ _ hc)
 |vec k n=>have hr:=hp k hok;refine⟨λo hc hb=>?_,hr.ne⟩;rw[hr.loc];exact h _ rfl (hr.box (by rw[hc];exact hb))
 |c d=>exact⟨h,trivial⟩
 |nilS=>exact⟨h,trivial⟩
 |_=>cases hok
theorem CO.mapo {l1 l2:Where} {objs1 objs2:List Obj} {w:World} {F:Nat->Prop} {r:Nat->Nat} {p:Nat->Bool} (hP:l2.P=l1.P) (hp:∀k,p k=true->Rel objs1 objs2 l1 l2 r k) {k:Nat} {o:Obj} (hloc:l2 (r k)=l1 k) (hty:(∃s es fz,o= .arr s es fz)->l2.ty (r k)=l1.ty k) (hok:okO p o=true) (h:CO l1 objs1 w F k o):CO l2 objs2 w F (r k) (Jq r o):=by
 cases o with
 |none=>cases hok
 |dead=>cases hok
 |bld T q=>cases hok
 |box a0=>
  obtain⟨b,c,cs,t,h1,h2,h3,h4,h5⟩:=h;have hm:=QV (show Uq p a0=true from hok);refine⟨b,c,cs,t,hloc.trans h1,h2,h3,?_,λv hv=>?_⟩
  .rw[kT];have:∀(a0:List V) (vs:List Value),(∀v∈a0,okV p v=true)->All2 (λv x=>CV l1 objs1 w F v x/\x.oneCell'=true) a0 vs->All2 (λv x=>CV l2 objs2 w F v x/\x.oneCell'=true) (a0.map (Up r)) vs:=by
    intro a0
    induction a0 with
    |nil=>intro vs _ h;cases vs with|nil=>trivial|cons _ _=>exact h.elim
    |cons v a0 ih=>intro vs hm h;cases vs with|nil=>exact h.elim|cons x vs=>exact⟨⟨(h.1.1.mapv hp (hm v (by simp))).1,h.1.2⟩,ih vs (λv hv=>hm v (by simp[hv])) h.2⟩
   exact this _ _ hm h4
  .rw[kT]at hv;obtain⟨u,hu,rfl⟩:=U0.1 hv;have h4:All2 (λv x=>CV l1 objs1 w F v x/\x.oneCell'=true) a0 cs.toList:=h4;obtain⟨i,hi,rfl⟩:=bv hu;have:=(h4.nth .any undef _ _ i hi).1;rw[qk _ hi]at this;exact(this.mapv hp (hm _ hu)).2
 |vec a0=>
  obtain⟨b,c,cs,t,h1,h2,h3,h4,h5,h7,h8,h9,a1⟩:=h;have hm:=QV (show Uq p a0=true from hok);have hl:(Ke r a0).length=a0.length:=by rw[kT,Ts]
  have hv:∀j,j<a0.length->∃x,cs[j]? =some x/\(CV l2 objs2 w F (Up r (nth .any a0 j)) x/\Ref objs2 (Up r (nth .any a0 j)))/\x.oneCell'=true:=λj hj=>by obtain⟨x,q1,q2,q3⟩:=h7 j hj;exact⟨x,q1,q2.mapv hp (hm _ (qT hj)),q3⟩
  refine⟨b,c,cs,t,hloc.trans h1,h2,h3,h4,by rw[hl];exact h5,λj hj=>?_,λv hv2=>?_,by rw[hP];exact h9,by rw[hl];exact a1⟩
  .rw[hl]at hj;obtain⟨x,q1,q2,q3⟩:=hv j hj;refine⟨x,q1,?_,q3⟩;rw[kT,show(V.any)=Up r .any from rfl,ya];exact q2.1
  .rw[kT]at hv2;obtain⟨u,hu,rfl⟩:=U0.1 hv2;obtain⟨j,hj,rfl⟩:=bv hu;obtain⟨x,_,q2,_⟩:=hv j hj;rw[qk _ hj]at q2;exact q2.2
 |arr s es fz=>
  obtain⟨h1,h2,h3,h4⟩:=h;refine⟨h1,h2,h3,?_⟩;rcases h4 with⟨h4,h5⟩|⟨b,c,cs,t,h4,h5,h6,h7,h8,h9,a1,h11⟩
  .exact .inl ⟨hloc.trans h4,h5⟩
  .exact .inr ⟨b,c,cs,t,hloc.trans h4,h5,h6,h7,h8,h9,by rw[hP];exact a1,(hty ⟨_,_,_,rfl⟩).trans h11⟩
structure HasO (P:Program) (w:World) (F:Nat->Prop) (os:List Obj) (l:Where):Prop where
 prog:l.P=P
 objs:∀i,CO l os w F i (nth .none os i)
 inj:∀i i' b c c',l i=some (b,c)->l i'=some (b,c')->i=i'
 lt:∀i b c,l i=some (b,c)->b<w.heap.size
def ltB (m k:Nat):Bool:=Nat.blt k m
def Qn (l:Where) (b:Nat):Prop:=∃i c,l i=some (b,c)
theorem TU {P:Program} {w:World} {F:Nat->Prop} {os:List Obj} {l:Where} {p:Nat->Bool} (h:HasO P w F os l) (hok:KN p os=true) {i:Nat} (hi:i<os.length):∃b c,l i=some (b,c):=by
 have h1:=h.objs i;have h2:=zh hok _ (qT (d:= .none) hi);revert h1 h2;cases nth Lm os i with
 |none=>intro _ h;cases h
 |dead=>intro _ h;cases h
 |bld _ _=>intro _ h;cases h
 |box cells=>rintro⟨b,c,_,_,h1,_⟩ _;exact⟨b,c,h1⟩
 |vec cells=>rintro⟨b,c,_,_,h1,_⟩ _;exact⟨b,c,h1⟩
 |arr s es fz=>
  rintro⟨_,_,_,h4⟩ hk;rcases h4 with⟨_,h5⟩|⟨b,c,_,_,h4,_⟩
  .subst h5;cases fz<;>cases hk
  .exact⟨b,c,h4⟩
theorem VU {P:Program} {w:World} {F:Nat->Prop} {os:List Obj} {l:Where} (h:HasO P w F os l) {i:Nat} (hi:os.length<=i):l i=none:=by
 have h1:=h.objs i;rw[qC _ hi]at h1;exact h1
def YZ (C:Cx) (f:Nat) (os:List Obj) (post res:List A) (os':List Obj):Prop:=
 ∀(w:World) (F:Nat->Prop) (vs2:List Value) (l:Where) (g c0:Nat),(∀b,F b->b<w.heap.size)->Inv C F w->All2 (CA w F) post vs2->HasO C.P w F os l->l 0=some (g,c0)->
  Calls C.P f (.pointer (some ⟨g,0,none⟩)::vs2).toArray w λe w'=>∃v,e= .returned v/\BelowX ⟨w.heap.size,Qn l⟩ w w'/\
   ∃F':Nat->Prop,(∀x,F x->F' x)/\(∀x,F' x->x<w'.heap.size/\(F x\/Own ⟨w.heap.size,Qn l⟩ x))/\vO w' F' res v/\HasO C.P w' F' os' l
theorem TV {C C':Cx} (hP:C'.P=C.P) (hG:C'.G=C.G) {f:Nat} {os os':List Obj} {post res:List A} (h:YZ C f os post res os'):YZ C' f os post res os':=by
 intro w F vs2 l g c0 hb hi h2 hl hg;rw[hP]at hl ⊢;exact h w F vs2 l g c0 hb (QD hG.symm hi) h2 hl hg
def Qo (n:Nat) (l:Where):Nat->List (Nat×Nat×Nat×Nat)
 |0=>[]
 |m+1=>(n+m,((l m).getD (0,0)).1,((l m).getD (0,0)).2,l.ty m)::Qo n l m
def TW (n:Nat):Nat->List (Nat×Nat×Nat×Nat)
 |0=>[]
 |m+1=>(n+m,0,0,0)::TW n m
omit [Env] in
theorem Ga {n:Nat} {l:Where}:∀{m:Nat},RM (Qo n l m)=TW n m
 |0=>rfl
 |m+1=>by show _::RM (Qo n l m)=_::TW n m;rw[Ga]
omit [Env] in
theorem Zb {n:Nat} {l:Where}:∀{m:Nat} {p:Nat×Nat×Nat×Nat},p∈Qo n l m->∃i,i<m/\p=(n+i,((l i).getD (0,0)).1,((l i).getD (0,0)).2,l.ty i)
 |0,_,h=>by simp[Qo]at h
 |m+1,p,h=>by
  rcases Sz.1 h with rfl|h
  .exact⟨m,by omega,rfl⟩
  .obtain⟨i,h1,h2⟩:=Zb h;exact⟨i,by omega,h2⟩
omit [Env] in
theorem WJ {n:Nat} {l:Where}:∀{m i:Nat},i<m->(n+i,((l i).getD (0,0)).1,((l i).getD (0,0)).2,l.ty i)∈Qo n l m
 |m+1,i,h=>by
  by_cases e:i=m
  .subst e;simp[Qo]
  .exact W2 _ (WJ (by omega))
def VV (n:Nat) (os:List Obj):List Obj:=U3 n .none++v7 (λk=>n+k) os
def Kf (n:Nat) (os:List Obj) (post:List A) (g:Nat) (ps:List (Nat×Nat×Nat×Nat)):St:=
 ⟨.pinB n g ps::(post.map Oa++U3 (n-(1+post.length)) .any),VV n os,[]⟩
def HE:Nat->List Obj->List Obj
 |0,l=>l
 |_+1,[]=>[]
 |n+1,_::l=>HE n l
def HF:Nat->List Obj->List Obj
 |0,_=>[]
 |_+1,[]=>[]
 |n+1,o::l=>o::HF n l
def inB (n m k:Nat):Bool:=Nat.ble n k&&Nat.blt k (n+m)
def RN (C:Cx) (fn:Func) (st:St) (m:Nat):Option (List A×List Obj×Nat×List (Nat×Nat×Nat×Nat)):=
 match resD C st fn.results.toList with
 |none=>none
 |some as=>match nth .any st.tmps 0 with
  | .pinB k g ps=>match cv k fn.ntmps&&(cv (HF m (HE fn.ntmps st.objs)).length m&&KN (inB fn.ntmps m) (HF m (HE fn.ntmps st.objs)))with
   |true=>some (as,v7 (λk=>k-fn.ntmps) (HF m (HE fn.ntmps st.objs)),g,ps)
   |false=>none
  |_=>none
def HG (tab:Nat->List A->Option (List A)) (C:Cx) (lim n f:Nat) (os:List Obj) (post:List A) (g:Nat) (ps:List (Nat×Nat×Nat×Nat)):Option (List A×List Obj×Nat×List (Nat×Nat×Nat×Nat)):=
 match C.P.funcs[f]? with
 |none=>none
 |some fn=>match fn.body with
  |none=>none
  |some b=>match jb (wv tab C lim n) C lim b (Kf fn.ntmps os post g ps)with
   |some (.normal,st)=>RN C fn st os.length
   |some (.ret,st)=>RN C fn st os.length
   |_=>none
section
variable {C:Cx}
omit [Env] in
theorem WK {n:Nat} {os:List Obj} (k:Nat):nth .none (VV n os) k=if k<n then .none else Jq (λk=>n+k) (nth .none os (k-n)):=by
 unfold VV;split
 .rename_i h;rw[qw,List.getElem?_append_left (by simpa using h)];simp[h]
 .rename_i h;have:=kL Lm (U3 n .none) (v7 (λk=>n+k) os) (k-n);rw[List.length_replicate,show n+(k-n)=k by omega]at this;rw[this,kt]
omit [Env] in
theorem WL:∀{n:Nat} {l:List Obj} {i:Nat},nth .none (HE n l) i=nth .none l (n+i)
 |0,_,_=>by rw[c4];rfl
 |n+1,[],i=>by rw[show n+1+i=(n+i)+1 by omega];cases i<;>rfl
 |n+1,o::l,i=>by rw[show n+1+i=(n+i)+1 by omega];exact WL (n:=n) (l:=l)
omit [Env] in
theorem WM:∀{m:Nat} {l:List Obj} {i:Nat},i<m->nth .none (HF m l) i=nth .none l i
 |m+1,[],i,_=>by cases i<;>rfl
 |m+1,o::l,0,_=>rfl
 |m+1,o::l,i+1,h=>WM (m:=m) (l:=l) (by omega)
theorem TX {n g c0:Nat} {os:List Obj} {post:List A} {vs2:List Value} {w:World} {F:Nat->Prop} {l:Where} (hb:∀b,F b->b<w.heap.size) (hinv:Inv C F w) (h2:All2 (CA w F) post vs2) (hL:HasO C.P w F os l) (hg:l 0=some (g,c0)) (hok:KN (ltB os.length) os=true):
 Lr C ⟨w.heap.size,Qn l⟩ F w (Kf n os post g (Qo n l os.length)) {tmps:=(M3 (some ⟨g,0,none⟩)::vs2).toArray++Hx (n-(M3 (some ⟨g,0,none⟩)::vs2).toArray.size) undef,defers:=[]} w:=by
 have hl2:=h2.length;have a6:0<os.length:=by
  rcases Nat.eq_zero_or_pos os.length with h|h
  .have:=VU hL (i:=0) (by omega);rw[hg]at this;cases this
  .exact h
 let loc:Where:=⟨C.P,λk=>if k<n then none else l (k-n),λk=>l.ty (k-n)⟩
 have a0:∀i,loc (n+i)=l i:=λi=>by show(if n+i<n then none else l (n+i-n))=l i;rw[if_neg (by omega),cm]
 have ag:∀i,loc.ty (n+i)=l.ty i:=λi=>by show l.ty (n+i-n)=l.ty i;rw[cm]
 have hn:∀i,nth .none (VV n os) (n+i)=Jq (λk=>n+k) (nth .none os i):=λi=>by rw[WK,if_neg (by omega),cm]
 have a7:∀i,i<os.length->nth .none (VV n os) (n+i)≠ .none:=λi hi=>by rw[hn];exact kr (QE (zh hok _ (qT hi)))
 have a5:∀k b c,loc k=some (b,c)->n<=k/\l (k-n)=some (b,c):=λk b c h=>by
  have h:(if k<n then none else l (k-n))=some (b,c):=h;split at h
  .cases h
  .exact⟨by omega,h⟩
 refine⟨F,loc,⟨rfl,BelowX.refl _ _,cL _,rfl,?_,λv hv=>?_,λk=>?_,?_,?_,hb,λb h=> .inl h,λ_ h=>h,hinv⟩⟩
 .simp only[Kf,Hv,Hu,W1,bx];refine⟨⟨λo _ _=>⟨⟨c0,?_⟩,rfl⟩,λp hp=>?_⟩,kN (vZ h2) ?_⟩
  .have:=a0 0;rw[cF]at this;rw[this];exact hg
  .obtain⟨i,hi,rfl⟩:=Zb hp;obtain⟨b,c,ad⟩:=TU hL hok hi;refine⟨λ_=>?_,λ_ _ _ _=>⟨?_,ag i⟩⟩
   .rw[a0,ad];rfl
   .rw[a0,ad];rfl
  .have e:(M3 (some ⟨g,0,none⟩)::vs2).length=1+post.length:=by simp only[W0];omega
   rw[e];exact vm trivial _
 .simp only[Kf,Tk,Sz,U0,bw]at hv;rcases hv with rfl|⟨x,_,rfl⟩|⟨_,rfl⟩
  .refine⟨?_,λp hp=>?_⟩
   .have:=a7 0 a6
    rwa [cF]at this
   .obtain⟨i,hi,rfl⟩:=Zb hp;exact a7 i hi
  .exact vk x
  .trivial
 .show CO loc (VV n os) w F k (nth .none (VV n os) k);by_cases hk:k<n
  .rw[WK,if_pos hk];show(if k<n then none else l (k-n))=none;rw[if_pos hk]
  .obtain⟨i,rfl⟩:∃i,k=n+i:=⟨k-n,by omega⟩;rw[hn];by_cases hi:i<os.length
   .refine CO.mapo (r:=λk=>n+k) (p:=ltB os.length) hL.prog.symm (λj hj=>?_) (a0 i) (λ_=>ag i) (zh hok _ (qT hi)) (hL.objs i);have hj:j<os.length:=by have:=c2 hj;omega
    refine⟨λs es fz h=>?_,λh=>?_,a0 j,a7 j hj⟩
    .rw[hn]at h;exact yI.1 h
    .rw[hn,yJ]at h;exact h
   .rw[qC _ (by omega)];show loc (n+i)=none;rw[a0];exact VU hL (by omega)
 .intro k k' b c c' p1 p2;obtain⟨a1,a2⟩:=a5 _ _ _ p1;obtain⟨a3,a4⟩:=a5 _ _ _ p2;have:=hL.inj _ _ _ _ _ a2 a4;omega
 .intro k b c p1;obtain⟨a1,a2⟩:=a5 _ _ _ p1;exact⟨.inr ⟨_,_,a2⟩,hL.lt _ _ _ a2⟩
theorem finQ {fn:Func} {w:World} {F:Nat->Prop} {g m:Nat} {l:Where} {st:St} {a':Act} {w':World} {res:List A} {os':List Obj} (hh:Lr C ⟨w.heap.size,Qn l⟩ F w st a' w') (hfl:∀r∈res,Xz r=true)
 (hP:l.P=C.P) (hinj:∀i i' b c c',l i=some (b,c)->l i'=some (b,c')->i=i') (hlt:∀i b c,l i=some (b,c)->b<w.heap.size) (hdead:∀i,m<=i->l i=none) (hlive:∀i,i<m->∃b c,l i=some (b,c))
 (he:RN C fn st m=some (res,os',g,Qo fn.ntmps l m)):
 a'.defers=[]/\∃v,(results fn a'.tmps).run C.P w'= .ok v w'/\∃v',M2 v= .returned v'/\BelowX ⟨w.heap.size,Qn l⟩ w w'/\
  ∃F':Nat->Prop,(∀x,F x->F' x)/\(∀x,F' x->x<w'.heap.size/\(F x\/Own ⟨w.heap.size,Qn l⟩ x))/\vO w' F' res v'/\HasO C.P w' F' os' l:=by
 unfold RN at he;split at he
 .cases he
 rename_i as has;split at he
 .rename_i k g' ps h0;split at he
  .rename_i a6;simp only[dc,dl]at he;obtain⟨rfl,rfl,rfl,rfl⟩:=he;simp only[Hy]at a6;obtain⟨hk,a2,a7⟩:=a6;obtain rfl:=cc hk;have a2:=cc a2;obtain⟨F',a1,a0⟩:=hh;obtain⟨hd,v,hv1,hv2⟩:=Ka a0 has hfl;refine⟨hd,v,hv1,v,rfl,a0.below,F',a0.fsup,λx hx=>⟨a0.bound x hx,a0.fsub x hx⟩,hv2 F',?_⟩;have al:=(wH a0 0).1;rw[h0]at al;obtain⟨hc1,hc2⟩:=al;generalize hT:HF m (HE fn.ntmps st.objs)=T at a7 a2;have a5:∀i,i<m->nth .none T i=nth .none st.objs (fn.ntmps+i):=λi hi=>by rw[<-hT,WM hi,WL]
   have a4:∀i,i<m->a1 (fn.ntmps+i)=l i/\((∃s es fz,nth .none T i= .arr s es fz)->a1.ty (fn.ntmps+i)=l.ty i):=λi hi=>by
    obtain⟨q1,q2⟩:=hc2 _ (WJ hi);obtain⟨b,c,hbc⟩:=hlive i hi;have e:some (((l i).getD (0,0)).1,((l i).getD (0,0)).2)=l i:=by rw[hbc];rfl
    simp only at q1 q2;rw[<-a5 i hi,e]at q1;rw[<-a5 i hi,e]at q2;have a3:=zh a7 _ (qT (d:= .none) (l:=T) (i:=i) (by omega));revert q1 q2 a3;cases nth Lm T i with
    |none=>intro _ _ h;cases h
    |dead=>intro _ _ h;cases h
    |bld _ _=>intro _ _ h;cases h
    |box cells=>intro q1 _ _;exact⟨q1 rfl,λ⟨_,_,_,h⟩=>by cases h⟩
    |vec cells=>intro q1 _ _;exact⟨q1 rfl,λ⟨_,_,_,h⟩=>by cases h⟩
    |arr s es fz=>intro _ q2 _;exact⟨(q2 _ _ _ rfl).1,λ_=>(q2 _ _ _ rfl).2⟩
   refine⟨hP,λi=>?_,hinj,λi b c h=>cp (hlt i b c h) a0.below.size⟩;by_cases hi:i<m
   .have a3:=zh a7 _ (qT (d:= .none) (l:=T) (i:=i) (by omega));rw[kt];have an:=a0.objs (fn.ntmps+i);rw[<-a5 i hi]at an;have ag:∀k,inB fn.ntmps m k=true->Rel st.objs (v7 (λk=>k-fn.ntmps) T) a1 l (λk=>k-fn.ntmps) k:=λk hk=>by
     simp only[inB,Hy]at hk;have k1:=c2 hk.1;have k2:=c2 hk.2;obtain⟨j,rfl⟩:∃j,k=fn.ntmps+j:=⟨k-fn.ntmps,by omega⟩;have hj:j<m:=by omega
     have ad:=zh a7 _ (qT (d:= .none) (l:=T) (i:=j) (by omega));refine⟨λs es fz h=>?_,λh=>?_,?_,?_⟩
     .simp only[cm]at h;rw[kt,a5 j hj]at h;exact yI.1 h
     .simp only[cm]at h;rw[kt,yJ,a5 j hj]at h;exact h
     .simp only[cm];exact(a4 j hj).1.symm
     .simp only[cm];rw[kt];exact kr (QE ad)
    have h1:=CO.mapo (l1:=a1) (l2:=l) (r:=λk=>k-fn.ntmps) (p:=inB fn.ntmps m) (hP.trans a0.prog.symm) ag (k:=fn.ntmps+i) (by simp only[cm];exact(a4 i hi).1.symm) (λh=>by simp only[cm];exact((a4 i hi).2 h).symm) a3 an;simp only[cm]at h1;exact h1
   .rw[qC _ (by rw[vo,Ts];omega)];exact hdead i (by omega)
  .cases he
 .cases he
theorem OF [EffOk C] {tab:Nat->List A->Option (List A)} {lim:Nat} (hm:C.P.follows .mixedOrders=true) (htab:∀f as rs,tab f as=some rs->Gives C f as rs) {n f:Nat} {fn:Func} (hf:C.P.funcs[f]? =some fn) {os os':List Obj} {post res:List A} (hfl:z8 res=true) (hok:KN (ltB os.length) os=true)
 (h:∀(l:Where) g,HG tab C lim n f os post g (Qo fn.ntmps l os.length)=some (res,os',g,Qo fn.ntmps l os.length)):YZ C f os post res os':=by
 intro w F vs2 l g c0 hb a1 h2 hL hg;have h:=h l g;unfold HG at h;rw[hf]at h;simp only at h;split at h
 .cases h
 rename_i b hbd;have a3:∀(x:X) (s':St),(x= .normal\/x= .ret)->jb (wv tab C lim n) C lim b (Kf fn.ntmps os post g (Qo fn.ntmps l os.length))=some (x,s')->RN C fn s' os.length=some (res,os',g,Qo fn.ntmps l os.length)->Calls C.P f (.pointer (some ⟨g,0,none⟩)::vs2).toArray w λe w'=>∃v,e= .returned v/\BelowX ⟨w.heap.size,Qn l⟩ w w'/\
  ∃F':Nat->Prop,(∀x,F x->F' x)/\(∀x,F' x->x<w'.heap.size/\(F x\/Own ⟨w.heap.size,Qn l⟩ x))/\vO w' F' res v/\HasO C.P w' F' os' l:=by
  intro x s' hx hr a0;refine calls_of_wp hf hbd (M1 (λe a' w' hp=>?_) (yc hm (λf as rs h=>z9 hm htab n f as rs h) lim b _ s' x _ w hr (TX hb a1 h2 hL hg hok)));obtain⟨he,hh⟩:=hp;have a2:=finQ hh (ja hfl) hL.prog hL.inj hL.lt (λi hi=>VU hL hi) (λi hi=>TU hL hok hi) a0;rcases hx with rfl|rfl
  .have he:e= .normal:=he;subst he;exact a2
  .have he:e= .ret:=he;subst he;exact a2
 split at h
 .rename_i s' hr;exact a3 _ _ (.inl rfl) hr h
 .rename_i s' hr;exact a3 _ _ (.inr rfl) hr h
 .cases h
end
omit [Env] in
theorem TY {C:Cx} {fn:Func} {st st':St} {g c t m:Nat} {ps:List (Nat×Nat×Nat×Nat)} {as:List A} {os':List Obj} (h:SmE g c t ps st st') (he:RN C fn st m=some (as,os',0,RM ps)):RN C fn st' m=some (as,os',g,ps):=by
 unfold RN at he ⊢;rw[h.resD,h.ob];split at he
 .cases he
 rename_i as' has;obtain⟨a,b,r,e1,e2,h0⟩:=h.tm;have n1:nth .any st.tmps 0=a:=by rw[e1];rfl
 have n2:nth .any st'.tmps 0=b:=by rw[e2];rfl
 rw[n1]at he;rw[n2];rcases h0 with⟨rfl,ha⟩|⟨k,⟨rfl,rfl⟩|⟨rfl,rfl⟩|⟨rfl,rfl⟩⟩
 .split at he
  .simp[Ft]at ha
  .cases he
 .cases he
 .cases he
 .simp only at he ⊢;split at he
  .simp only[dc,dl]at he;obtain⟨rfl,rfl,_⟩:=he;rfl
  .cases he
omit [Env] in
theorem TZ {tab:Nat->List A->Option (List A)} {C:Cx} {lim n f:Nat} {os os':List Obj} {post as:List A} {ps:List (Nat×Nat×Nat×Nat)} (hm:k9 0 (HB C f)=false) (h:HG tab C lim n f os post 0 (RM ps)=some (as,os',0,RM ps)) (g:Nat):HG tab C lim n f os post g ps=some (as,os',g,ps):=by
 unfold HG at h ⊢;unfold HB at hm;split at h
 .cases h
 rename_i fn hf;rw[hf]at hm;simp only at hm;split at h
 .cases h
 rename_i b hbd;rw[hbd]at hm;simp only at hm;have h0:SmE g 0 0 ps (Kf fn.ntmps os post 0 (RM ps)) (Kf fn.ntmps os post g ps):=⟨⟨_,_,_,rfl,rfl,.inr ⟨_,.inr (.inr ⟨rfl,rfl⟩)⟩⟩,rfl,rfl⟩;have:=kR (K:=wv tab C lim n) (C:=C) (n:=lim) (b:=b) (Kd hm) h0;revert this h;cases jb (wv tab C lim n) C lim b (Kf fn.ntmps os post 0 (RM ps))with
 |none=>intro h;cases h
 |some x=>
  obtain⟨x,s1⟩:=x;cases jb (wv tab C lim n) C lim b (Kf fn.ntmps os post g ps)with
  |none=>intro _ h;exact h.elim
  |some y=>
   obtain⟨y,s2⟩:=y;intro h;rintro⟨rfl,h2⟩;cases x with
   |normal=>exact TY h2 h
   |ret=>exact TY h2 h
   |exit i=>cases h
def yK (ob:List Obj):List Nat->List Nat
 |[]=>[]
 |k::r=>(match nth .none ob k with
  | .vec cs=>k::jS cs
  |_=>[k])++yK ob r
def KO:List Nat->Nat->Nat
 |[],_=>0
 |a::r,k=>match cv k a with
  |true=>0
  |false=>KO r k+1
def WN:List Nat->Bool
 |[]=>true
 |a::r=>!k9 a r&&WN r
def jR (ob:List Obj):List Nat->List Obj
 |[]=>[]
 |k::r=>nth .none ob k::jR ob r
def La:Obj->Obj->Bool
 | .box _,.box _=>true
 | .vec _,.vec _=>true
 | .arr s es _,.arr s' es' _=>cv s s'&&cv es.length es'.length
 |_,_=>false
def WO:List Obj->List Obj->Bool
 |[],[]=>true
 |o::l,o'::l'=>La o o'&&WO l l'
 |_,_=>false
def HH (ks:List Nat):List Nat->List Obj->List (Nat×Obj)
 |k::r,o::l=>(k,Jq (λi=>nth 0 ks i) o)::HH ks r l
 |_,_=>[]
def OG (run:List Obj->List A->Option (List A×List Obj)) (ks:List Nat) (al:List A) (ob:List Obj):R:=
 match WN ks&&KN (λj=>k9 j ks) (jR ob ks)with
 |true=>match run (v7 (KO ks) (jR ob ks)) al with
  |some (rs,os')=>match z8 rs&&(KN (ltB ks.length) os'&&WO (jR ob ks) os')with
   |true=> .ok (ZC rs) (HH ks ks os')
   |false=> .fail
  |none=> .fail
 |false=> .fail
def Fy (run:List Obj->List A->Option (List A×List Obj)) (_:Option Nat) (vs:List V) (ob:List Obj):R:=
 match vs with
 | .box k 0::r=>match nth .none ob k,j5 ob r with
  | .box cells,some (al,[])=>OG run (k::yK ob (jS cells)) al ob
  |_,_=> .fail
 |_=> .fail
omit [Env] in
theorem WP {l:List Nat} (h:WN l=true):∀{i j:Nat},i<l.length->j<l.length->nth 0 l i=nth 0 l j->i=j:=by
 induction l with
 |nil=>intro i j hi;simp at hi
 |cons a l ih=>
  intro i j hi hj e;simp only[WN,Hy,I0]at h;have a0:∀k,k<l.length->nth 0 l k≠a:=λk hk e=>by have:=Kd h.1;exact this (e▸qT hk)
  cases i with
  |zero=>
   cases j with
   |zero=>rfl
   |succ j=>exact absurd e.symm (a0 j (by simpa using hj))
  |succ i=>
   cases j with
   |zero=>exact absurd e (a0 i (by simpa using hi))
   |succ j=>rw[ih h.2 (by simpa using hi) (by simpa using hj) e]
omit [Env] in
theorem jj {k:Nat}:∀{l:List Nat},k∈l->KO l k<l.length/\nth 0 l (KO l k)=k
 |a::l,h=>by
  unfold KO;split
  .rename_i e;exact⟨by simp,(cc e).symm⟩
  .rename_i e;rcases Sz.1 h with rfl|h
   .rw[Nat.beq_refl]at e;cases e
   .obtain⟨h1,h2⟩:=jj h;exact⟨by simpa using h1,h2⟩
omit [Env] in
theorem zo {ob:List Obj}:∀{l:List Nat},(jR ob l).length=l.length
 |[]=>rfl
 |_::l=>by simp only[jR,W0];rw[zo]
omit [Env] in
theorem jH {ob:List Obj}:∀{l:List Nat} {i:Nat},i<l.length->nth .none (jR ob l) i=nth .none ob (nth 0 l i)
 |_::l,0,_=>rfl
 |_::l,i+1,h=>jH (l:=l) (by simpa using h)
omit [Env] in
theorem Zc:∀{l l':List Obj},WO l l'=true->l.length=l'.length
 |[],[],_=>rfl
 |_::_,_::_,h=>by simp only[WO,Hy]at h;simp[Zc h.2]
 |[],_::_,h=>by cases h
 |_::_,[],h=>by cases h
omit [Env] in
theorem WQ:∀{l l':List Obj} {i:Nat},WO l l'=true->i<l.length->La (nth .none l i) (nth .none l' i)=true
 |_::_,_::_,0,h,_=>by simp only[WO,Hy]at h;exact h.1
 |_::l,_::l',i+1,h,hi=>by simp only[WO,Hy]at h;exact WQ (l:=l) (l':=l') h.2 (by simpa using hi)
 |[],_,_,_,hi=>absurd hi (by simp)
 |_::_,[],_,h,_=>by cases h
omit [Env] in
theorem QW {ks:List Nat}:∀{l:List Nat} {os:List Obj} {p:Nat×Obj},p∈HH ks l os->∃i,i<l.length/\i<os.length/\p.1=nth 0 l i/\p.2=Jq (λi=>nth 0 ks i) (nth .none os i)
 |[],_,_,h=>by simp[HH]at h
 |_::_,[],_,h=>by simp[HH]at h
 |k::l,o::os,p,h=>by
  rcases Sz.1 h with rfl|h
  .exact⟨0,by simp,by simp,rfl,rfl⟩
  .obtain⟨i,h1,h2,h3,h4⟩:=QW h;exact⟨i+1,by simpa using h1,by simpa using h2,h3,h4⟩
omit [Env] in
theorem Gb {ks:List Nat}:∀{l:List Nat} {os ob:List Obj} {i:Nat},WN l=true->(∀k∈l,k<ob.length)->i<l.length->i<os.length->nth .none (upds ob (HH ks l os)) (nth 0 l i)=Jq (λi=>nth 0 ks i) (nth .none os i)
 |[],_,_,_,_,_,h,_=>by simp at h
 |_::_,[],_,_,_,_,_,h=>by simp at h
 |k::l,o::os,ob,i,hd,hl,hi,ho=>by
  simp only[WN,Hy,I0]at hd;simp only[HH,upds];cases i with
  |zero=>
   show nth Lm (upds (upd ob k (Jq (λi=>nth 0 ks i) o)) (HH ks l os)) k=Jq (λi=>nth 0 ks i) o;rw[xz _ _ λp hp e=>?_,qb _ _ _ (hl k (by simp))]
   .obtain⟨j,h1,_,h3,_⟩:=QW hp;exact Kd hd.1 (by rw[<-e,h3];exact qT h1)
  |succ i=>exact Gb (l:=l) (os:=os) hd.2 (λk hk=>by rw[qj];exact hl k (by simp[hk])) (by simpa using hi) (by simpa using ho)
section
variable {C:Cx} {B:Bd} {F0:Nat->Prop} {w0:World} {F:Nat->Prop} {loc:Where} {st:St} {a:Act} {w:World}
def Ur (C:Cx) (loc:Where) (ks:List Nat):Where:=⟨C.P,λi=>if i<ks.length then loc (nth 0 ks i)else none,λi=>loc.ty (nth 0 ks i)⟩
theorem Conc.lend {ks:List Nat} (h:Conc C B F0 w0 F loc st a w) (hd:WN ks=true) (hok:KN (λj=>k9 j ks) (jR st.objs ks)=true):HasO C.P w F (v7 (KO ks) (jR st.objs ks)) (Ur C loc ks):=by
 have a1:∀i,i<ks.length->KO ks (nth 0 ks i)=i:=λi hi=>by obtain⟨h1,h2⟩:=jj (qT (d:=0) hi);exact WP hd h1 hi h2
 have hn:∀i,i<ks.length->nth .none (v7 (KO ks) (jR st.objs ks)) i=Jq (KO ks) (nth .none st.objs (nth 0 ks i)):=λi hi=>by rw[kt,jH hi]
 have a0:∀i,i<ks.length->okO (λj=>k9 j ks) (nth .none st.objs (nth 0 ks i))=true:=λi hi=>by
  have:=zh hok _ (qT (d:= .none) (l:=jR st.objs ks) (i:=i) (by rw[zo];exact hi))
  rwa [jH hi]at this
 have hl:∀i,i<ks.length->Ur C loc ks i=loc (nth 0 ks i):=λi hi=>if_pos hi
 refine⟨rfl,λi=>?_,λi i' b c c' h1 h2=>?_,λi b c h1=>?_⟩
 .by_cases hi:i<ks.length
  .rw[hn i hi];have:=CO.mapo (l1:=loc) (l2:=Ur C loc ks) (r:=KO ks) (p:=λj=>k9 j ks) (objs2:=v7 (KO ks) (jR st.objs ks)) h.prog.symm (λk hk=>?_) (k:=nth 0 ks i) (by rw[a1 i hi];exact hl i hi) (λ_=>by rw[a1 i hi];rfl) (a0 i hi) (h.objs _)
   .rwa [a1 i hi]at this
   .obtain⟨h1,h2⟩:=jj (xk.1 hk);refine⟨λs es fz hh=>?_,λhh=>?_,?_,?_⟩
    .rw[hn _ h1,h2]at hh;exact yI.1 hh
    .rw[hn _ h1,h2,yJ]at hh;exact hh
    .rw[hl _ h1,h2]
    .rw[hn _ h1];exact kr (QE (a0 _ h1))
  .rw[qC _ (by rw[vo,Ts,zo];omega)];exact if_neg hi
 .have h1:(if i<ks.length then loc (nth 0 ks i)else none)=some (b,c):=h1;have h2:(if i'<ks.length then loc (nth 0 ks i')else none)=some (b,c'):=h2;split at h1
  .split at h2
   .exact WP hd ‹_› ‹_› (h.inj _ _ _ _ _ h1 h2)
   .cases h2
  .cases h1
 .have h1:(if i<ks.length then loc (nth 0 ks i)else none)=some (b,c):=h1;split at h1
  .exact(h.fresh _ _ _ h1).2
  .cases h1
theorem Conc.turnedQ {dst:Option Nat} {ks:List Nat} {os':List Obj} {w':World} {F':Nat->Prop} {v:V} {x:Value} (h:Conc C B F0 w0 F loc st a w) (hd:WN ks=true) (hok:KN (λj=>k9 j ks) (jR st.objs ks)=true)
 (hbel:BelowX ⟨w.heap.size,Qn (Ur C loc ks)⟩ w w') (hF1:∀x,F x->F' x) (hF2:∀x,F' x->x<w'.heap.size/\(F x\/Own ⟨w.heap.size,Qn (Ur C loc ks)⟩ x)) (hL:HasO C.P w' F' os' (Ur C loc ks)) (hok':KN (ltB ks.length) os'=true) (hs:WO (jR st.objs ks) os'=true)
 (hnF:∀i,i<ks.length->∀b c,loc (nth 0 ks i)=some (b,c)->¬F b)
 (hv:∀(loc:Where) (objs:List Obj),CV loc objs w' F' v x/\Ref objs v):Lr C B F0 w0 (st.put dst v (HH ks ks os')) (a.put dst x) w':=by
 have hlen:os'.length=ks.length:=by rw[<-Zc hs,zo]
 have a5:∀i,i<ks.length->okO (λj=>k9 j ks) (nth .none st.objs (nth 0 ks i))=true:=λi hi=>by
  have:=zh hok _ (qT (d:= .none) (l:=jR st.objs ks) (i:=i) (by rw[zo];exact hi))
  rwa [jH hi]at this
 have hlt:∀k∈ks,k<st.objs.length:=λk hk=>by obtain⟨h1,h2⟩:=jj hk;have:=QE (a5 _ h1);rw[h2]at this;exact qW this
 have a0:∀i,i<ks.length->okO (ltB ks.length) (nth .none os' i)=true:=λi hi=>zh hok' _ (qT (by omega))
 have a2:∀i,i<ks.length->nth .none (upds st.objs (HH ks ks os')) (nth 0 ks i)=Jq (λi=>nth 0 ks i) (nth .none os' i):=λi hi=>Gb hd hlt hi (by omega)
 have a1:∀k,k∉ks->nth .none (upds st.objs (HH ks ks os')) k=nth .none st.objs k:=λk hk=>xz _ _ λp hp e=>by obtain⟨i,h1,_,h3,_⟩:=QW hp;exact hk (by rw[<-e,h3];exact qT h1)
 have a7:∀i,i<ks.length->La (nth .none st.objs (nth 0 ks i)) (nth .none os' i)=true:=λi hi=>by
  have:=WQ hs (i:=i) (by rw[zo];exact hi)
  rwa [jH hi]at this
 have hl:∀i,i<ks.length->Ur C loc ks i=loc (nth 0 ks i):=λi hi=>if_pos hi
 have hX:∀b,Qn (Ur C loc ks) b->∃i c,i<ks.length/\loc (nth 0 ks i)=some (b,c):=λb hb=>by
  obtain⟨i,c,h1⟩:=hb;have h1:(if i<ks.length then loc (nth 0 ks i)else none)=some (b,c):=h1;split at h1
  .exact⟨i,c,‹_›,h1⟩
  .cases h1
 have a6:Le st.objs (upds st.objs (HH ks ks os')) loc loc:=by
  refine⟨rfl,λ_ _=>rfl,λk hk=>?_,λk o' hk ho hb=>⟨?_,rfl⟩,λk s es' fz' hk ho=>⟨?_,rfl⟩⟩
  .by_cases hm:k∈ks
   .obtain⟨h1,h2⟩:=jj hm;rw[<-h2,a2 _ h1];exact kr (QE (a0 _ h1))
   .rw[a1 k hm];exact hk
  .by_cases hm:k∈ks
   .obtain⟨h1,h2⟩:=jj hm;have h3:=a7 _ h1;rw[<-h2,a2 _ h1]at ho;rw[<-ho,yJ]at hb;rw[h2]at h3;revert h3 hb;cases nth Lm st.objs k<;>cases nth Lm os' (KO ks k)<;>simp[La,xD]
   .rw[<-a1 k hm,ho];exact hb
  .by_cases hm:k∈ks
   .obtain⟨h1,h2⟩:=jj hm;have h3:=a7 _ h1;rw[<-h2,a2 _ h1]at ho;have ho:=yI.1 ho;rw[h2,ho]at h3;revert h3;cases hob:nth Lm st.objs k with
    |arr s0 es0 fz0=>intro h3;simp only[La,Hy]at h3;obtain rfl:=cc h3.1;exact⟨es0,fz0,rfl,(cc h3.2).symm⟩
    |_=>intro h3;cases h3
   .rw[a1 k hm]at ho;exact⟨es',fz',ho,rfl⟩
 have a4:=hbel.size;have ad:∀x,F x->w'.heap[x]? =w.heap[x]? :=λx hx=>hbel.block x (h.bound x hx) λe=>by obtain⟨i,c,h1,h2⟩:=hX _ e;exact hnF i h1 _ _ h2 hx
 have a3:∀x,Own ⟨w.heap.size,Qn (Ur C loc ks)⟩ x->Own B x:=λx hx=>by
  rcases hx with hx|hx
  .exact .inl (c3 h.hB hx)
  .obtain⟨i,c,h1,h2⟩:=hX _ hx;exact(h.fresh _ _ _ h2).1
 have hbw:BelowX B w w':=⟨hbel.os,hbel.tape,hbel.output,hbel.size,λj hj hjX=>hbel.block j (cp hj h.hB) λhx=>by
  rcases a3 j (.inr hx)with h1|h1
  .omega
  .exact hjX h1⟩
 refine⟨F',loc,h.step (up:=HH ks ks os') hF1 ad a6 (h.below.trans hbw) (by have:=h.hB;omega) (λj=>?_) h.inj (λj x y hj=>⟨(h.fresh _ _ _ hj).1,cp (h.fresh _ _ _ hj).2 a4⟩) (λx hx=>(hF2 x hx).1) (λx hx=>?_) (hv _ _).1 (hv loc _).2⟩
 .by_cases hm:j∈ks
  .obtain⟨h1,h2⟩:=jj hm;rw[<-h2,a2 _ h1];refine CO.mapo (l1:=Ur C loc ks) (l2:=loc) (objs1:=os') (r:=λi=>nth 0 ks i) (p:=ltB ks.length) h.prog (λk hk=>?_) (hl _ h1).symm (λ_=>rfl) (a0 _ h1) (hL.objs _);have hk:k<ks.length:=by have:=c2 hk;omega
   refine⟨λs es fz hh=>?_,λhh=>?_,(hl k hk).symm,?_⟩
   .rw[a2 k hk]at hh;exact yI.1 hh
   .rw[a2 k hk,yJ]at hh;exact hh
   .rw[a2 k hk];exact kr (QE (a0 k hk))
  .rw[a1 j hm];refine CO.le hF1 ad a6 rfl rfl (λx y hj=>?_) (h.objs j);have hx:¬Qn (Ur C loc ks) x:=λe=>by obtain⟨i,c,h1,h2⟩:=hX _ e;exact hm (h.inj _ _ _ _ _ hj h2▸qT h1)
   refine⟨hbel.block x (h.fresh _ _ _ hj).2 hx,λhnF2 hF'=>?_⟩;rcases(hF2 x hF').2 with h1|h1|h1
   .exact hnF2 h1
   .have h1:w.heap.size<=x:=h1;have:=(h.fresh _ _ _ hj).2;omega
   .exact hx h1
 .rcases(hF2 x hx).2 with h1|h1
  .exact h.fsub x h1
  .exact .inr (a3 x h1)
theorem B2 {f:Nat} {fn:Func} {run:List Obj->List A->Option (List A×List Obj)} (hf:C.P.funcs[f]? =some fn) (hb:fn.body≠none) (hn:fn.name≠ "runtime.NumGoroutine")
 (hrun:∀os al rs os',KN (ltB os.length) os=true->z8 rs=true->run os al=some (rs,os')->YZ C f os al rs os'):EffAtC C f (Fy run):=by
 refine⟨λ{B F0 w0 F loc st a w dst args ts ty pos after g} hc=>?_,λdst vs ob ob' hh hd=>?_,λdst vs ob hv hbb=>?_⟩
 .unfold Fy;split
  .rename_i k r b2;split
   .rename_i a0 al hk bl;unfold OG;generalize hks:k::yK st.objs (jS a0)=ks;split
    .rename_i a3;simp only[Hy]at a3;obtain⟨ba,ag⟩:=a3;split
     .rename_i rs os' hr;split
      .rename_i a2;simp only[Hy]at a2;obtain⟨bd,ad,bc⟩:=a2;intro next Q hnx
       obtain⟨x0,xs,bs⟩:∃x0 xs,args.toList=x0::xs:=by
        cases h:args.toList with
        |nil=>rw[h]at b2;simp at b2
        |cons x0 xs=>exact⟨x0,xs,rfl⟩
       rw[bs]at b2;simp only[V1,bF]at b2;obtain⟨hx0,rfl⟩:=b2;obtain⟨hfz,b3⟩:=jZ hc bl (js hc xs);obtain⟨F',ap,hF',hb'⟩:=hc.freezes hfz st.dirty;have an:=b3 F' hF' hb';have bm:=(qU hc x0).1;rw[hx0]at bm;obtain⟨b1,c1,r1,r2⟩:=bm _ hk rfl;have hL:=ap.lend (ks:=ks) ba ag;have a7:nth 0 ks 0=k:=by rw[<-hks];rfl
       have hl0:0<ks.length:=by rw[<-hks];simp
       have bb:KN (ltB (v7 (KO ks) (jR st.objs ks)).length) (v7 (KO ks) (jR st.objs ks))=true:=by
        have hV:∀l:List V,Uq (λj=>k9 j ks) l=true->Uq (ltB ks.length) (Ke (KO ks) l)=true:=by
         intro l;have hlt:∀j,k9 j ks=true->ltB ks.length (KO ks j)=true:=λj hj=>by have:=(jj (xk.1 hj)).1;exact Nat.ble_eq_true_of_le this
         induction l with
         |nil=>intro _;rfl
         |cons v l ih=>intro h;simp only[Uq,Hy]at h;simp only[Ke,Uq,Hy];refine⟨?_,ih h.2⟩;have h1:=h.1;cases v<;>first|exact hlt _ h1|exact h1
        have hO:∀l:List Obj,KN (λj=>k9 j ks) l=true->KN (ltB ks.length) (v7 (KO ks) l)=true:=by
         intro l
         induction l with
         |nil=>intro _;rfl
         |cons o l ih=>intro h;simp only[KN,Hy]at h;simp only[v7,KN,Hy];refine⟨?_,ih h.2⟩;have h1:=h.1;cases o<;>first|exact hV _ h1|exact h1|(rename_i fz;cases fz<;>exact h1)
        rw[vo,Ts,zo,<-vo];exact hO _ ag
       have hG:=hrun _ _ _ _ bb bd hr;have a4:=hG w F' (xs.map a.eval) (Ur C loc ks) b1 c1 ap.bound ap.inv an hL (by
        show(if 0<ks.length then loc (nth 0 ks 0)else none)=some (b1,c1);rw[if_pos hl0,a7];exact r1)
       have a5:(M3 (some ⟨b1,0,none⟩)::xs.map a.eval).toArray=args.map a.eval:=by apply Bx;rw[Aw,bs];simp[r2]
       rw[a5]at a4;refine zg hf hb hn a4 λe w' he=>?_
       obtain⟨v,rfl,b4,F2,h1,h2,h3,h4⟩:=he;refine⟨_,rfl,hnx _ _ ?_⟩;have h6:=ap.turnedQ (dst:=dst) (ks:=ks) (v:=ZC rs) (x:=v) ba ag b4 h1 h2 h4 ad bc (λi hi b c hbc=>?_) (λloc objs=>ZZ h3)
       .exact xc h6 rfl rfl
       .have b5:=ap.objs (nth 0 ks i);have a1:=zh ag _ (qT (d:= .none) (l:=jR st.objs ks) (i:=i) (by rw[zo];exact hi));rw[jH hi]at a1;have b5:CO loc st.objs w F' (nth 0 ks i) (nth .none st.objs (nth 0 ks i)):=b5;revert b5 a1;cases nth Lm st.objs (nth 0 ks i)with
        |none=>intro h;cases h
        |dead=>intro h;cases h
        |bld _ _=>intro h;cases h
        |box a0=>rintro _ ⟨b',c',_,_,q1,q2,_⟩;rw[hbc]at q1;cases q1;exact q2
        |vec a0=>rintro _ ⟨b',c',_,_,q1,q2,_⟩;rw[hbc]at q1;cases q1;exact q2
        |arr s es fz=>
         rintro be ⟨_,_,_,q4⟩;rcases q4 with⟨_,q5⟩|⟨b',c',_,_,q1,q2,_⟩
         .subst q5;cases fz<;>cases be
         .rw[hbc]at q1;cases q1;cases fz with
          |true=>cases be
          |false=>exact q2
      .trivial
     .trivial
    .trivial
   .trivial
  .trivial
 .unfold Fy;cases vs with
  |nil=>rfl
  |cons v r=>
   cases v with
   |box k off=>
    cases off with
    |succ _=>rfl
    |zero=>
     have b6:∀j,j∈jQ ob ((Lv k 0::r).flatMap qh)->nth .none ob j=nth .none ob' j:=λj hj=>hh j (jV hj)
     have a7:k∈(Lv k 0::r).flatMap qh:=Pl.2 ⟨.box k 0,by simp,by simp[qh]⟩;have h0:nth .none ob k=nth .none ob' k:=b6 k (j6 a7);have h1:j5 ob r=j5 ob' r:=z7 (c:=2) λv hv k hk=> .inl (b6 k (j6 (Pl.2 ⟨v,by simp[hv],hk⟩)))
     simp only[<-h0,<-h1];split
     .rename_i a0 al a6 hal;have hc1:∀j∈jS a0,j∈jQ ob ((Lv k 0::r).flatMap qh):=λj hj=>by rw[qq];refine⟨k,a7,.inr ?_⟩;rw[a6];obtain⟨u,hu,hj⟩:=(ze).1 hj;exact⟨u,hu,hj⟩
      have hq:∀l:List Nat,(∀j∈l,j∈jQ ob ((Lv k 0::r).flatMap qh))->yK ob l=yK ob' l/\∀j∈yK ob l,nth .none ob j=nth .none ob' j:=by
       intro l
       induction l with
       |nil=>intro _;exact⟨rfl,λj hj=>by simp[yK]at hj⟩
       |cons i l ih=>
        intro hl;obtain⟨i1,i2⟩:=ih λj hj=>hl j (by simp[hj])
        have e:=b6 i (hl i (by simp));refine⟨by simp only[yK];rw[<-e,i1],λj hj=>?_⟩;simp only[yK,Tk]at hj;rcases hj with hj|hj
        .split at hj
         .rename_i cs b0;rcases Sz.1 hj with rfl|hj
          .exact e
          .refine hh j ?_;unfold wC;rw[qq];refine⟨i,hl i (by simp),.inr ?_⟩;rw[b0];obtain⟨u,hu,hj⟩:=ze.1 hj;exact⟨u,hu,hj⟩
         .simp only[P1]at hj;subst hj;exact e
        .exact i2 j hj
      obtain⟨q1,q2⟩:=hq _ hc1;rw[<-q1];have hK:∀l:List Nat,(∀j∈l,nth .none ob j=nth .none ob' j)->jR ob l=jR ob' l:=by
       intro l
       induction l with
       |nil=>intro _;rfl
       |cons i l ih=>intro hl;simp only[jR];rw[hl i (by simp),ih λj hj=>hl j (by simp[hj])]
      unfold OG;rw[hK (k::yK ob (jS a0)) λj hj=>by
       rcases Sz.1 hj with rfl|hj
       .exact h0
       .exact q2 j hj]
     .rfl
   |_=>rfl
 .unfold Fy;split
  .rename_i k r;split
   .rename_i a0 al hk bl;unfold OG;generalize hks:k::yK ob (jS a0)=ks;split
    .rename_i a3;simp only[Hy]at a3;obtain⟨ba,ag⟩:=a3;split
     .rename_i rs os' hr;split
      .rename_i a2;simp only[Hy]at a2;obtain⟨bd,ad,bc⟩:=a2;have bh:∀j∈ks,nth .none ob j≠ .none:=λj hj=>by obtain⟨h1,h2⟩:=jj hj;have:=zh ag _ (qT (d:= .none) (l:=jR ob ks) (i:=KO ks j) (by rw[zo];exact h1));rw[jH h1,h2]at this;exact QE this
       have hlen:os'.length=ks.length:=by rw[<-Zc bc,zo]
       have a7:k∈(Lv k 0::r).flatMap qh:=Pl.2 ⟨.box k 0,by simp,by simp[qh]⟩;have hin:∀j∈ks,j∈wC ob ((Lv k 0::r).flatMap qh):=λj hj=>by
        rw[<-hks]at hj;have hB:∀i,i∈jS a0->i∈jQ ob ((Lv k 0::r).flatMap qh):=λi hi=>by rw[qq];refine⟨k,a7,.inr ?_⟩;rw[hk];obtain⟨u,hu,hi⟩:=ze.1 hi;exact⟨u,hu,hi⟩
        rcases Sz.1 hj with rfl|hj
        .exact jV (j6 a7)
        .have hq:∀l:List Nat,(∀i∈l,i∈jS a0)->j∈yK ob l->j∈wC ob ((Lv k 0::r).flatMap qh):=by
          intro l
          induction l with
          |nil=>intro _ h;simp[yK]at h
          |cons i l ih=>
           intro hl h;simp only[yK,Tk]at h;rcases h with h|h
           .split at h
            .rename_i cs b0;rcases Sz.1 h with rfl|h
             .exact jV (hB _ (hl _ (by simp)))
             .unfold wC;rw[qq];refine⟨i,hB i (hl i (by simp)),.inr ?_⟩;rw[b0];obtain⟨u,hu,h⟩:=ze.1 h;exact⟨u,hu,h⟩
            .simp only[P1]at h;subst h;exact jV (hB _ (hl _ (by simp)))
           .exact ih (λi hi=>hl i (by simp[hi])) h
         exact hq _ (λi hi=>hi) hj
       refine⟨λp hp=>?_,λj hj=>by rw[km]at hj;simp at hj⟩;obtain⟨i,h1,h2,h3,h4⟩:=QW hp;have bg:nth 0 ks i∈ks:=qT h1;have a1:=zh ad _ (qT (d:= .none) h2);refine⟨.inr ⟨by rw[h3];exact hin _ bg,by rw[h3];exact bh _ bg⟩,by rw[h4];exact kr (QE a1),λu hu j hj=>?_⟩;refine .inl (bh j ?_);rw[h4]at hu;have hV:∀cs:List V,Uq (ltB ks.length) cs=true->u∈Ke (λi=>nth 0 ks i) cs->j∈ks:=λcs b0 hu=>by
        rw[kT]at hu;obtain⟨v,hv,rfl⟩:=U0.1 hu;have hv:=QV b0 v hv;cases v with
        |arr m=>simp only[Up,qh,P1]at hj;subst hj;exact qT (c2 hv)
        |vec m n=>simp only[Up,qh,P1]at hj;subst hj;exact qT (c2 hv)
        |c d=>simp[Up,qh]at hj
        |nilS=>simp[Up,qh]at hj
        |_=>cases hv
       revert a1 hu;cases nth Lm os' i with
       |box cs=>intro a1 hu;exact hV cs a1 hu
       |vec cs=>intro a1 hu;exact hV cs a1 hu
       |arr s es fz=>intro _ hu;simp[Jq,qQ]at hu
       |_=>intro h;cases h
      .trivial
     .trivial
    .trivial
   .trivial
  .trivial
end
def Gc:List (Nat×Nat×Nat×Nat)->List (Nat×Nat×Nat×Nat)->Bool
 |[],[]=>true
 |(a,b,c,d)::r,(a',b',c',d')::r'=>cv a a'&&(cv b b'&&(cv c c'&&(cv d d'&&Gc r r')))
 |_,_=>false
omit [Env] in
theorem WR:∀{l l':List (Nat×Nat×Nat×Nat)},Gc l l'=true->l=l'
 |[],[],_=>rfl
 |(a,b,c,d)::r,(a',b',c',d')::r',h=>by simp only[Gc,Hy]at h;obtain⟨h1,h2,h3,h4,h5⟩:=h;rw[cc h1,cc h2,cc h3,cc h4,WR h5]
 |[],_::_,h=>by cases h
 |_::_,[],h=>by cases h
def Gd (C:Cx) (f:Nat):Nat:=
 match C.P.funcs[f]? with
 |some fn=>fn.ntmps
 |none=>0
noncomputable def runQ (tab:Nat->List A->Option (List A)) (C:Cx) (f:Nat) (os:List Obj) (al:List A):Option (List A×List Obj):=
 match HG tab C 1000 40 f os al 0 (TW (Gd C f) os.length)with
 |some (rs,os',0,ps)=>match Gc ps (TW (Gd C f) os.length)&&!k9 0 (HB C f)with
  |true=>some (rs,os')
  |false=>none
 |_=>none
noncomputable def Fz (tab:Nat->List A->Option (List A)) (C:Cx) (f:Nat):Option Nat->List V->List Obj->R:=Fy (runQ tab C f)
theorem Kg {C C':Cx} [EffOk C] {tab:Nat->List A->Option (List A)} (hm:C.P.follows .mixedOrders=true) (htab:∀f as rs,tab f as=some rs->Gives C f as rs) (hP:C'.P=C.P) (hG:C'.G=C.G) {f:Nat} {fn:Func} (hf:C'.P.funcs[f]? =some fn) (hb:fn.body≠none) (hn:fn.name≠ "runtime.NumGoroutine"):EffAtC C' f (Fz tab C f):=by
 refine B2 hf hb hn λos al rs os' hok hfl hr=>TV hP hG ?_
 rw[hP]at hf;unfold runQ at hr;split at hr
 .rename_i rs1 os1 ps a0;split at hr
  .rename_i hc;simp only[dc,dl]at hr;obtain⟨rfl,rfl⟩:=hr;simp only[Hy,I0]at hc;obtain⟨h1,h4⟩:=hc;obtain rfl:=WR h1;have hnt:Gd C f=fn.ntmps:=by unfold Gd;rw[hf]
   rw[hnt]at a0;refine OF (lim:=1000) (n:=40) hm htab hf hfl hok λl g=>TZ h4 ?_ g
   rw[Ga];exact a0
  .cases hr
 .cases hr
end Eng
end
