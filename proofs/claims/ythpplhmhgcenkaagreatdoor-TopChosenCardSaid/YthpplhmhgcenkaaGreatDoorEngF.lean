import Derived.Test.YthpplhmhgcenkaaGreatDoorEngE
import Derived.LoopN
open Eng.St renaming has->Aw
open Go.Code renaming wp_mono->Bx
open List renaming length_map->Dd, mem_map->Hu
open Nat renaming eq_of_beq_eq_true->Hv, beq->Hx, mul_one->Hy
section
namespace Eng
open Go Go.RowKit
def gL (k n:Nat) (d:D):V->V
 | .vec j m=>match Hx j k with
  |true=>match Hx m n with
   |true=> .c d
   |false=> .any
  |false=> .vec j m
 |v=>v
def gM (k:Nat) (st:St):St:=
 match nth .none st.objs k with
 | .vec cells=>match OE cells with
  |some cs=>match dataC st.objs cs with
   |some (ds,us)=>match Qy k (jz us [])with
    |true=>st
    |false=>⟨st.tmps.map (gL k cells.length (.sl (ds.map λd=>[d]))),upd (upds st.objs us) k .dead,st.dirty⟩
   |none=>st
  |none=>st
 |_=>st
def gN (x:Operand):List Oper->Operand
 |[]=>x
 |o::r=>match o.dst,x,o.op with
  |some d,.tmp t,.move y=>match Hx d t with
   |true=>y
   |false=>gN x r
  |_,_,_=>gN x r
def gO (ops:List Oper):List Operand->St->St
 |[],st=>st
 |x::r,st=>gO ops r (match ev st (gN x ops)with
  | .vec k _=>gM k st
  |_=>st)
def gP (ops:List Oper):List Oper->St->St
 |[],st=>st
 |o::r,st=>gP ops r (match ST o with
  |true=>gO ops o.op.operands.toList st
  |false=>st)
section
variable [Env] {C:Cx} {B:Bd} {F0:Nat->Prop} {w0:World}
omit [Env] in
theorem G2 {α β:Type} {R S:α->β->Prop}:∀{as:List α} {bs:List β},All2 R as bs->All2 S as bs->All2 (λa b=>R a b/\S a b) as bs
 |[],[],_,_=>trivial
 |_::_,_::_,h,k=>⟨⟨h.1,k.1⟩,G2 h.2 k.2⟩
 |[],_::_,h,_=>h.elim
 |_::_,[],h,_=>h.elim
theorem Conc.more {F:Nat->Prop} {loc:Where} {st:St} {a:Act} {w:World} {b0:Nat} (h:Conc C B F0 w0 F loc st a w) (ho:Own B b0) (hs:b0<w.heap.size) (hn:∀j c,loc j≠some (b0,c)):
 Conc C B F0 w0 (λb=>F b\/b=b0) loc st a w:=by
 have hF:∀b,F b->F b\/b=b0:=λ_ h=> .inl h
 refine⟨h.prog,h.below,h.hB,h.defers,h.tmps.mono_mem λv hv x hx=>CV.le hF (λ_ _=>rfl) (Le.refl _ _) (h.refs v hv) hx,h.refs,λk=>?_,h.inj,h.fresh,λb hb=>?_,λb hb=>?_,λb hb=> .inl (h.fsup b hb),h.inv.mono hF λ_ _=>rfl⟩
 .refine CO.le hF (λ_ _=>rfl) (Le.refl _ _) rfl rfl (λb c hb=>⟨rfl,λh1 h2=>?_⟩) (h.objs k);rcases h2 with h2|rfl
  .exact h1 h2
  .exact hn _ _ hb
 .rcases hb with hb|rfl
  .exact h.bound b hb
  .exact hs
 .rcases hb with hb|rfl
  .exact h.fsub b hb
  .exact .inr ho
theorem Py {k:Nat} {st:St} {a:Act} {w:World} (hh:Aw C B F0 w0 st a w):Aw C B F0 w0 (gM k st) a w:=by
 unfold gM;split
 .rename_i a0 hk;split
  .rename_i cs hcs;split
   .rename_i ds us hds;split
    .exact hh
    rename_i ad;obtain⟨F,b1,h⟩:=hh;have a6:=h.objs k;rw[hk]at a6;obtain⟨b0,c0,vs,t,a3,hnF,a5,hsz,hlc,a4,an,_⟩:=a6;have ag:(vs.toList.take a0.length).length=a0.length:=by simp;omega
    have al:∀j,j<a0.length->nth undef (vs.toList.take a0.length) j=nth undef vs.toList j:=λj hj=>by rw[qu,qu,List.getElem?_take,if_pos hj]
    have h2:All2 (λv x=>CV b1 st.objs w F v x/\x.oneCell'=true) a0 (vs.toList.take a0.length):=ja .any undef ag.symm λj hj=>by
     obtain⟨u,q1,q2,q3⟩:=a4 j hj;have e:nth undef vs.toList j=u:=by rw[qu];simp[q1]
     rw[al j hj,e];exact⟨q2,q3⟩
    have h2':All2 (λv x=>CV b1 st.objs w F v x/\x.oneCell'=true) (cs.map VC.v) (vs.toList.take a0.length):=by rw[<-yg hcs];exact h2
    obtain⟨hfz,a1⟩:=yB h hds (JZ h2');obtain⟨F1,h3,hF1,hus⟩:=h.freezes hfz st.dirty;have a1:=a1 F1 hF1 hus;have a2:∀p∈us,p.1≠k:=λp hp e=>by have:Qy k (jz us [])=true:=xK.2 (jr.2 (.inr ⟨p,hp,e⟩));rw[this]at ad;cases ad
    have hk1:nth .none (upds st.objs us) k= .vec a0:=by rw[zg _ _ a2];exact hk
    have h4:=(h3.killO (k:=k) (by simp only;rw[hk1];simp) st.dirty).more (b0:=b0) (h.fresh _ _ _ a3).1 (h.fresh _ _ _ a3).2 λj c hj=>by
     simp only[kd]at hj;split at hj
     .cases hj
     .rename_i e;exact e (h.inj _ _ _ _ _ hj a3)
    have a1:=a1.mono λd x hd=>CD.mono (F':=λb=>F1 b\/b=b0) (w':=w) hd (λ_ h=> .inl h) λ_ _=>rfl
    have a7:=a1.length;rw[ag]at a7;have hf:∀l:List D,(l.map λd=>[d]).flatten=l:=λl=>by induction l with|nil=>rfl|cons _ _ ih=>simp[ih]
    have ap:=CD.sl (w:=w) (F:=λb=>F1 b\/b=b0) (ds.map λd=>[d]) b0 0 c0 1 (λj=>nth undef (vs.toList.take a0.length) j) (by rw[Dd];omega) (λe he=>by obtain⟨_,_,rfl⟩:=Hu.1 he;rfl) (.inr rfl) (λj hj=>by
     rw[Dd,Hy]at hj;rw[Nat.zero_add,xR a5,al j (by omega),qu];simp[show j<vs.size by omega]) (λj hj=>by
     rw[Dd,Hy]at hj;rw[hf];exact a1.nth .undef undef _ _ j hj)
    rw[Dd,a7]at ap;refine⟨_,_,h4.prog,h4.below,h4.hB,h4.defers,?_,?_,h4.objs,h4.inj,h4.fresh,h4.bound,h4.fsub,h4.fsup,h4.inv⟩
    .refine jA (λv hv x hx=>?_) (G2 h.tmps h4.tmps);obtain⟨q1,q2⟩:=hx;unfold gL;split
     .rename_i j m;split
      .rename_i e;obtain rfl:=Hv e;split
       .rename_i e;obtain rfl:=Hv e;obtain⟨b,c,r1,rfl⟩:=q1 _ hk rfl;rw[a3]at r1;simp only[Option.some.injEq,Prod.mk.injEq]at r1;obtain⟨rfl,rfl⟩:=r1;exact ap
       .trivial
      .exact q2
     .exact q2
    .intro v hv;obtain⟨u,hu,rfl⟩:=Hu.1 hv;have:=h4.refs u hu;unfold gL;split
     .split
      .split<;>trivial
      .exact this
     .exact this
   .exact hh
  .exact hh
 .exact hh
theorem G3 {ops:List Oper} {a:Act} {w:World}:∀(l:List Operand) {st:St},Aw C B F0 w0 st a w->Aw C B F0 w0 (gO ops l st) a w
 |[],_,h=>h
 |x::l,st,h=>by
  refine G3 l ?_;split
  .exact Py h
  .exact h
theorem G4 {ops:List Oper} {a:Act} {w:World}:∀(l:List Oper) {st:St},Aw C B F0 w0 st a w->Aw C B F0 w0 (gP ops l st) a w
 |[],_,h=>h
 |o::l,st,h=>by
  refine G4 l ?_;split
  .exact G3 _ h
  .exact h
end
def Iq (f:(X->St->Prop)->St->Prop):Nat->(X->St->Prop)->St->Prop
 |0,_,_=>False
 |k+1,Q,st=>f (λe s=>match e with
  | .normal=>Iq f k Q s
  | .exit i=>Q (.exit i) s
  | .ret=>Q .ret s) st
def wpU (C:Cx) (Gv:Nat->List A->List A->Prop) (anns:Nat->Ann) (un:Nat->Nat):Nat->Code->(X->St->Prop)->St->Prop
 |_,.skip,Q,st=>Q .normal st
 |n,.region id ops d,Q,st=>wpC C Gv anns n (.region id ops d) (λe s=>Q e (TS s)) (settleO C ops.toList (evict (Ul C ops.toList) (gP ops.toList ops.toList st)))
 |n,.seq a b,Q,st=>wpU C Gv anns un n a (λe s=>match e with
  | .normal=>wpU C Gv anns un (n+zU a) b Q s
  | .exit i=>Q (.exit i) s
  | .ret=>Q .ret s) st
 |n,.cond c x y,Q,st=>match ev st c with
  | .c d=>cnd (isB d) (br (toB d) (wpU C Gv anns un n x Q st) (wpU C Gv anns un (n+zU x) y Q st))
  |_=>False
 |n,.block id c,Q,st=>wpU C Gv anns un n c (λe s=>match e with
  | .normal=>Q .normal s
  | .exit i=>match Hx i id with
   |true=>Q .normal s
   |false=>Q (.exit i) s
  | .ret=>Q .ret s) st
 |_,.exit id,Q,st=>Q (.exit id) st
 |_,.ret,Q,st=>Q .ret st
 |n,.loop body,Q,st=>match un n with
  |0=>wpC C Gv anns n (.loop body) (λe s=>Q e (TS s)) st
  |k+1=>Iq (λQ st=>wpU C Gv anns un (n+1) body Q st) (k+1) Q st
 |_,_,_,_=>False
def Be (C:Cx) (Gv:Nat->List A->List A->Prop) (anns:Nat->Ann) (un:Nat->Nat) (fn:Func) (args:List A) (Q:List A->Prop):Prop:=
 match fn.body with
 |none=>False
 |some c=>wpU C Gv anns un 0 c (λe s=>match e with
  | .normal| .ret=>match resD C s fn.results.toList with
   |some as=>Q as
   |none=>False
  | .exit _=>False) (kn fn.ntmps args)
section
variable [Env] {C:Cx} {B:Bd} {F0:Nat->Prop} {w0:World}
def Ir (C:Cx) (B:Bd) (F0:Nat->Prop) (w0:World) (Q:X->St->Prop) (e:Exit) (a:Act) (w:World):Prop:=
 ∃x s',XM x e/\Q x s'/\Aw C B F0 w0 s' a w
theorem Is [EffOk C] (hm:C.P.follows .mixedOrders=true) {anns:Nat->Ann} {un:Nat->Nat}:∀(c:Code) (n:Nat) (Q:X->St->Prop) (s:St) (a:Act) (w:World),wpU C (Gives C) anns un n c Q s->Aw C B F0 w0 s a w->
 c.wp C.P (Ir C B F0 w0 Q) a w:=by
 intro c;have a1:∀(c:Code) (n:Nat) (Q:X->St->Prop) (s:St) (a:Act) (w:World),wpC C (Gives C) anns n c (λe s=>Q e (TS s)) s->Aw C B F0 w0 s a w->c.wp C.P (Ir C B F0 w0 Q) a w:=λc n Q s a w h hh=>by refine Bx (λe a' w' hp=>?_) (Gr hm c n _ s a w h hh);obtain⟨x,s',hx,hq,_,h'⟩:=hp;exact⟨x,TS s',hx,hq,xi h' rfl rfl⟩
 induction c with
 |skip=>intro n Q s a w h hh;exact wp_skip ⟨.normal,s,rfl,h,hh⟩
 |region id ops d=>intro n Q s a w h hh;exact a1 _ n Q _ a w h (yl _ (Zh _ (G4 _ hh)))
 |seq x y ihx ihy=>
  intro n Q s a w h hh;simp only[wpU]at h;refine wp_seq (Bx (λe a' w' hp=>?_) (ihx n _ s a w h hh));obtain⟨z,s',hz,hq,a0⟩:=hp;cases z with
  |normal=>have hz:e= .normal:=hz;subst hz;exact ihy _ _ s' a' w' hq a0
  |exit i=>have hz:e= .exit i:=hz;subst hz;exact⟨.exit i,s',rfl,hq,a0⟩
  |ret=>have hz:e= .ret:=hz;subst hz;exact⟨.ret,s',rfl,hq,a0⟩
 |cond cd x y ihx ihy=>
  intro n Q s a w h hh;simp only[wpU]at h;split at h
  .rename_i d hd;obtain⟨F,a2,hc⟩:=hh;have he:=(xb hc cd).1;rw[hd]at he;cases d with
   |bool b=>
    have hb:a.eval cd= .bool b:=(λ(x:Value) (hx:CD w F (.bool b) x)=>(by cases hx;rfl:x= .bool b)) _ he;refine wp_cond hb ?_;cases b with
    |true=>rw[if_pos rfl];exact ihx n Q s a w h ⟨F,a2,hc⟩
    |false=>rw[if_neg (by simp)];exact ihy _ Q s a w h ⟨F,a2,hc⟩
   |_=>exact h.elim
  .exact h.elim
 |block id x ih=>
  intro n Q s a w h hh;simp only[wpU]at h;refine wp_block (Bx (λe a' w' hp=>?_) (ih n _ s a w h hh));obtain⟨z,s',hz,hq,a0⟩:=hp;cases z with
  |normal=>have hz:e= .normal:=hz;subst hz;exact⟨.normal,s',rfl,hq,a0⟩
  |exit i=>
   have hz:e= .exit i:=hz;subst hz;simp only at hq;unfold Exit.inBlock;split at hq
   .rename_i hi;have:=Hv hi;simp only[this,if_true];exact⟨.normal,s',rfl,hq,a0⟩
   .rename_i hi;have:i≠id:=λe=>by subst e;simp at hi
    simp only[this,if_false];exact⟨.exit i,s',rfl,hq,a0⟩
  |ret=>have hz:e= .ret:=hz;subst hz;exact⟨.ret,s',rfl,hq,a0⟩
 |exit id=>intro n Q s a w h hh;exact wp_exit ⟨.exit id,s,rfl,h,hh⟩
 |ret=>intro n Q s a w h hh;exact wp_ret ⟨.ret,s,rfl,h,hh⟩
 |loop body ih=>
  intro n Q s a w h hh;simp only[wpU]at h;split at h
  .exact a1 _ n Q s a w h hh
  .rename_i k _;refine wp_loop_rounds (k+1) ?_;generalize k+1=m at h
   induction m generalizing s a w with
   |zero=>exact h.elim
   |succ m im=>
    rw[rounds_succ];refine Bx (λe a' w' hp=>?_) (ih (n+1) _ s a w h hh);obtain⟨z,s',hz,hq,a0⟩:=hp;cases z with
    |normal=>have hz:e= .normal:=hz;subst hz;exact im s' a' w' a0 hq
    |exit i=>have hz:e= .exit i:=hz;subst hz;exact⟨.exit i,s',rfl,hq,a0⟩
    |ret=>have hz:e= .ret:=hz;subst hz;exact⟨.ret,s',rfl,hq,a0⟩
 |_=>intro n Q s a w h hh;exact h.elim
theorem Zp [EffOk C] {anns:Nat->Ann} {un:Nat->Nat} {f:Nat} {fn:Func} {args res:List A} (hm:C.P.follows .mixedOrders=true) (hf:C.P.funcs[f]? =some fn) (h:Be C (Gives C) anns un fn args (λr=>r=res)):Gives C f args res:=by
 intro w F vs hb a2 a0;unfold Be at h;split at h
 .exact h.elim
 rename_i c hc;refine calls_of_wp hf hc ?_;refine Bx (λe a' w' hp=>?_) (Is hm c 0 _ _ _ _ h (vw hb a2 a0));obtain⟨x,s',hx,hq,hh⟩:=hp;have a3:∀as,resD C s' fn.results.toList=some as->as=res->_:=λas a1 he=>Yg (fn:=fn) hh (he▸a1)
 cases x with
 |normal=>
  have hx:e= .normal:=hx;subst hx;simp only at hq;split at hq
  .rename_i as a1;exact a3 as a1 hq
  .exact hq.elim
 |ret=>
  have hx:e= .ret:=hx;subst hx;simp only at hq;split at hq
  .rename_i as a1;exact a3 as a1 hq
  .exact hq.elim
 |exit i=>exact hq.elim
end
end Eng
end
