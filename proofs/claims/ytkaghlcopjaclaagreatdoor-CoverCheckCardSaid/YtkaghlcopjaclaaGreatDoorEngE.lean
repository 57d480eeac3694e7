import Derived.Test.YtkaghlcopjaclaaGreatDoorEngD
open Go.Value renaming pointer->B0
open List renaming mem_flatMap->Dd, replicate->Gv, mem_map->Hu, mem_append->Hv
open Nat renaming eq_of_beq_eq_true->Hx, lt_of_lt_of_le->Hy
open Option.some renaming injEq->HZ
section
namespace Eng
open Go Go.RowKit
section
variable {g c t:Nat}
end
end Eng
end
section
namespace Eng
open Go Go.RowKit
structure LentP (w:World) (F:Nat->Prop) (g:Nat) (cs:Array Value) (ds:List D) (t:TypeId):Prop where
 nF:¬F g
 lt:g<w.heap.size
 blk:w.heap[g]? =some (.cells cs t (0,0))
 cd:All2 (CD w F) ds cs.toList
def ox (w:World) (F:Nat->Prop) (g:Nat) (res:List A) (ds':List D) (v:Value) (w':World):Prop:=
 BelowX ⟨w.heap.size,λb=>b=g⟩ w w'/\∃(F':Nat->Prop) (cs:Array Value) (t:TypeId),(∀x,F x->F' x)/\(∀x,F' x->x<w'.heap.size/\(F x\/Own ⟨w.heap.size,λb=>b=g⟩ x))/\Pz w' F' res v/\LentP w' F' g cs ds' t
def Uj (C:Cx) (f:Nat) (ds:List D) (post res:List A) (ds':List D):Prop:=
 ∀(w:World) (F:Nat->Prop) (vs2:List Value) (g:Nat) (cs:Array Value) (t:TypeId),(∀b,F b->b<w.heap.size)->Inv C F w->All2 (CA w F) post vs2->LentP w F g cs ds t->
  Calls C.P f (.pointer (some ⟨g,0,none⟩)::vs2).toArray w λe w'=>∃v,e= .returned v/\ox w F g res ds' v w'
theorem Bt{C C':Cx}(hP:C'.P=C.P)(hG:C'.G=C.G){f:Nat}{ds ds':List D}{post res:List A}(h:Uj C f ds post res ds'):Uj C' f ds post res ds':=by
 intro w F vs2 g cs t hb hi h2 hl;rw[hP];exact h w F vs2 g cs t hb (Ug hG.symm hi) h2 hl
def PJ (n:Nat) (ds:List D) (post:List A) (g:Nat):St:=
 ⟨.boxAt (TP n) g::(post.map cG++Gv (n-(1+post.length)) .any),upd (Gv (n+8) .none) (TP n) (.box (ds.map V.c)),[]⟩
def oy (C:Cx) (fn:Func) (st:St):Option (List A×List D×Nat):=
 match Lg C st fn.results.toList with
 |none=>none
 |some as=>match nth .any st.tmps 0 with
  | .boxAt k g=>match Nat.beq k (TP fn.ntmps),nth .none st.objs (TP fn.ntmps)with
   |true,.box cells=>match qC cells with
    |some ds=>some (as,ds,g)
    |none=>none
   |_,_=>none
  |_=>none
def l6 (tab:Nat->List A->Option (List A)) (C:Cx) (lim n f:Nat) (ds:List D) (post:List A) (g:Nat):Option (List A×List D×Nat):=
 match C.P.funcs[f]? with
 |none=>none
 |some fn=>match fn.body with
  |none=>none
  |some b=>match Jo (EQ tab C lim n) C lim b (PJ fn.ntmps ds post g)with
   |some (.normal,st)=>oy C fn st
   |some (.ret,st)=>oy C fn st
   |_=>none
section
variable {C:Cx}
theorem Bu{n g:Nat}{ds:List D}{post:List A}{vs2:List Value}{w:World}{F:Nat->Prop}{cs:Array Value}{t:TypeId}(hb:∀b,F b->b<w.heap.size)(hinv:Inv C F w)(h2:All2 (CA w F) post vs2)(hL:LentP w F g cs ds t):
 St.has C ⟨w.heap.size,λb=>b=g⟩ F w (PJ n ds post g) {tmps:=(B0 (some ⟨g,0,none⟩)::vs2).toArray++Array.replicate (n-(B0 (some ⟨g,0,none⟩)::vs2).toArray.size) undef,defers:=[]} w:=by
 have hl2:=h2.length;have hkl:TP n<(Gv (n+8) Obj.none).length:=by simp[TP]
 have hn:∀k,nth .none (upd (Gv (n+8) Obj.none) (TP n) (.box (ds.map V.c))) k=if k=TP n then .box (ds.map V.c)else .none:=λk=>by
  by_cases hk:TP n=k
  .subst hk;rw[qc _ _ _ hkl,if_pos rfl]
  .rw[qb _ _ _ hk,YU,if_neg (Ne.symm hk)]
 have a4:∀(ds:List D) (vs:List Value) (a6:Where) (a3:List Obj),All2 (CD w F) ds vs->All2 (λv x=>CV a6 a3 w F v x/\x.oneCell'=true) (ds.map V.c) vs:=by
  intro ds
  induction ds with
  |nil=>intro vs a6 a3 a5;cases vs with|nil=>trivial|cons _ _=>exact a5.elim
  |cons d ds ih=>intro vs a6 a3 a5;cases vs with|nil=>exact a5.elim|cons y vs=>exact⟨⟨a5.1,a5.1.one⟩,ih vs a6 a3 a5.2⟩
 refine⟨F,⟨C.P,λk=>if k=TP n then some (g,0)else none,λ_=>0⟩,⟨rfl,BelowX.refl _ _,Nat.le_refl _,rfl,?_,λv hv=>?_,λk=>?_,?_,?_,hb,λb h=> .inl h,λ_ h=>h,hinv⟩⟩
 .simp only[PJ,Array.toList_append,Array.toList_replicate,List.size_toArray,List.cons_append];refine⟨?_,XA (KP h2) ?_⟩
  .intro o _ _;exact⟨⟨0,by simp⟩,rfl⟩
  .have e:(B0 (some ⟨g,0,none⟩)::vs2).length=1+post.length:=by simp only[List.length_cons];omega
   rw[e];exact JJ trivial _
 .simp only[PJ,Hv,List.mem_cons,Hu,List.mem_replicate]at hv;rcases hv with rfl|⟨x,_,rfl⟩|⟨_,rfl⟩
  .intro hc;have hc:nth Obj.none (upd (Gv (n+8) Obj.none) (TP n) (.box (ds.map V.c))) (TP n)=Obj.none:=hc
   grind
  .exact JI x
  .trivial
 .simp only[PJ];rw[hn];split
  .rename_i e;exact⟨g,0,cs,t,by simp[e],hL.nF,hL.blk,a4 _ _ _ _ hL.cd,λv hv=>by obtain⟨_,_,rfl⟩:=Hu.1 hv;trivial⟩
  .rename_i e;show(if k=TP n then some (g,0)else none)=none;rw[if_neg e]
 .intro k k' b c c' q1 q2;simp only at q1 q2;split at q1
  .split at q2
   .rename_i e1 e2;rw[e1,e2]
   .simp at q2
  .simp at q1
 .intro k b c q1;simp only at q1;split at q1
  .simp only[HZ,Prod.mk.injEq]at q1;obtain⟨rfl,rfl⟩:=q1;exact⟨.inr rfl,hL.lt⟩
  grind
theorem finP{fn:Func}{w:World}{F:Nat->Prop}{g:Nat}{st:St}{a':Act}{w':World}{res:List A}{ds':List D}{cells:List V}{k:Nat}(hh:St.has C ⟨w.heap.size,λb=>b=g⟩ F w st a' w')(hfl:∀r∈res,Vr r=true)(has:Lg C st fn.results.toList=some res)(h0:nth .any st.tmps 0= .boxAt k g)(hk:k=TP fn.ntmps)(hob:nth .none st.objs (TP fn.ntmps)= .box cells)(hds:qC cells=some ds'):
 a'.defers=[]/\∃v,(results fn a'.tmps).run C.P w'= .ok v w'/\∃v',Ending.returned v= .returned v'/\ox w F g res ds' v' w':=by
 subst hk;obtain⟨F',a4,a3⟩:=hh;obtain⟨hd,v,hv1,hv2⟩:=FC a3 has hfl;have a5:=(wP a3 0).1;rw[h0]at a5;obtain⟨⟨cg,q1⟩,q2⟩:=a5 _ hob rfl;have a6:=a3.objs (TP fn.ntmps);rw[hob]at a6;obtain⟨gb,cb,cs,t',p1,p2,p3,p4,p5⟩:=a6;rw[p1]at q1;obtain⟨rfl,rfl⟩:=q1;exact⟨hd,v,hv1,v,rfl,a3.below,F',cs,t',a3.fsup,λx hx=>⟨a3.bound x hx,a3.fsub x hx⟩,hv2 F',p2,(a3.fresh _ _ _ p1).2,p3,za (loc:=a4) (objs:=st.objs) hds (p4.mono λ_ _ h=>h.1)⟩
theorem FD[EffOk C]{tab:Nat->List A->Option (List A)}{lim:Nat}(hm:C.P.follows .mixedOrders=true)(htab:∀f as rs,tab f as=some rs->qa C f as rs){n f:Nat}{ds ds':List D}{post res:List A}(hfl:QS res=true)(h:∀g,l6 tab C lim n f ds post g=some (res,ds',g)):Uj C f ds post res ds':=by
 intro w F vs2 g cs t hb a4 h2 hL;have h:=h g;unfold l6 at h;split at h
 .simp at h
 rename_i fn hf;split at h
 .simp at h
 rename_i b hbd;have key:∀(x:X) (s':St),(x= .normal\/x= .ret)->Jo (EQ tab C lim n) C lim b (PJ fn.ntmps ds post g)=some (x,s')->oy C fn s'=some (res,ds',g)->Calls C.P f (.pointer (some ⟨g,0,none⟩)::vs2).toArray w λe w'=>∃v,e= .returned v/\ox w F g res ds' v w':=by
  intro x s' hx hr a3;refine calls_of_wp hf hbd (Code.wp_mono (λe a' w' hp=>?_) (L8 hm (λf as rs h=>YY hm htab n f as rs h) lim b _ s' x _ w hr (Bu hb a4 h2 hL)));obtain⟨he,hh⟩:=hp;have a5:a'.defers=[]/\∃v,(results fn a'.tmps).run C.P w'= .ok v w'/\∃v',Ending.returned v= .returned v'/\ox w F g res ds' v' w':=by
   unfold oy at a3;split at a3
   .grind
   grind [HZ,Prod.mk.injEq,finP,Z9,Hx]
  rcases hx with rfl|rfl
  .have he:e= .normal:=he;subst he;exact a5
  .have he:e= .ret:=he;subst he;exact a5
 grind
variable {B:Bd}{F0:Nat->Prop}{w0:World}{F:Nat->Prop}{loc:Where}{st:St}{a:Act}{w:World}
theorem Conc.turnedP{dst:Option Nat}{k g c0:Nat}{cells:List V}{ds':List D}{cs:Array Value}{t:TypeId}{w':World}{F':Nat->Prop}{v:V}{x:Value}{us:List (Nat×Obj)}(h:Conc C B F0 w0 F loc st a w)(hk:nth .none st.objs k= .box cells)(hl:loc k=some (g,c0))(hnF:¬F g)(hbel:BelowX ⟨w.heap.size,λb=>b=g⟩ w w')(hF1:∀x,F x->F' x)(hF2:∀x,F' x->x<w'.heap.size/\(F x\/Own ⟨w.heap.size,λb=>b=g⟩ x))(hL:LentP w' F' g cs ds' t)(hus:us=[(k,.box (ds'.map V.c))])(hv:∀(loc:Where) (objs:List Obj),CV loc objs w' F' v x/\Ref objs v):St.has C B F0 w0 (st.put dst v us) (a.put dst x) w':=by
 subst hus;have hkl:k<st.objs.length:=xO (by rw[hk];simp);have a7:Le st.objs (upd st.objs k (.box (ds'.map V.c))) loc loc:=ax hk;have a5:=hbel.size;have a8:∀x,F x->w'.heap[x]? =w.heap[x]? :=λx hx=>hbel.block x (h.bound x hx) λe=>by have e:x=g:=e;exact hnF (e▸hx)
 have hfr:=h.fresh _ _ _ hl;have a6:∀x,Own ⟨w.heap.size,λb=>b=g⟩ x->Own B x:=λx hx=>by
  rcases hx with hx|hx
  .exact .inl (Nat.le_trans h.hB hx)
  grind
 have hbw:BelowX B w w':=⟨hbel.os,hbel.tape,hbel.output,hbel.size,λj hj hjX=>hbel.block j (Hy hj h.hB) λhx=>by
  rcases a6 j (.inr hx)with h1|h1
  .omega
  .exact hjX h1⟩
 have a3:∀(ds:List D) (vs:List Value) (loc:Where) (objs:List Obj),All2 (CD w' F') ds vs->All2 (λv x=>CV loc objs w' F' v x/\x.oneCell'=true) (ds.map V.c) vs:=by
  intro ds
  induction ds with
  |nil=>intro vs loc objs a4;cases vs with|nil=>trivial|cons _ _=>exact a4.elim
  |cons d ds ih=>intro vs loc objs a4;cases vs with|nil=>exact a4.elim|cons y vs=>exact⟨⟨a4.1,a4.1.one⟩,ih vs loc objs a4.2⟩
 refine⟨F',loc,h.step (up:=[(k,.box (ds'.map V.c))]) hF1 a8 a7 (h.below.trans hbw) (by have:=h.hB;omega) (λj=>?_) h.inj (λj x y hj=>⟨(h.fresh _ _ _ hj).1,Hy (h.fresh _ _ _ hj).2 a5⟩) (λx hx=>(hF2 x hx).1) (λx hx=>?_) (hv _ _).1 (hv loc _).2⟩
 .show CO _ (upd st.objs k (.box (ds'.map V.c))) _ _ _ (nth .none (upd st.objs k (.box (ds'.map V.c))) j);by_cases hkj:k=j
  .subst hkj;rw[qc _ _ _ hkl];exact⟨g,c0,cs,t,hl,hL.nF,hL.blk,a3 _ _ _ _ hL.cd,λv hv=>by obtain⟨_,_,rfl⟩:=Hu.1 hv;trivial⟩
  .rw[qb _ _ _ hkj];refine CO.le hF1 a8 a7 rfl rfl (λx y hj=>?_) (h.objs j);have hx:x≠g:=λe=>by subst e;exact hkj (h.inj _ _ _ _ _ hl hj)
   refine⟨hbel.block x (h.fresh _ _ _ hj).2 hx,λhnF2 hF'=>?_⟩;rcases(hF2 x hF').2 with h1|h1|h1
   .exact hnF2 h1
   .have h1:w.heap.size<=x:=h1;have:=(h.fresh _ _ _ hj).2;omega
   grind
 .rcases(hF2 x hx).2 with h1|h1
  .exact h.fsub x h1
  grind
end
def Bv (chk:List D->List A->Bool) (mk:List D->List A->List D) (res:List D->List A->List A) (_:Option Nat) (vs:List V) (ob:List Obj):R:=
 match vs with
 | .box k off::r=>match nth .none ob k,yx ob r with
  | .box cells,some (al,us)=>match Nat.beq off 0&&!V6 k (L9 us),qC cells with
   |true,some ds=> .cond (chk ds al=true) (Ht (res ds al)) (us++[(k,.box ((mk ds al).map V.c))])
   |_,_=> .fail
  |_,_=> .fail
 |_=> .fail
section
variable {C:Cx}
theorem FE{f:Nat}{fn:Func}{chk:List D->List A->Bool}{mk:List D->List A->List D}{res:List D->List A->List A}(hf:C.P.funcs[f]? =some fn)(hb:fn.body≠none)(hn:fn.name≠ "runtime.NumGoroutine")(hmk:∀ds al,chk ds al=true->Uj C f ds al (res ds al) (mk ds al)):EffAt C f (Bv chk mk res):=by
 refine⟨λ{B F0 w0 F loc st a w dst args ts ty pos after g} hc=>?_,λdst vs ob ob' hh hd=>?_,λdst vs ob hv _=>?_⟩
 .unfold Bv;split
  .rename_i k ad r a8;split
   .rename_i a3 al us hk b3;split
    .rename_i ds a9 hds;simp only[Bool.and_eq_true,Bool.not_eq_true']at a9;obtain rfl:=Hx a9.1;have hku:¬∃p∈us,p.1=k:=λh=>by have:=zq.2 (XF.2 h);rw[this]at a9;simp at a9
     intro hck next Q hnx
     have hG:=hmk ds al hck;obtain⟨x0,xs,b6⟩:∃x0 xs,args.toList=x0::xs:=by
      cases h:args.toList with
      |nil=>rw[h]at a8;simp at a8
      |cons x0 xs=>exact⟨x0,xs,rfl⟩
     rw[b6]at a8;simp only[List.map_cons,List.cons.injEq]at a8;obtain⟨hx0,rfl⟩:=a8;obtain⟨b2,ag⟩:=QJ hc b3 (vP hc xs);obtain⟨F',a7,hF',hb'⟩:=hc.freezes b2 st.dirty;have a6:=ag F' hF' hb';have b5:=(xg hc x0).1;rw[hx0]at b5;have b4:nth .none (upds st.objs us) k= .box a3:=by rw[jg _ _ λp hp e=>hku ⟨p,hp,e⟩];exact hk
     have ap:=a7.objs k;simp only at ap;rw[b4]at ap;obtain⟨gb,c0,cs0,t0,q5,q6,q7,q8,q9⟩:=ap;obtain⟨b1,c1,r1,r2⟩:=b5 _ hk rfl;have h6:loc k=some (gb,c0):=q5;rw[h6]at r1;simp only[HZ,Prod.mk.injEq]at r1;obtain⟨rfl,rfl⟩:=r1;have a4:=hG w F' (xs.map a.eval) gb cs0 t0 a7.bound a7.inv a6 ⟨q6,(a7.fresh _ _ _ q5).2,q7,za (objs:=upds st.objs us) hds (q8.mono λ_ _ h=>h.1)⟩;have a5:(B0 (some ⟨gb,0,none⟩)::xs.map a.eval).toArray=args.map a.eval:=by apply Array.ext';rw[Array.toList_map,b6];simp[r2]
     rw[a5]at a4;refine kK hf hb hn a4 λe w' he=>?_
     obtain⟨v,rfl,an,F2,cs,t,h1,h2,h3,h4⟩:=he;refine⟨_,rfl,hnx _ _ ?_⟩;have h6:=a7.turnedP (dst:=dst) (k:=k) (ds':=mk ds al) (v:=Ht (res ds al)) (x:=v) b4 q5 q6 an h1 h2 h4 rfl (λloc objs=>Ns h3);refine xE h6 rfl ?_;show upds (upds st.objs us) [(k,.box ((mk ds al).map V.c))]=upds st.objs (us++[(k,.box ((mk ds al).map V.c))]);rw[zI us]
    .trivial
   .trivial
  .trivial
 .unfold Bv;cases vs with
  |nil=>rfl
  |cons v r=>
   cases v with
   |box k ad=>
    have h0:nth .none ob k=nth .none ob' k:=hh k (by
     rw[qE];exact⟨k,Dd.2 ⟨.box k ad,by simp,by simp[qn]⟩,.inl rfl⟩)
    have h1:yx ob r=yx ob' r:=wa (c:=2) λv hv k hk=> .inl (hh k (by
     rw[qE];exact⟨k,Dd.2 ⟨v,by simp[hv],hk⟩,.inl rfl⟩))
    simp only[h0,h1]
   |_=>rfl
 .unfold Bv;split
  .rename_i k ad r;split
   .rename_i a3 al us hk b3;split
    .have b2:=vR b3;refine⟨λp hp=>?_,λj hj=>by rw[X5]at hj;simp at hj⟩;rcases Hv.1 hp with hp|hp
     .obtain⟨⟨v,hv1,hv2⟩,s',es',fz,h1,h2⟩:=b2 p hp;refine⟨.inr ⟨?_,by rw[h1];simp⟩,by rw[h2];simp,λu hu=>by rw[h2]at hu;simp[qZ]at hu⟩;rw[qE];exact⟨p.1,Dd.2 ⟨v,by simp[hv1],hv2⟩,.inl rfl⟩
     .simp only[List.mem_singleton]at hp;subst hp;refine⟨.inr ⟨?_,by rw[hk];simp⟩,by simp,λu hu=>?_⟩
      .rw[qE];exact⟨k,Dd.2 ⟨.box k ad,by simp,by simp[qn]⟩,.inl rfl⟩
      .obtain⟨_,_,rfl⟩:=Hu.1 (show u∈List.map V.c _ from hu);intro j hj;simp[qn]at hj
    .trivial
   .trivial
  .trivial
end
end Eng
end
section
namespace Eng
open Go Go.RowKit
abbrev EffG:=Option Nat->List V->List Obj->R
def dB:List V->Bool
 | .c (.sl [])::_=>true
 | .nilS::_=>true
 |_=>false
def effIf (e1 e2:EffG) (dst:Option Nat) (vs:List V) (ob:List Obj):R:=
 match dB vs with
 |true=>e1 dst vs ob
 |false=>e2 dst vs ob
def LA (C:Cx) (f:Nat) (chk:List A->Bool) (res:List A->List A) (_:Option Nat) (vs:List V) (ob:List Obj):R:=
 match vI C ob f vs with
 | .call _ as sh up=>match zN sh||QS (res as)with
  |true=> .cond (chk as=true) (Ht (res as)) up
  |false=> .fail
 |_=> .fail
section
variable {C:Cx}
theorem Uk{ob:List Obj}{f f':Nat}{vs:List V}{as:List A}{sh:List (Bool×List Value)}{up:List (Nat×Obj)}(h:vI C ob f vs= .call f' as sh up):f'=f/\∃us,yx ob vs=some (as,us)/\(up=us\/up=[]):=by
 unfold vI at h;split at h
 .simp at h
 split at h
 .simp at h
 split at h
 .rename_i as' us sh' h1 _;split at h
  .simp only[R.call.injEq]at h;obtain⟨rfl,rfl,rfl,rfl⟩:=h;exact⟨rfl,_,h1,.inl rfl⟩
  .simp only[R.call.injEq]at h;obtain⟨rfl,rfl,rfl,rfl⟩:=h;exact⟨rfl,_,h1,.inr rfl⟩
 .simp at h
theorem FF{f:Nat}{chk:List A->Bool}{res:List A->List A}(hmk:∀al,chk al=true->qa C f al (res al)):EffAt C f (LA C f chk res):=by
 refine⟨λ{B F0 w0 F loc st a w dst args ts ty pos after g} hc=>?_,λdst vs ob ob' hh hd=>?_,λdst vs ob hv hb=>?_⟩
 .have h1:=Lo (dst:=dst) (ty:=ty) (pos:=pos) (after:=after) (g:=g) (f:=f) (cal:= .func f) (args:=args) (ts:=ts) hc rfl;unfold LA;revert h1;cases hr:vI C st.objs f (args.toList.map (ev st))with
  |call f' as sh up=>
   intro h1;simp only;obtain⟨rfl,_⟩:=Uk hr;cases hs:(zN sh||QS (res as))with
   |false=>trivial
   |true=>
    intro hck next Q hn
    refine h1 (res as) (hmk as hck) (λh0=>Z9 ?_) next Q hn
    simpa [h0]using hs
  |_=>intro _;trivial
 .unfold LA;have h1:yx ob vs=yx ob' vs:=wa (c:=2) λv hv k hk=> .inl (hh k (by
   rw[qE];exact⟨k,Dd.2 ⟨v,hv,hk⟩,.inl rfl⟩))
  have h2:vI C ob f vs=vI C ob' f vs:=by unfold vI;rw[h1]
  rw[h2]
 .unfold LA;split
  .rename_i f' as sh up hr;split
   .obtain⟨_,us,hto,hup⟩:=Uk hr;have hfz:=vR hto;refine⟨λp hp=>?_,λj hj=>by rw[X5]at hj;simp at hj⟩;rcases hup with rfl|rfl
    .obtain⟨⟨v,hv1,hv2⟩,s',es',fz,h1,h2⟩:=hfz p hp;refine⟨.inr ⟨?_,by rw[h1];simp⟩,by rw[h2];simp,λu hu=>by rw[h2]at hu;simp[qZ]at hu⟩;rw[qE];exact⟨p.1,Dd.2 ⟨v,hv1,hv2⟩,.inl rfl⟩
    .simp at hp
   .trivial
  .trivial
end
variable (tab:Nat->List A->Option (List A))(C:Cx)
end Eng
end
