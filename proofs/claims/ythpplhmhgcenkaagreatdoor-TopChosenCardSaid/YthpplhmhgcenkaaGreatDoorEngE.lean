import Derived.Test.YthpplhmhgcenkaaGreatDoorEngD
open Array renaming ext'->Aw, mapM_eq_mapM_toList->Bx, toList_map->Dd, toList_replicate->Hu, toList_append->Hv, replicate->Hx
open Bool renaming and_eq_true->Hy, not_eq_true'->I0
open Eng renaming settleO->I1, settle1->I2, evict1->I3, evict->J3, resD->J4
open Eng.Obj renaming none->Lm
open Eng.Obj.arr renaming injEq->Lr
open Eng.St renaming has->Ls, put->Lv
open Go.Code renaming wp_mono->M0
open Go.Ending renaming returned->M1
open Go.Sem renaming run_bind->M2
open Go.Value renaming slice->M3, pointer->No
open List renaming mem_flatMap->Pl, mem_singleton->P1, replicate->Sz, mem_append->Tk, mem_append_right->Ts, mem_cons->U0, mem_map->U3, size_toArray->V1, length_cons->W0, map_cons->W1, mem_replicate->W2, cons_append->ba, mem_of_mem_take->bb, mem_cons_of_mem->bc
open List.cons renaming injEq->bd
open Nat renaming eq_of_beq_eq_true->be, lt_of_lt_of_le->bh, beq->bm, le_trans->bs, le_refl->bv
open Ne renaming symm->bw
open Option.some renaming injEq->bx
open Prod.mk renaming injEq->b5
section
namespace Eng
open Go Go.RowKit
variable [Env]
def Kt (a b:Ann):Nat->Ann
 |0=>a
 |_=>b
def Pn (a b c:Ann):Nat->Ann
 |0=>a
 |1=>b
 |_=>c
def z9:List (List D)->Bool
 |[]=>true
 |e::r=>e.all Xe&&z9 r
omit [Env] in
theorem WR:∀{es:List (List D)},z9 es=true->∀d∈es.flatten,Xe d=true
 |[],_,d,hd=>by simp at hd
 |e::r,h,d,hd=>by
  simp only[z9,Hy]at h;simp only[List.flatten_cons,Tk]at hd;rcases hd with hd|hd
  .exact List.all_eq_true.1 h.1 d hd
  .exact WR h.2 d hd
def Ar (st:St) (rs:List ResultVar):Option (Nat×List (List D)):=
 match rs with
 |[.tmp t]=>match nth .any st.tmps t with
  | .arr k=>match nth .none st.objs k with
   | .arr s es false=>some (s,es)
   |_=>none
  |_=>none
 |_=>none
def As (st:St) (rs:List ResultVar):Option (Nat×List (List D)):=
 match Ar st rs with
 |some (s,es)=>match es with
  |[]=>none
  |_::_=>match z9 es with
   |true=>some (s,es)
   |false=>none
 |none=>none
omit [Env] in
theorem CE {st:St} {rs:List ResultVar} {s:Nat} {es:List (List D)} (h:Ar st rs=some (s,es)) (h1:es≠[]) (h2:z9 es=true):As st rs=some (s,es):=by
 unfold As;rw[h];cases es with
 |nil=>exact absurd rfl h1
 |cons e r=>simp only[h2]
def jn (C:Cx) (f:Nat) (args:List A) (s:Nat) (es:List (List D)):Prop:=
 ∀(w:World) (F:Nat->Prop) (vs:List Value),(∀b,F b->b<w.heap.size)->Inv C F w->All2 (CA w F) args vs->
  Calls C.P f vs.toArray w λe w'=>Below w.heap.size w w'/\∃b c cs t,e= .returned (.slice (some ⟨b,0,none⟩) es.length c)/\w.heap.size<=b/\b<w'.heap.size/\w'.heap[b]? =some (.cells cs t (0,0))/\cs.size=c*s/\(es.length<=c/\c<=9223372036854775807)/\
   roomS s es.length/\0<s/\(∀e∈es,e.length=s)/\C.P.cellsOf t=s/\∀j,j<es.length*s->∃v,cs[j]? =some v/\∀(w:World) (F:Nat->Prop),CD w F (nth .undef es.flatten j) v
theorem Zn {C C':Cx} (hG:C'.G=C.G) {F:Nat->Prop} {w:World} (h:Inv C F w):Inv C' F w:=λg cs hg=>h g cs (hG▸hg)
theorem qL {C C':Cx} (hP:C'.P=C.P) (hG:C'.G=C.G) {f:Nat} {as rs:List A} (h:Gives C f as rs):Gives C' f as rs:=by
 intro w F vs hb hi ha;rw[hP];exact h w F vs hb (Zn hG.symm hi) ha
theorem kU {C C':Cx} (hP:C'.P=C.P) (hG:C'.G=C.G) {f s:Nat} {as:List A} {es:List (List D)} (h:jn C f as s es):jn C' f as s es:=by
 intro w F vs hb hi ha;rw[hP];exact h w F vs hb (Zn hG.symm hi) ha
section
variable {C:Cx}
theorem CF {fn:Func} {w:World} {F:Nat->Prop} {s':St} {a':Act} {w':World} {s:Nat} {es:List (List D)} (hh:Ls C ⟨w.heap.size,λ_=>False⟩ F w s' a' w') (has:As s' fn.results.toList=some (s,es)):
 a'.defers=[]/\∃v,(results fn a'.tmps).run C.P w'= .ok v w'/\Below w.heap.size w w'/\∃b c cs t,M1 v= .returned (.slice (some ⟨b,0,none⟩) es.length c)/\w.heap.size<=b/\b<w'.heap.size/\w'.heap[b]? =some (.cells cs t (0,0))/\cs.size=c*s/\(es.length<=c/\c<=9223372036854775807)/\
  roomS s es.length/\0<s/\(∀e∈es,e.length=s)/\C.P.cellsOf t=s/\∀j,j<es.length*s->∃v,cs[j]? =some v/\∀(w:World) (F:Nat->Prop),CD w F (nth .undef es.flatten j) v:=by
 obtain⟨F',loc',h⟩:=hh;have a3:∃e r,es=e::r/\z9 es=true/\Ar s' fn.results.toList=some (s,es):=by
  unfold As at has;split at has
  .rename_i s1 es1 h1;split at has
   .simp at has
   .split at has
    .rename_i a4;simp only[bx,b5]at has;obtain⟨rfl,rfl⟩:=has;exact⟨_,_,rfl,a4,h1⟩
    .simp at has
  .simp at has
 obtain⟨e,r,rfl,a4,has⟩:=a3;unfold Ar at has;split at has
 .rename_i t hrs;split at has
  .rename_i k hk;split at has
   .rename_i s0 es0 a6
    ··simp only[bx,b5]at has;obtain⟨rfl,rfl⟩:=has;have hx:=(yd h t).1;simp only[Act.eval]at hx;rw[hk]at hx;have a2:=h.objs k;rw[a6]at a2;obtain⟨a1,hs0,a0,a2⟩:=a2;rcases hx _ _ _ a6 with⟨b,c,hl,hv⟩|⟨_,h0,_⟩
      .rcases a2 with⟨h4,_⟩|⟨b',c',cs,t',h4,h5,h6,h7,h8,h9,h10,h11⟩
       .rw[h4]at hl;simp at hl
       .rw[h4]at hl;simp only[bx,b5]at hl;obtain⟨rfl,rfl⟩:=hl;have a5:=h.fresh _ _ _ h4;refine⟨h.defers,.slice (some ⟨b',0,none⟩) (e::r).length c',?_,h.below.toBelow,b',c',cs,t',rfl,a5.1.elim id False.elim,a5.2,h6,h7,h8,a1,hs0,a0,by rw[<-h.prog];exact h10,λj hj=>?_⟩
        .have hr:fn.results= #[.tmp t]:=by apply Aw;simpa using hrs
         unfold results;rw[hr];have hv':a'.tmps[t]?.getD undef= .slice (some ⟨b',0,none⟩) (e::r).length c':=by rw[<-hv];simp
         simp[hv']
        .obtain⟨v,q1,q2⟩:=h9 j hj;refine⟨v,q1,λw F=>VX q2 (WR a4 _ ?_)⟩;rw[qm _ (by rw[qn a0];exact hj)];exact List.getElem_mem _
      .simp at h0
   .simp at has
  .simp at has
 .simp at has
def runFo (tab:Nat->List A->Option (List A)) (C:Cx) (lim n f:Nat) (args:List A):Option (Nat×List (List D)):=
 match C.P.funcs[f]? with
 |none=>none
 |some fn=>match fn.body with
  |none=>none
  |some c=>match jw (y5 tab C lim n) C lim c (kn fn.ntmps args)with
   |some (.normal,s)=>As s fn.results.toList
   |some (.ret,s)=>As s fn.results.toList
   |_=>none
def In (C:Cx) (Gv:Nat->List A->List A->Prop) (anns:Nat->Ann) (fn:Func) (args:List A) (Q:Nat->List (List D)->Prop):Prop:=
 match fn.body with
 |none=>False
 |some c=>wpC C Gv anns 0 c (λe s=>match e with
  | .normal| .ret=>match Ar s fn.results.toList with
   |some (k,es)=>(es≠[]/\z9 es=true)/\Q k es
   |none=>False
  | .exit _=>False) (kn fn.ntmps args)
theorem Yj [EffOk C] {anns:Nat->Ann} {f:Nat} {fn:Func} {args:List A} {s:Nat} {es:List (List D)} (hm:C.P.follows .mixedOrders=true) (hf:C.P.funcs[f]? =some fn) (h:In C (Gives C) anns fn args (λk r=>k=s/\r=es)):jn C f args s es:=by
 intro w F vs hb a2 a0;unfold In at h;split at h
 .exact h.elim
 rename_i c hc;refine calls_of_wp hf hc ?_;refine M0 (λe a' w' hp=>?_) (Gr hm c 0 _ _ _ _ h (vw hb a2 a0));obtain⟨x,s',hx,hq,_,hh⟩:=hp;have a3:∀k as,Ar s' fn.results.toList=some (k,as)->((as≠[]/\z9 as=true)/\k=s/\as=es)->_:=λk as a1 he=>CF (fn:=fn) hh (by rw[CE a1 he.1.1 he.1.2,he.2.1,he.2.2])
 cases x with
 |normal=>
  have hx:e= .normal:=hx;subst hx;simp only at hq;split at hq
  .rename_i k as a1;exact a3 k as a1 hq
  .exact hq.elim
 |ret=>
  have hx:e= .ret:=hx;subst hx;simp only at hq;split at hq
  .rename_i k as a1;exact a3 k as a1 hq
  .exact hq.elim
 |exit i=>exact hq.elim
def J2 (own:List A->Option (Nat×List (List D))) (dst:Option Nat) (vs:List V) (ob:List Obj):R:=
 match dst with
 |none=> .fail
 |some d=>match qy ob d,jV ob vs with
  |true,some (as,us)=>match own as with
   |some (s,es)=> .ok (.arr d) (us++[(d,.arr s es false)])
   |none=> .fail
  |_,_=> .fail
variable {B:Bd} {F0:Nat->Prop} {w0:World} {F:Nat->Prop} {loc:Where} {st:St} {a:Act} {w:World}
theorem Conc.adoptNew {dst:Option Nat} {d s b c:Nat} {es:List (List D)} {cs:Array Value} {t:TypeId} {w':World} (h:Conc C B F0 w0 F loc st a w) (hd:qy st.objs d=true) (hbel:Below w.heap.size w w')
 (hb1:w.heap.size<=b) (hb2:b<w'.heap.size) (hblk:w'.heap[b]? =some (.cells cs t (0,0))) (hsz:cs.size=c*s) (hlc:es.length<=c/\c<=9223372036854775807) (hroom:roomS s es.length) (hs0:0<s) (hlen:∀e∈es,e.length=s) (ht:C.P.cellsOf t=s)
 (hcd:∀j,j<es.length*s->∃v,cs[j]? =some v/\∀(w:World) (F:Nat->Prop),CD w F (nth .undef es.flatten j) v):
 Conc C B F0 w0 F (at_ loc d (b,c) t) (st.put dst (.arr d) [(d,.arr s es false)]) (a.put dst (.slice (some ⟨b,0,none⟩) es.length c)) w':=by
 obtain⟨a0,a1⟩:=qH hd;have hw:∀b,F b->w'.heap[b]? =w.heap[b]? :=λb hb=>hbel.block b (h.bound b hb)
 have a5:=hbel.size;have a4:Le st.objs (upd st.objs d (.arr s es false)) loc (at_ loc d (b,c) t):=by
  refine⟨rfl,λk hk=>by
   have:k≠d:=λe=>by subst e;exact absurd a0 hk
   simp[at_,this],λk hk=>?_,λk o' hk hc hbx=>?_,λk s a2 a3 hk hc=>?_⟩
  .by_cases hkd:d=k
   .subst hkd;exact absurd a0 hk
   .rw[qa _ _ _ hkd];exact hk
  .by_cases hkd:d=k
   .subst hkd;exact absurd a0 hk
   .rw[qa _ _ _ hkd]at hc;exact⟨by rw[hc];exact hbx,by simp[at_,bw hkd]⟩
  .by_cases hkd:d=k
   .subst hkd;exact absurd a0 hk
   .rw[qa _ _ _ hkd]at hc;exact⟨⟨_,_,hc,rfl⟩,by simp[at_,bw hkd]⟩
 refine h.step (up:=[(d,.arr s es false)]) (λ_ h=>h) hw a4 (h.below.trans (.of hbel h.hB)) (by have:=h.hB;omega) (λk=>?_) ?_ ?_ (λb hb=>by have:=h.bound b hb;omega) h.fsub ?_ ?_
 .show CO _ (upd st.objs d (.arr s es false)) _ _ _ (nth .none (upd st.objs d (.arr s es false)) k);by_cases hk:d=k
  .subst hk;rw[qb _ _ _ a1];refine⟨hroom,hs0,hlen,.inr ⟨b,c,cs,t,by simp[at_],λhF=>?_,hblk,hsz,hlc,λj hj=>?_,?_,by simp[at_]⟩⟩
   .have:=h.bound b hF;omega
   .obtain⟨v,q1,q2⟩:=hcd j hj;exact⟨v,q1,q2 _ _⟩
   .show loc.P.cellsOf t=s;rw[h.prog];exact ht
  .rw[qa _ _ _ hk];refine CO.le (λ_ h=>h) hw a4 (by simp[at_,bw hk]) (by simp[at_,bw hk]) (λb c hb=>⟨hbel.block b (h.fresh _ _ _ hb).2,λh=>h⟩) (h.objs k)
 .intro k k' b' c1 c2 h1 h2;have hf:=h.fresh;simp only[at_]at h1 h2;split at h1<;>split at h2
  .rw[‹k=d›,‹k'=d›]
  .simp only[bx,b5]at h1;have:=hf _ _ _ h2;omega
  .simp only[bx,b5]at h2;have:=hf _ _ _ h1;omega
  .exact h.inj _ _ _ _ _ h1 h2
 .intro k b' c1 h1;simp only[at_]at h1;split at h1
  .simp only[bx,b5]at h1;have:=h.hB;exact⟨.inl (by omega),by omega⟩
  .have:=h.fresh _ _ _ h1;exact⟨this.1,by omega⟩
 .intro s' a2 a3 hc;have hc:nth .none (upd st.objs d (.arr s es false)) d= .arr s' a2 a3:=hc;rw[qb _ _ _ a1]at hc;simp only[Lr]at hc;obtain⟨rfl,rfl,rfl⟩:=hc;exact .inl ⟨b,c,by simp[at_],rfl⟩
 .show nth .none (upd st.objs d (.arr s es false)) d≠ .none;rw[qb _ _ _ a1];simp
theorem TV {f:Nat} {fn:Func} {own:List A->Option (Nat×List (List D))} (hf:C.P.funcs[f]? =some fn) (hb:fn.body≠none) (hn:fn.name≠ "runtime.NumGoroutine") (h:∀as s es,own as=some (s,es)->jn C f as s es):EffAt C f (J2 own):=by
 refine⟨λ{B F0 w0 F loc st a w dst args ts ty pos after g} hc=>?_,λdst vs ob ob' hh hd=>?_,λdst vs ob hv _=>?_⟩
 .unfold J2;split
  .trivial
  .rename_i d;split
   .rename_i as us hd ad;split
    .rename_i s es a7;obtain⟨a3,a4⟩:=kK hc ad (jK hc args.toList);obtain⟨F',a6,hF',hb'⟩:=hc.freezes a3 st.dirty;have a2:=a4 F' hF' hb';have a1:(args.toList.map a.eval).toArray=args.map a.eval:=by apply Aw;simp
     intro next Q hnx
     have a0:=h as s es a7 w F' (args.toList.map a.eval) a6.bound a6.inv a2;rw[a1]at a0;refine z8 hf hb hn a0 λe w' he=>?_
     obtain⟨a5,b,c,cs,t,rfl,h1,h2,h3,h4,h5,h6,h7,h8,h9,h10⟩:=he;refine⟨_,rfl,hnx _ _ ⟨F',at_ loc d (b,c) t,?_⟩⟩;have h11:=a6.adoptNew (dst:=some d) (z6 a3 hd) a5 h1 h2 h3 h4 h5 h6 h7 h8 h9 h10;have:upds st.objs (us++[(d,.arr s es false)])=upds (upds st.objs us) [(d,.arr s es false)]:=xF _ _ _;have hst:(st.put (some d) (.arr d) (us++[(d,.arr s es false)])).objs=upds (upds st.objs us) [(d,.arr s es false)]:=this;have h12:=h11.redirty (dt:=(st.put (some d) (.arr d) (us++[(d,.arr s es false)])).dirty);have e:(st.put (some d) (.arr d) (us++[(d,.arr s es false)]))=⟨upd st.tmps d (.arr d),upds (upds st.objs us) [(d,.arr s es false)],(st.put (some d) (.arr d) (us++[(d,.arr s es false)])).dirty⟩:=by rw[<-hst];rfl
     rw[e];exact h12
    .trivial
   .trivial
 .unfold J2;cases dst with
  |none=>rfl
  |some d=>
   have h1:jV ob vs=jV ob' vs:=jb (c:=2) λv hv k hk=> .inl (hh k (by
    rw[qB];exact⟨k,Pl.2 ⟨v,hv,hk⟩,.inl rfl⟩))
   simp only[h1];rw[hd d (.inl rfl)]
 .unfold J2;split
  .trivial
  .rename_i d;split
   .rename_i as us hd ad;split
    .rename_i s es _;have a3:=ke ad;refine⟨λp hp=>?_,λk hk=>?_⟩
     .rcases Tk.1 hp with hp|hp
      .obtain⟨⟨v,hv1,hv2⟩,s',es',fz,h1,h2⟩:=a3 p hp;refine⟨.inr ⟨?_,by rw[h1];simp⟩,by rw[h2];simp,λu hu=>by rw[h2]at hu;simp[qW]at hu⟩;rw[qB];exact⟨p.1,Pl.2 ⟨v,hv1,hv2⟩,.inl rfl⟩
      .simp only[P1]at hp;subst hp;exact⟨.inl ⟨.inl rfl,hd⟩,by simp,λu hu=>by simp[qW]at hu⟩
     .simp only[qk,P1]at hk;subst hk;exact .inr ⟨hd,_,Ts _ (P1.2 rfl)⟩
    .trivial
   .trivial
end
end Eng
end
section
namespace Eng
open Go Go.RowKit
variable [Env]
structure LentOk (P:Program) (w:World) (F:Nat->Prop) (g c:Nat) (cs:Array Value) (t:TypeId) (s:Nat) (es:List (List D)):Prop where
 nF:¬F g
 lt:g<w.heap.size
 blk:w.heap[g]? =some (.cells cs t (0,0))
 sz:cs.size=c*s
 lc:es.length<=c/\c<=9223372036854775807
 room:Eng.roomS s es.length
 s0:0<s
 lens:∀e∈es,e.length=s
 ct:P.cellsOf t=s
 cd:∀j,j<es.length*s->∃v,cs[j]? =some v/\CD w F (nth .undef es.flatten j) v
def WS (g c:Nat):Option (Nat×List (List D))->List Value
 |none=>[]
 |some (_,es)=>[.slice (some ⟨g,0,none⟩) es.length c]
def Po (g:Nat):Option (Nat×List (List D))->Nat->Prop
 |none,_=>False
 |some _,b=>b=g
def wq (C:Cx) (f:Nat) (pre:List A) (lent:Option (Nat×List (List D))) (post:List A) (s:Nat) (es:List (List D)):Prop:=
 ∀(w:World) (F:Nat->Prop) (vs1 vs2:List Value) (g c0:Nat) (cs0:Array Value) (t0:TypeId),(∀b,F b->b<w.heap.size)->Inv C F w->All2 (CA w F) pre vs1->All2 (CA w F) post vs2->
  (∀s0 es0,lent=some (s0,es0)->LentOk C.P w F g c0 cs0 t0 s0 es0)->
  Calls C.P f (vs1++(WS g c0 lent++vs2)).toArray w λe w'=>BelowX ⟨w.heap.size,Po g lent⟩ w w'/\
   ∃(F':Nat->Prop) (b c:Nat) (cs:Array Value) (t:TypeId),e= .returned (.slice (some ⟨b,0,none⟩) es.length c)/\(∀x,F x->F' x)/\(∀x,F' x->x<w'.heap.size/\(F x\/Own ⟨w.heap.size,Po g lent⟩ x))/\
    Own ⟨w.heap.size,Po g lent⟩ b/\LentOk C.P w' F' b c cs t s es
def Xf (n:Nat):Nat:=n+7
def Ku (n:Nat) (pre:List A) (lent:Option (Nat×List (List D))) (post:List A):St:=
 match lent with
 |none=>kn n (pre++post)
 |some (s,es)=>⟨pre.map SW++(.arr (Xf n)::(post.map SW++Sz (n-(pre.length+(1+post.length))) .any)),upd (Sz (n+8) .none) (Xf n) (.arr s es false),[]⟩
section
variable {C:Cx}
theorem Zo {n:Nat} {pre post:List A} {lent:Option (Nat×List (List D))} {vs1 vs2:List Value} {w:World} {F:Nat->Prop} {g c0:Nat} {cs0:Array Value} {t0:TypeId} (hb:∀b,F b->b<w.heap.size) (hinv:Inv C F w) (h1:All2 (CA w F) pre vs1) (h2:All2 (CA w F) post vs2)
 (hl:∀s0 es0,lent=some (s0,es0)->LentOk C.P w F g c0 cs0 t0 s0 es0):
 Ls C ⟨w.heap.size,Po g lent⟩ F w (Ku n pre lent post) {tmps:=(vs1++(WS g c0 lent++vs2)).toArray++Hx (n-(vs1++(WS g c0 lent++vs2)).toArray.size) undef,defers:=[]} w:=by
 cases lent with
 |none=>have h:=vw (n:=n) hb hinv (All2.append h1 h2);exact h
 |some se=>
  obtain⟨s,es⟩:=se;have hL:=hl s es rfl;have hl1:=h1.length;have hl2:=h2.length;have hkl:Xf n<(Sz (n+8) Lm).length:=by simp[Xf]
  have hn:∀k,nth .none (upd (Sz (n+8) Lm) (Xf n) (.arr s es false)) k=if k=Xf n then .arr s es false else .none:=λk=>by
   by_cases hk:Xf n=k
   .subst hk;rw[qb _ _ _ hkl,if_pos rfl]
   .rw[qa _ _ _ hk,Zf,if_neg (bw hk)]
  refine⟨F,⟨C.P,λk=>if k=Xf n then some (g,c0)else none,λ_=>t0⟩,⟨rfl,BelowX.refl _ _,bv _,rfl,?_,λv hv=>?_,λk=>?_,?_,?_,hb,λb h=> .inl h,λ_ h=>h,hinv⟩⟩
  .simp only[Ku,WS,Hv,Hu,V1,List.append_assoc,ba,List.nil_append];refine vu (Q5 h1) ⟨?_,vu (Q5 h2) ?_⟩
   .intro s' es' fz' hc;rw[hn,if_pos rfl]at hc;simp only[Lr]at hc;obtain⟨rfl,rfl,rfl⟩:=hc;exact .inl ⟨g,c0,by simp,rfl⟩
   .have e:(vs1++M3 (some ⟨g,0,none⟩) es.length c0::vs2).length=pre.length+(1+post.length):=by simp only[List.length_append,W0];omega
    rw[e];exact yU trivial _
  .simp only[Ku,Tk,U0,U3,W2]at hv;rcases hv with⟨x,_,rfl⟩|rfl|⟨x,_,rfl⟩|⟨_,rfl⟩
   .exact yT x
   .intro hc;have hc:nth Lm (upd (Sz (n+8) Lm) (Xf n) (.arr s es false)) (Xf n)=Lm:=hc;rw[hn,if_pos rfl]at hc;simp at hc
   .exact yT x
   .trivial
  .simp only[Ku];rw[hn];split
   .rename_i e;exact⟨hL.room,hL.s0,hL.lens,.inr ⟨g,c0,cs0,t0,by simp[e],hL.nF,hL.blk,hL.sz,hL.lc,hL.cd,hL.ct,rfl⟩⟩
   .rename_i e;show(if k=Xf n then some (g,c0)else none)=none;rw[if_neg e]
  .intro k k' b c c' q1 q2;simp only at q1 q2;split at q1
   .split at q2
    .rename_i e1 e2;rw[e1,e2]
    .simp at q2
   .simp at q1
  .intro k b c q1;simp only at q1;split at q1
   .simp only[bx,b5]at q1;obtain⟨rfl,rfl⟩:=q1;exact⟨.inr rfl,hL.lt⟩
   .simp at q1
def CG (st:St) (rs:List ResultVar):Option (Nat×List (List D)):=
 match rs with
 |[.tmp t]=>match nth .any st.tmps t with
  | .arr k=>match nth .none st.objs k with
   | .arr s es false=>some (s,es)
   |_=>none
  | .sub k 0 n=>match nth .none st.objs k with
   | .arr s es false=>some (s,es.take n)
   |_=>none
  |_=>none
 |_=>none
theorem Gx {fn:Func} {w:World} {B:Bd} {F:Nat->Prop} {s':St} {a':Act} {w':World} {s:Nat} {es:List (List D)} (hh:Ls C B F w s' a' w') (has:CG s' fn.results.toList=some (s,es)) (hne:es≠[]):
 a'.defers=[]/\∃v,(results fn a'.tmps).run C.P w'= .ok v w'/\BelowX B w w'/\∃(F':Nat->Prop) (b c:Nat) (cs:Array Value) (t:TypeId),M1 v= .returned (.slice (some ⟨b,0,none⟩) es.length c)/\(∀x,F x->F' x)/\(∀x,F' x->x<w'.heap.size/\(F x\/Own B x))/\
  Own B b/\LentOk C.P w' F' b c cs t s es:=by
 obtain⟨F',loc',h⟩:=hh;have a4:∀(t:Nat) (x:Value),fn.results.toList=[.tmp t]->nth undef a'.tmps.toList t=x->(results fn a'.tmps).run C.P w'= .ok x w':=λt x a7 hx=>by
  have hr:fn.results= #[.tmp t]:=by apply Aw;simpa using a7
  unfold results;rw[hr];have hv':a'.tmps[t]?.getD undef=x:=by rw[<-hx,qu];simp
  simp[hv']
 unfold CG at has;split at has
 .rename_i t a7;have hx:=(yd h t).1;simp only[Act.eval]at hx;have an:∀x,a'.tmps.getD t undef=x->nth undef a'.tmps.toList t=x:=λx e=>by rw[<-e,qu];simp
  split at has
  .rename_i k hk;split at has
   .rename_i s0 a1 a6;simp only[bx,b5]at has;obtain⟨rfl,rfl⟩:=has;rw[hk]at hx;have a2:=h.objs k;rw[a6]at a2;obtain⟨a0,al,a3,a2⟩:=a2;rcases hx _ _ _ a6 with⟨b,c,hl,hv⟩|⟨_,h0,_⟩
    .rcases a2 with⟨h4,_⟩|⟨b',c',cs,t',h4,h5,h6,h7,h8,h9,ad,h11⟩
     .rw[h4]at hl;simp at hl
     .rw[h4]at hl;simp only[bx,b5]at hl;obtain⟨rfl,rfl⟩:=hl;have a5:=h.fresh _ _ _ h4;refine⟨h.defers,_,a4 t _ a7 (an _ (by simpa using hv)),h.below,F',b',c',cs,t',rfl,h.fsup,λx hx=>⟨h.bound x hx,h.fsub x hx⟩,a5.1,⟨by simpa using h5,a5.2,h6,h7,h8,a0,al,a3,by rw[<-h.prog];exact ad,h9⟩⟩
    .exact absurd h0 hne
   .simp at has
  .rename_i k n hk;split at has
   .rename_i s0 a1 a6;simp only[bx,b5]at has;obtain⟨rfl,rfl⟩:=has;rw[hk]at hx;have a2:=h.objs k;rw[a6]at a2;obtain⟨a0,al,a3,a2⟩:=a2;obtain⟨b,c,hl,hnl,hv⟩:=(hx _ _ _ a6).resolve_right (by
     rintro(⟨_,_,h0,_⟩|⟨_,h0,_⟩)
     .rw[h0]at hne;simp at hne
     .omega)
    rcases a2 with⟨h4,_⟩|⟨b',c',cs,t',h4,h5,h6,h7,h8,h9,ad,h11⟩
    .rw[h4]at hl;simp at hl
    .rw[h4]at hl;simp only[bx,b5]at hl;obtain⟨rfl,rfl⟩:=hl;have a5:=h.fresh _ _ _ h4;have ag:(a1.take n).length=n:=by rw[List.length_take];omega
     refine⟨h.defers,_,a4 t _ a7 (an _ (by simpa using hv)),h.below,F',b',c',cs,t',by rw[ag],h.fsup,λx hx=>⟨h.bound x hx,h.fsub x hx⟩,a5.1,
      ⟨by simpa using h5,a5.2,h6,h7,by omega,a0.le (by omega),al,λe he=>a3 e (bb he),by rw[<-h.prog];exact ad,λj hj=>?_⟩⟩
     rw[ag]at hj;have hj2:j<a1.length*s0:=bh hj (Nat.mul_le_mul_right s0 (by omega));obtain⟨v,r1,r2⟩:=h9 j hj2;refine⟨v,r1,?_⟩;have hfl:(a1.take n).flatten.length=n*s0:=by rw[qn (λe' he'=>a3 e' (bb he')),ag]
     have hsp:a1.flatten=(a1.take n).flatten++(a1.drop n).flatten:=by rw[<-List.flatten_append,List.take_append_drop]
     have:nth .undef (a1.take n).flatten j=nth .undef a1.flatten j:=by rw[hsp,qu,qu,List.getElem?_append_left (by omega)]
     rw[this];exact r2
   .simp at has
  .simp at has
 .simp at has
def gJ (C:Cx) (Gv:Nat->List A->List A->Prop) (anns:Nat->Ann) (fn:Func) (pre:List A) (lent:Option (Nat×List (List D))) (post:List A) (Q:Nat->List (List D)->Prop):Prop:=
 match fn.body with
 |none=>False
 |some c=>wpC C Gv anns 0 c (λe s=>match e with
  | .normal| .ret=>match CG s fn.results.toList with
   |some (k,es)=>es≠[]/\Q k es
   |none=>False
  | .exit _=>False) (Ku fn.ntmps pre lent post)
theorem CH [EffOk C] {anns:Nat->Ann} {f:Nat} {fn:Func} {pre post:List A} {lent:Option (Nat×List (List D))} {s:Nat} {es:List (List D)} (hm:C.P.follows .mixedOrders=true) (hf:C.P.funcs[f]? =some fn)
 (h:gJ C (Gives C) anns fn pre lent post (λk r=>k=s/\r=es)):wq C f pre lent post s es:=by
 intro w F vs1 vs2 g c0 cs0 t0 hb a1 h1 h2 hl;unfold gJ at h;split at h
 .exact h.elim
 rename_i c hc;refine calls_of_wp hf hc ?_;refine M0 (λe a' w' hp=>?_) (Gr hm c 0 _ _ _ _ h (Zo hb a1 h1 h2 hl));obtain⟨x,s',hx,hq,_,hh⟩:=hp;have a2:∀k as,CG s' fn.results.toList=some (k,as)->(as≠[]/\k=s/\as=es)->_:=λk as a0 he=>Gx (fn:=fn) hh (by rw[a0,he.2.1,he.2.2]) (he.2.2▸he.1)
 cases x with
 |normal=>
  have hx:e= .normal:=hx;subst hx;simp only at hq;split at hq
  .rename_i k as a0;exact a2 k as a0 hq
  .exact hq.elim
 |ret=>
  have hx:e= .ret:=hx;subst hx;simp only at hq;split at hq
  .rename_i k as a0;exact a2 k as a0 hq
  .exact hq.elim
 |exit i=>exact hq.elim
variable {B:Bd} {F0:Nat->Prop} {w0:World} {F:Nat->Prop} {loc:Where} {st:St} {a:Act} {w:World}
theorem Conc.adoptC {dst:Option Nat} {d s b c:Nat} {es:List (List D)} {cs:Array Value} {t:TypeId} {w':World} {F' X:Nat->Prop} {dead:List (Nat×Obj)} (h:Conc C B F0 w0 F loc st a w) (hd:qy st.objs d=true)
 (hdead:∀p∈dead,p.2= .dead/\p.1<st.objs.length/\nth .none st.objs p.1≠ .none) (hX:∀x,X x->¬F x/\∃p∈dead,∃c,loc p.1=some (x,c))
 (hbel:BelowX ⟨w.heap.size,X⟩ w w') (hF1:∀x,F x->F' x) (hF2:∀x,F' x->x<w'.heap.size/\(F x\/Own ⟨w.heap.size,X⟩ x)) (hb1:Own ⟨w.heap.size,X⟩ b) (hL:LentOk C.P w' F' b c cs t s es) (_hne:es≠[]):
 Ls C B F0 w0 (st.put dst (.arr d) (dead++[(d,.arr s es false)])) (a.put dst (.slice (some ⟨b,0,none⟩) es.length c)) w':=by
 obtain⟨a0,hlt⟩:=qH hd;have a5:=hbel.size;have hnd:=λk=>zG dead st.objs k λp hp=>⟨(hdead p hp).1,(hdead p hp).2.1⟩
 have hdd:¬∃p∈dead,p.1=d:=λ⟨p,hp,e⟩=>(hdead p hp).2.2 (by rw[e];exact a0)
 have hn:∀k,nth .none (upds st.objs (dead++[(d,.arr s es false)])) k=if k=d then .arr s es false else if(∃p∈dead,p.1=k)then .dead else nth .none st.objs k:=λk=>by
  rw[xF];show nth .none (upd (upds st.objs dead) d (.arr s es false)) k=_;by_cases hk:d=k
  .subst hk;rw[qb _ _ _ (by rw[jL];exact hlt),if_pos rfl]
  .rw[qa _ _ _ hk,if_neg (bw hk),hnd]
 have a2:∀x,Own ⟨w.heap.size,X⟩ x->Own B x:=λx hx=>by
  rcases hx with hx|hx
  .exact .inl (bs h.hB hx)
  .obtain⟨_,p,_,c,hl⟩:=hX x hx;exact(h.fresh _ _ _ hl).1
 have a6:∀x,F x->w'.heap[x]? =w.heap[x]? :=λx hx=>hbel.block x (h.bound x hx) λhX'=>(hX x hX').1 hx
 open Classical in
 let loc':Where:=⟨loc.P,λk=>if k=d then some (b,c)else if(∃p∈dead,p.1=k)then none else loc k,λk=>if k=d then t else loc.ty k⟩
 have a3:∀k x y,loc' k=some (x,y)->(k=d/\x=b/\y=c)\/(k≠d/\(¬∃p∈dead,p.1=k)/\loc k=some (x,y)):=λk x y hl=>by
  simp only[loc']at hl;split at hl
  .simp only[bx,b5]at hl;exact .inl ⟨‹_›,hl.1.symm,hl.2.symm⟩
  .split at hl
   .simp at hl
   .exact .inr ⟨‹_›,‹_›,hl⟩
 have a1:∀k x y,(¬∃p∈dead,p.1=k)->loc k=some (x,y)->¬X x:=λk x y hk hl hx=>by obtain⟨_,p,hp,c',hl2⟩:=hX x hx;exact hk ⟨p,hp,h.inj _ _ _ _ _ hl2 hl⟩
 have a4:Le st.objs (upds st.objs (dead++[(d,.arr s es false)])) loc loc':=by
  refine⟨rfl,λk hk=>by
   have:k≠d:=λe=>by subst e;exact absurd a0 hk
   simp[loc',this],λk hk=>?_,λk o' hk hc hbx=>?_,λk s' es' fz' hk hc=>?_⟩
  .have:k≠d:=λe=>by subst e;exact absurd a0 hk
   rw[hn,if_neg this];split
   .simp
   .exact hk
  .have:k≠d:=λe=>by subst e;exact absurd a0 hk
   rw[hn,if_neg this]at hc;split at hc
   .rw[<-hc]at hbx;simp[xZ]at hbx
   .rename_i e;exact⟨by rw[hc];exact hbx,by simp only[loc'];rw[if_neg this,if_neg e]⟩
  .have:k≠d:=λe=>by subst e;exact absurd a0 hk
   rw[hn,if_neg this]at hc;split at hc
   .simp at hc
   .rename_i e;exact⟨⟨_,_,hc,rfl⟩,by simp only[loc'];rw[if_neg this,if_neg e]⟩
 have hbw:BelowX B w w':=⟨hbel.os,hbel.tape,hbel.output,hbel.size,λj hj hjX=>hbel.block j (bh hj h.hB) λhx=>by
  rcases a2 j (.inr hx)with h1|h1
  .omega
  .exact hjX h1⟩
 refine⟨F',loc',h.step hF1 a6 a4 (h.below.trans hbw) (by have:=h.hB;omega) (λk=>?_) ?_ ?_ (λx hx=>(hF2 x hx).1) (λx hx=>?_) ?_ ?_⟩
 .rw[hn];split
  .rename_i e;exact⟨hL.room,hL.s0,hL.lens,.inr ⟨b,c,cs,t,by simp[loc',e],hL.nF,hL.blk,hL.sz,hL.lc,hL.cd,by show loc.P.cellsOf t=s;rw[h.prog];exact hL.ct,by simp[loc',e]⟩⟩
  .rename_i e1;split
   .rename_i e2;show loc' k=none;simp only[loc'];rw[if_neg e1,if_pos e2]
   .rename_i e2;refine CO.le hF1 a6 a4 (by simp only[loc'];rw[if_neg e1,if_neg e2]) (by simp only[loc'];rw[if_neg e1]) (λx y hl=>?_) (h.objs k);have hf:=(h.fresh _ _ _ hl).2;have hx:=a1 _ _ _ e2 hl;refine⟨hbel.block x hf hx,λhnF hF'=>?_⟩;rcases(hF2 x hF').2 with h1|h1|h1
    .exact hnF h1
    .have h1:w.heap.size<=x:=h1;omega
    .exact hx h1
 .intro k k' x y y' q1 q2;rcases a3 _ _ _ q1 with⟨r1,r2,r3⟩|⟨r1,r2,r3⟩<;>rcases a3 _ _ _ q2 with⟨u1,u2,u3⟩|⟨u1,u2,u3⟩
  .rw[r1,u1]
  .subst r2;exfalso;rcases hb1 with hb1|hb1
   .have hb1:w.heap.size<=x:=hb1;have:=(h.fresh _ _ _ u3).2;omega
   .exact a1 _ _ _ u2 u3 hb1
  .subst u2;exfalso;rcases hb1 with hb1|hb1
   .have hb1:w.heap.size<=x:=hb1;have:=(h.fresh _ _ _ r3).2;omega
   .exact a1 _ _ _ r2 r3 hb1
  .exact h.inj _ _ _ _ _ r3 u3
 .intro k x y q1;rcases a3 _ _ _ q1 with⟨r1,r2,r3⟩|⟨r1,r2,r3⟩
  .subst r2;exact⟨a2 _ hb1,hL.lt⟩
  .have:=h.fresh _ _ _ r3;exact⟨this.1,by omega⟩
 .rcases(hF2 x hx).2 with h1|h1
  .exact h.fsub x h1
  .exact .inr (a2 x h1)
 .intro s' es' fz' hc;rw[hn,if_pos rfl]at hc;simp only[Lr]at hc;obtain⟨rfl,rfl,rfl⟩:=hc;exact .inl ⟨b,c,by simp[loc'],rfl⟩
 .show nth .none (upds st.objs _) d≠ .none;rw[hn,if_pos rfl];simp
end
end Eng
end
section
namespace Eng
open Go Go.RowKit
variable [Env]
def Un (chk:List A->Bool) (s:Nat) (mk:List A->List (List D)) (dst:Option Nat) (vs:List V) (ob:List Obj):R:=
 match dst with
 |none=> .fail
 |some d=>match qy ob d,jV ob vs with
  |true,some (al,us)=> .cond (chk al=true) (.arr d) (us++[(d,.arr s (mk al) false)])
  |_,_=> .fail
def Yk:List (Nat×Obj)->List Nat
 |[]=>[]
 |p::r=>p.1::Yk r
def Ja (s:Nat) (chk:List (List D)->List A->Bool) (mk:List (List D)->List A->List (List D)) (dst:Option Nat) (vs:List V) (ob:List Obj):R:=
 match dst with
 |none=> .fail
 |some d=>match vs with
  | .arr k::r=>match qy ob d,nth .none ob k,jV ob r with
   |true,.arr s0 es false,some (al,us)=>match bm s0 s&&!Qy k (Yk us)with
    |true=> .cond (chk es al=true) (.arr d) (us++[(k,.dead),(d,.arr s (mk es al) false)])
    |false=> .fail
   |_,_,_=> .fail
  |_=> .fail
omit [Env] in
theorem yV {k:Nat}:∀{us:List (Nat×Obj)},k∈Yk us↔∃p∈us,p.1=k
 |[]=>by simp[Yk]
 |p::r=>by
  simp only[Yk,U0];rw[yV];constructor
  .rintro(rfl|⟨q,hq,rfl⟩)
   .exact⟨p,.inl rfl,rfl⟩
   .exact⟨q,.inr hq,rfl⟩
  .rintro⟨q,rfl|hq,rfl⟩
   .exact .inl rfl
   .exact .inr ⟨q,hq,rfl⟩
section
variable {C:Cx}
theorem Gy {f s:Nat} {fn:Func} {chk:List A->Bool} {mk:List A->List (List D)} (hf:C.P.funcs[f]? =some fn) (hb:fn.body≠none) (hn:fn.name≠ "runtime.NumGoroutine") (hmk:∀al,chk al=true->mk al≠[]/\wq C f al none [] s (mk al)):EffAt C f (Un chk s mk):=by
 refine⟨λ{B F0 w0 F loc st a w dst args ts ty pos after g} hc=>?_,λdst vs ob ob' hh hd=>?_,λdst vs ob hv _=>?_⟩
 .unfold Un;split
  .trivial
  .rename_i d;split
   .rename_i al us hd a7;obtain⟨a3,a4⟩:=kK hc a7 (jK hc args.toList);obtain⟨F',a6,hF',hb'⟩:=hc.freezes a3 st.dirty;have a2:=a4 F' hF' hb';intro hck next Q hnx
    obtain⟨hne,hG⟩:=hmk al hck;have a0:=hG w F' (args.toList.map a.eval) [] 0 0 #[] 0 a6.bound a6.inv a2 trivial (λs0 es0 h=>by simp at h);have a1:(args.toList.map a.eval++(WS 0 0 none++[])).toArray=args.map a.eval:=by apply Aw;simp[WS]
    rw[a1]at a0;refine z8 hf hb hn a0 λe w' he=>?_
    obtain⟨a5,F2,b,c,cs,t,rfl,h1,h2,h3,h4⟩:=he;refine⟨_,rfl,hnx _ _ ?_⟩;have h5:=a6.adoptC (dst:=some d) (d:=d) (dead:=[]) (z6 a3 hd) (λp hp=>by simp at hp) (λx hx=>hx.elim) a5 h1 h2 h3 h4 hne;refine xi h5 rfl ?_;show upds (upds st.objs us) ([]++[(d,.arr s (mk al) false)])=upds st.objs (us++[(d,.arr s (mk al) false)]);rw[xF us];rfl
   .trivial
 .unfold Un;cases dst with
  |none=>rfl
  |some d=>
   have h1:jV ob vs=jV ob' vs:=jb (c:=2) λv hv k hk=> .inl (hh k (by
    rw[qB];exact⟨k,Pl.2 ⟨v,hv,hk⟩,.inl rfl⟩))
   simp only[h1];rw[hd d (.inl rfl)]
 .unfold Un;split
  .trivial
  .rename_i d;split
   .rename_i al us hd a7;have a3:=ke a7;refine⟨λp hp=>?_,λk hk=>?_⟩
    .rcases Tk.1 hp with hp|hp
     .obtain⟨⟨v,hv1,hv2⟩,s',es',fz,h1,h2⟩:=a3 p hp;refine⟨.inr ⟨?_,by rw[h1];simp⟩,by rw[h2];simp,λu hu=>by rw[h2]at hu;simp[qW]at hu⟩;rw[qB];exact⟨p.1,Pl.2 ⟨v,hv1,hv2⟩,.inl rfl⟩
     .simp only[P1]at hp;subst hp;exact⟨.inl ⟨.inl rfl,hd⟩,by simp,λu hu=>by simp[qW]at hu⟩
    .simp only[qk,P1]at hk;subst hk;exact .inr ⟨hd,_,Ts _ (P1.2 rfl)⟩
   .trivial
theorem Kv {f s:Nat} {fn:Func} {chk:List (List D)->List A->Bool} {mk:List (List D)->List A->List (List D)} (hf:C.P.funcs[f]? =some fn) (hb:fn.body≠none) (hn:fn.name≠ "runtime.NumGoroutine")
 (hmk:∀es al,chk es al=true->es≠[]/\mk es al≠[]/\wq C f [] (some (s,es)) al s (mk es al)):EffAt C f (Ja s chk mk):=by
 refine⟨λ{B F0 w0 F loc st a w dst args ts ty pos after g} hc=>?_,λdst vs ob ob' hh hd=>?_,λdst vs ob hv _=>?_⟩
 .unfold Ja;split
  .trivial
  .rename_i d;split
   .rename_i k r a4;split
    .rename_i s0 es al us hd hk b0;split
     .rename_i a6;simp only[Hy,I0]at a6;obtain rfl:=be a6.1;have hku:¬∃p∈us,p.1=k:=λh=>by have:=xK.2 (yV.2 h);rw[this]at a6;simp at a6
      intro hck next Q hnx
      obtain⟨hne,ap,hG⟩:=hmk es al hck;obtain⟨x0,xs,b3⟩:∃x0 xs,args.toList=x0::xs:=by
       cases h:args.toList with
       |nil=>rw[h]at a4;simp at a4
       |cons x0 xs=>exact⟨x0,xs,rfl⟩
      rw[b3]at a4;simp only[W1,bd]at a4;obtain⟨hx0,rfl⟩:=a4;obtain⟨a5,a7⟩:=kK hc b0 (jK hc xs);obtain⟨F',a3,hF',hb'⟩:=hc.freezes a5 st.dirty;have a2:=a7 F' hF' hb';have b2:=(xb hc x0).1;rw[hx0]at b2;have an:nth .none (upds st.objs us) k= .arr s0 es false:=by rw[zg _ _ λp hp e=>hku ⟨p,hp,e⟩];exact hk
      have ag:=a3.objs k;simp only at ag;rw[an]at ag;obtain⟨q1,q2,q3,q4⟩:=ag;rcases q4 with⟨_,q5⟩|⟨gb,c0,cs0,t0,q5,q6,q7,q8,q9,q10,q11,q12⟩
      .exact absurd q5 hne
      .rcases b2 _ _ _ hk with⟨b1,c1,r1,r2⟩|⟨r1,_⟩
       .rw[q5]at r1;simp only[bx,b5]at r1;obtain⟨rfl,rfl⟩:=r1;have a0:=hG w F' [] (xs.map a.eval) gb c0 cs0 t0 a3.bound a3.inv trivial a2 (λs1 es1 he=>by
         simp only[bx,b5]at he;obtain⟨rfl,rfl⟩:=he;exact⟨by simpa using q6,(a3.fresh _ _ _ q5).2,q7,q8,q9,q1,q2,q3,by rw[<-hc.prog];exact q11,q10⟩)
        have a1:([]++(WS gb c0 (some (s0,es))++xs.map a.eval)).toArray=args.map a.eval:=by apply Aw;rw[Dd,b3];simp[WS,r2]
        rw[a1]at a0;refine z8 hf hb hn a0 λe w' he=>?_
        obtain⟨ad,F2,b,c,cs,t,rfl,h1,h2,h3,h4⟩:=he;refine⟨_,rfl,hnx _ _ ?_⟩;have hkl:k<(upds st.objs us).length:=xk (by rw[an];simp);have h5:=a3.adoptC (dst:=some d) (d:=d) (dead:=[(k,.dead)]) (z6 a5 hd) (λp hp=>by
         simp only[P1]at hp;subst hp;exact⟨rfl,hkl,by rw[an];simp⟩) (λx hx=>by
         have hx:x=gb:=hx;subst hx;exact⟨by simpa using q6,(k,.dead),by simp,c0,q5⟩) ad h1 h2 h3 h4 ap
        refine xi h5 rfl ?_;show upds (upds st.objs us) ([(k,.dead)]++[(d,.arr s0 (mk es al) false)])=upds st.objs (us++[(k,.dead),(d,.arr s0 (mk es al) false)]);rw[xF us];rfl
       .have h6:loc k=some (gb,c0):=q5;rw[h6]at r1;simp at r1
     .trivial
    .trivial
   .trivial
 .unfold Ja;cases dst with
  |none=>rfl
  |some d=>
   dsimp only
   cases vs with
   |nil=>rfl
   |cons v r=>
    cases v with
    |arr k=>
     have h0:nth .none ob k=nth .none ob' k:=hh k (by
      rw[qB];exact⟨k,Pl.2 ⟨.arr k,by simp,by simp[qk]⟩,.inl rfl⟩)
     have h1:jV ob r=jV ob' r:=jb (c:=2) λv hv k hk=> .inl (hh k (by
      rw[qB];exact⟨k,Pl.2 ⟨v,by simp[hv],hk⟩,.inl rfl⟩))
     simp only[h0,h1];rw[hd d (.inl rfl)]
    |_=>rfl
 .unfold Ja;split
  .trivial
  .rename_i d;split
   .rename_i k r;split
    .rename_i s0 es al us hd hk b0;split
     .have a5:=ke b0;refine⟨λp hp=>?_,λj hj=>?_⟩
      .rcases Tk.1 hp with hp|hp
       .obtain⟨⟨v,hv1,hv2⟩,s',es',fz,h1,h2⟩:=a5 p hp;refine⟨.inr ⟨?_,by rw[h1];simp⟩,by rw[h2];simp,λu hu=>by rw[h2]at hu;simp[qW]at hu⟩;rw[qB];exact⟨p.1,Pl.2 ⟨v,by simp[hv1],hv2⟩,.inl rfl⟩
       .simp only[U0,List.not_mem_nil,or_false]at hp;rcases hp with rfl|rfl
        .refine⟨.inr ⟨?_,by rw[hk];simp⟩,by simp,λu hu=>by simp[qW]at hu⟩;rw[qB];exact⟨k,Pl.2 ⟨.arr k,by simp,by simp[qk]⟩,.inl rfl⟩
        .exact⟨.inl ⟨.inl rfl,hd⟩,by simp,λu hu=>by simp[qW]at hu⟩
      .simp only[qk,P1]at hj;subst hj;exact .inr ⟨hd,_,Ts _ (bc _ (P1.2 rfl))⟩
     .trivial
    .trivial
   .trivial
end
end Eng
end
section
namespace Eng
open Go Go.RowKit
variable [Env]
def QU (C:Cx) (f:Nat) (s:Nat) (es:List (List D)) (post:List A) (res:List A) (es':List (List D)):Prop:=
 ∀(w:World) (F:Nat->Prop) (vs2:List Value) (g c0:Nat) (cs0:Array Value) (t0:TypeId),(∀b,F b->b<w.heap.size)->Inv C F w->All2 (CA w F) post vs2->LentOk C.P w F g c0 cs0 t0 s es->
  Calls C.P f (.slice (some ⟨g,0,none⟩) es.length c0::vs2).toArray w λe w'=>BelowX ⟨w.heap.size,λb=>b=g⟩ w w'/\
   ∃(F':Nat->Prop) (cs:Array Value) (v:Value),e= .returned v/\(∀x,F x->F' x)/\(∀x,F' x->x<w'.heap.size/\(F x\/Own ⟨w.heap.size,λb=>b=g⟩ x))/\Qv w' F' res v/\LentOk C.P w' F' g c0 cs t0 s es'/\es'.length=es.length
def Jb (n s:Nat) (es:List (List D)) (post:List A) (g c t:Nat):St:=
 ⟨.arrAt (Xf n) g c t::(post.map SW++Sz (n-(1+post.length)) .any),upd (Sz (n+8) .none) (Xf n) (.arr s es false),[]⟩
section
variable {C:Cx}
theorem TW {n s g c0:Nat} {es:List (List D)} {post:List A} {vs2:List Value} {w:World} {F:Nat->Prop} {cs0:Array Value} {t0:TypeId} (hb:∀b,F b->b<w.heap.size) (hinv:Inv C F w) (h2:All2 (CA w F) post vs2) (hL:LentOk C.P w F g c0 cs0 t0 s es):
 Ls C ⟨w.heap.size,λb=>b=g⟩ F w (Jb n s es post g c0 t0) {tmps:=(M3 (some ⟨g,0,none⟩) es.length c0::vs2).toArray++Hx (n-(M3 (some ⟨g,0,none⟩) es.length c0::vs2).toArray.size) undef,defers:=[]} w:=by
 have hl2:=h2.length;have hkl:Xf n<(Sz (n+8) Lm).length:=by simp[Xf]
 have hn:∀k,nth .none (upd (Sz (n+8) Lm) (Xf n) (.arr s es false)) k=if k=Xf n then .arr s es false else .none:=λk=>by
  by_cases hk:Xf n=k
  .subst hk;rw[qb _ _ _ hkl,if_pos rfl]
  .rw[qa _ _ _ hk,Zf,if_neg (bw hk)]
 refine⟨F,⟨C.P,λk=>if k=Xf n then some (g,c0)else none,λ_=>t0⟩,⟨rfl,BelowX.refl _ _,bv _,rfl,?_,λv hv=>?_,λk=>?_,?_,?_,hb,λb h=> .inl h,λ_ h=>h,hinv⟩⟩
 .simp only[Jb,Hv,Hu,V1,ba];refine⟨?_,vu (Q5 h2) ?_⟩
  .intro s' es' fz' hc;rw[hn,if_pos rfl]at hc;simp only[Lr]at hc;obtain⟨rfl,rfl,rfl⟩:=hc;exact⟨⟨by simp,rfl⟩,rfl⟩
  .have e:(M3 (some ⟨g,0,none⟩) es.length c0::vs2).length=1+post.length:=by simp only[W0];omega
   rw[e];exact yU trivial _
 .simp only[Jb,Tk,U0,U3,W2]at hv;rcases hv with rfl|⟨x,_,rfl⟩|⟨_,rfl⟩
  .intro hc;have hc:nth Lm (upd (Sz (n+8) Lm) (Xf n) (.arr s es false)) (Xf n)=Lm:=hc;rw[hn,if_pos rfl]at hc;simp at hc
  .exact yT x
  .trivial
 .simp only[Jb];rw[hn];split
  .rename_i e;exact⟨hL.room,hL.s0,hL.lens,.inr ⟨g,c0,cs0,t0,by simp[e],hL.nF,hL.blk,hL.sz,hL.lc,hL.cd,hL.ct,rfl⟩⟩
  .rename_i e;show(if k=Xf n then some (g,c0)else none)=none;rw[if_neg e]
 .intro k k' b c c' q1 q2;simp only at q1 q2;split at q1
  .split at q2
   .rename_i e1 e2;rw[e1,e2]
   .simp at q2
  .simp at q1
 .intro k b c q1;simp only at q1;split at q1
  .simp only[bx,b5]at q1;obtain⟨rfl,rfl⟩:=q1;exact⟨.inr rfl,hL.lt⟩
  .simp at q1
theorem Gz {F0:Nat->Prop} {w0:World} {B:Bd} {F:Nat->Prop} {loc:Where} {st:St} {a:Act} {w:World} (h:Conc C B F0 w0 F loc st a w) {fn:Func} {as:List A} (hr:resD C st fn.results.toList=some as) (hfl:∀r∈as,ZT r=true):
 a.defers=[]/\∃v,(results fn a.tmps).run C.P w= .ok v w/\∀F':Nat->Prop,Qv w F' as v:=by
 obtain⟨us,h1,h2⟩:=Q4 h hr;refine⟨h.defers,if h:us.toArray.size=1 then us.toArray[0]else .tuple us.toArray,?_,λF'=>?_⟩
 .unfold results;rw[Bx];simp only[M2,map_eq_pure_bind];have h5:∀g:ResultVar->Sem Value,g=O0 a.tmps->(fn.results.toList.mapM g).run C.P w= .ok us w:=λg hg=>by rw[hg];exact h1
  rw[h5 _ (by funext r;cases r<;>rfl)];rfl
 .match as,us,h2 with
  |[a],[u],h2=>exact XP h2.1 (hfl _ (by simp))
  |[],[],h2=>exact⟨#[],rfl,trivial⟩
  |a::b::r,u::v::s,h2=>exact⟨(u::v::s).toArray,by simp,h2.mono_mem λr hr v hv=>XP hv (hfl r hr)⟩
variable {B:Bd} {F0:Nat->Prop} {w0:World} {F:Nat->Prop} {loc:Where} {st:St} {a:Act} {w:World}
theorem Conc.turned {dst:Option Nat} {k s g c0:Nat} {es es':List (List D)} {cs:Array Value} {t:TypeId} {w':World} {F':Nat->Prop} {v:V} {x:Value} {us:List (Nat×Obj)} (h:Conc C B F0 w0 F loc st a w) (hk:nth .none st.objs k= .arr s es false) (hl:loc k=some (g,c0)) (hnF:¬F g) (htk:loc.ty k=t)
 (hbel:BelowX ⟨w.heap.size,λb=>b=g⟩ w w') (hF1:∀x,F x->F' x) (hF2:∀x,F' x->x<w'.heap.size/\(F x\/Own ⟨w.heap.size,λb=>b=g⟩ x)) (hL:LentOk C.P w' F' g c0 cs t s es') (hlen:es'.length=es.length) (hus:us=[(k,.arr s es' false)])
 (hv:∀(loc:Where) (objs:List Obj),CV loc objs w' F' v x/\Ref objs v):Ls C B F0 w0 (st.put dst v us) (a.put dst x) w':=by
 subst hus;have hkl:k<st.objs.length:=xk (by rw[hk];simp);have a2:Le st.objs (upd st.objs k (.arr s es' false)) loc loc:=T0 hk hlen;have a1:=hbel.size;have a3:∀x,F x->w'.heap[x]? =w.heap[x]? :=λx hx=>hbel.block x (h.bound x hx) λe=>by have e:x=g:=e;exact hnF (e▸hx)
 have hfr:=h.fresh _ _ _ hl;have a0:∀x,Own ⟨w.heap.size,λb=>b=g⟩ x->Own B x:=λx hx=>by
  rcases hx with hx|hx
  .exact .inl (bs h.hB hx)
  .have hx:x=g:=hx;rw[hx];exact hfr.1
 have hbw:BelowX B w w':=⟨hbel.os,hbel.tape,hbel.output,hbel.size,λj hj hjX=>hbel.block j (bh hj h.hB) λhx=>by
  rcases a0 j (.inr hx)with h1|h1
  .omega
  .exact hjX h1⟩
 refine⟨F',loc,h.step (up:=[(k,.arr s es' false)]) hF1 a3 a2 (h.below.trans hbw) (by have:=h.hB;omega) (λj=>?_) h.inj (λj x y hj=>⟨(h.fresh _ _ _ hj).1,bh (h.fresh _ _ _ hj).2 a1⟩) (λx hx=>(hF2 x hx).1) (λx hx=>?_) (hv _ _).1 (hv loc _).2⟩
 .show CO _ (upd st.objs k (.arr s es' false)) _ _ _ (nth .none (upd st.objs k (.arr s es' false)) j);by_cases hkj:k=j
  .subst hkj;rw[qb _ _ _ hkl];exact⟨hL.room,hL.s0,hL.lens,.inr ⟨g,c0,cs,t,hl,hL.nF,hL.blk,hL.sz,hL.lc,hL.cd,by rw[h.prog];exact hL.ct,htk⟩⟩
  .rw[qa _ _ _ hkj];refine CO.le hF1 a3 a2 rfl rfl (λx y hj=>?_) (h.objs j);have hx:x≠g:=λe=>by subst e;exact hkj (h.inj _ _ _ _ _ hl hj)
   refine⟨hbel.block x (h.fresh _ _ _ hj).2 hx,λhnF2 hF'=>?_⟩;rcases(hF2 x hF').2 with h1|h1|h1
   .exact hnF2 h1
   .have h1:w.heap.size<=x:=h1;have:=(h.fresh _ _ _ hj).2;omega
   .exact hx h1
 .rcases(hF2 x hx).2 with h1|h1
  .exact h.fsub x h1
  .exact .inr (a0 x h1)
end
end Eng
end
section
namespace Eng
open Go Go.RowKit
variable [Env]
def Jc (s:Nat) (chk:List (List D)->List A->Bool) (mk:List (List D)->List A->List (List D)) (res:List (List D)->List A->List A) (_:Option Nat) (vs:List V) (ob:List Obj):R:=
 match vs with
 | .arr k::r=>match nth .none ob k,jV ob r with
  | .arr s0 es false,some (al,us)=>match bm s0 s&&!Qy k (Yk us)with
   |true=> .cond (chk es al=true) (JR (res es al)) (us++[(k,.arr s (mk es al) false)])
   |false=> .fail
  |_,_=> .fail
 |_=> .fail
section
variable {C:Cx}
theorem Kw {f s:Nat} {fn:Func} {chk:List (List D)->List A->Bool} {mk:List (List D)->List A->List (List D)} {res:List (List D)->List A->List A} (hf:C.P.funcs[f]? =some fn) (hb:fn.body≠none) (hn:fn.name≠ "runtime.NumGoroutine")
 (hmk:∀es al,chk es al=true->es≠[]/\QU C f s es al (res es al) (mk es al)):EffAt C f (Jc s chk mk res):=by
 refine⟨λ{B F0 w0 F loc st a w dst args ts ty pos after g} hc=>?_,λdst vs ob ob' hh hd=>?_,λdst vs ob hv _=>?_⟩
 .unfold Jc;split
  .rename_i k r a4;split
   .rename_i s0 es al us hk an;split
    .rename_i a5;simp only[Hy,I0]at a5;obtain rfl:=be a5.1;have hku:¬∃p∈us,p.1=k:=λh=>by have:=xK.2 (yV.2 h);rw[this]at a5;simp at a5
     intro hck next Q hnx
     obtain⟨hne,hG⟩:=hmk es al hck;obtain⟨x0,xs,b2⟩:∃x0 xs,args.toList=x0::xs:=by
      cases h:args.toList with
      |nil=>rw[h]at a4;simp at a4
      |cons x0 xs=>exact⟨x0,xs,rfl⟩
     rw[b2]at a4;simp only[W1,bd]at a4;obtain⟨hx0,rfl⟩:=a4;obtain⟨ag,a6⟩:=kK hc an (jK hc xs);obtain⟨F',a3,hF',hb'⟩:=hc.freezes ag st.dirty;have a2:=a6 F' hF' hb';have b0:=(xb hc x0).1;rw[hx0]at b0;have ap:nth .none (upds st.objs us) k= .arr s0 es false:=by rw[zg _ _ λp hp e=>hku ⟨p,hp,e⟩];exact hk
     have ad:=a3.objs k;simp only at ad;rw[ap]at ad;obtain⟨q1,q2,q3,q4⟩:=ad;rcases q4 with⟨_,q5⟩|⟨gb,c0,cs0,t0,q5,q6,q7,q8,q9,q10,q11,q12⟩
     .exact absurd q5 hne
     .rcases b0 _ _ _ hk with⟨b1,c1,r1,r2⟩|⟨r1,_⟩
      .rw[q5]at r1;simp only[bx,b5]at r1;obtain⟨rfl,rfl⟩:=r1;have a0:=hG w F' (xs.map a.eval) gb c0 cs0 t0 a3.bound a3.inv a2 ⟨by simpa using q6,(a3.fresh _ _ _ q5).2,q7,q8,q9,q1,q2,q3,by rw[<-hc.prog];exact q11,q10⟩;have a1:(M3 (some ⟨gb,0,none⟩) es.length c0::xs.map a.eval).toArray=args.map a.eval:=by apply Aw;rw[Dd,b2];simp[r2]
       rw[a1]at a0;refine z8 hf hb hn a0 λe w' he=>?_
       obtain⟨a7,F2,cs,v,rfl,h1,h2,h3,h4,h5⟩:=he;refine⟨_,rfl,hnx _ _ ?_⟩;have h6:=a3.turned (dst:=dst) (k:=k) (es':=mk es al) (v:=JR (res es al)) (x:=v) ap q5 (by simpa using q6) q12 a7 h1 h2 h4 h5 rfl (λloc objs=>WA h3);refine xi h6 rfl ?_;show upds (upds st.objs us) [(k,.arr s0 (mk es al) false)]=upds st.objs (us++[(k,.arr s0 (mk es al) false)]);rw[xF us]
      .have h6:loc k=some (gb,c0):=q5;rw[h6]at r1;simp at r1
    .trivial
   .trivial
  .trivial
 .unfold Jc;cases vs with
  |nil=>rfl
  |cons v r=>
   cases v with
   |arr k=>
    have h0:nth .none ob k=nth .none ob' k:=hh k (by
     rw[qB];exact⟨k,Pl.2 ⟨.arr k,by simp,by simp[qk]⟩,.inl rfl⟩)
    have h1:jV ob r=jV ob' r:=jb (c:=2) λv hv k hk=> .inl (hh k (by
     rw[qB];exact⟨k,Pl.2 ⟨v,by simp[hv],hk⟩,.inl rfl⟩))
    simp only[h0,h1]
   |_=>rfl
 .unfold Jc;split
  .rename_i k r;split
   .rename_i s0 es al us hk an;split
    .have ag:=ke an;refine⟨λp hp=>?_,λj hj=>by rw[wP]at hj;simp at hj⟩;rcases Tk.1 hp with hp|hp
     .obtain⟨⟨v,hv1,hv2⟩,s',es',fz,h1,h2⟩:=ag p hp;refine⟨.inr ⟨?_,by rw[h1];simp⟩,by rw[h2];simp,λu hu=>by rw[h2]at hu;simp[qW]at hu⟩;rw[qB];exact⟨p.1,Pl.2 ⟨v,by simp[hv1],hv2⟩,.inl rfl⟩
     .simp only[P1]at hp;subst hp;refine⟨.inr ⟨?_,by rw[hk];simp⟩,by simp,λu hu=>by simp[qW]at hu⟩;rw[qB];exact⟨k,Pl.2 ⟨.arr k,by simp,by simp[qk]⟩,.inl rfl⟩
    .trivial
   .trivial
  .trivial
end
end Eng
end
section
namespace Eng
open Go Go.RowKit
variable [Env]
def Kx (tab:Nat->List A->Option (List A)) (C:Cx) (lim n f:Nat) (pre:List A) (lent:Option (Nat×List (List D))) (post:List A):Option (Nat×List (List D)):=
 match C.P.funcs[f]? with
 |none=>none
 |some fn=>match fn.body with
  |none=>none
  |some c=>match jw (y5 tab C lim n) C lim c (Ku fn.ntmps pre lent post)with
   |some (.normal,s)=>CG s fn.results.toList
   |some (.ret,s)=>CG s fn.results.toList
   |_=>none
def CI (C:Cx) (fn:Func) (st:St):Option (List A×List (List D)×Nat×Nat×Nat×Nat):=
 match resD C st fn.results.toList with
 |none=>none
 |some as=>match nth .any st.tmps 0 with
  | .arrAt k g c t=>match bm k (Xf fn.ntmps),nth .none st.objs (Xf fn.ntmps)with
   |true,.arr s es false=>some (as,es,s,g,c,t)
   |_,_=>none
  |_=>none
def WT (tab:Nat->List A->Option (List A)) (C:Cx) (lim n f s:Nat) (es:List (List D)) (post:List A) (g c t:Nat):Option (List A×List (List D)×Nat×Nat×Nat×Nat):=
 match C.P.funcs[f]? with
 |none=>none
 |some fn=>match fn.body with
  |none=>none
  |some b=>match jw (y5 tab C lim n) C lim b (Jb fn.ntmps s es post g c t)with
   |some (.normal,st)=>CI C fn st
   |some (.ret,st)=>CI C fn st
   |_=>none
section
variable {C:Cx}
theorem Ky [EffOk C] {tab:Nat->List A->Option (List A)} {lim:Nat} (hm:C.P.follows .mixedOrders=true) (htab:∀f as rs,tab f as=some rs->Gives C f as rs) {n f s:Nat} {pre post:List A} {lent:Option (Nat×List (List D))} {es:List (List D)} (hne:es≠[])
 (h:Kx tab C lim n f pre lent post=some (s,es)):wq C f pre lent post s es:=by
 unfold Kx at h;split at h
 .simp at h
 rename_i fn hf;split at h
 .simp at h
 rename_i c hc;have a3:∀(x:X) (s':St),(x= .normal\/x= .ret)->jw (y5 tab C lim n) C lim c (Ku fn.ntmps pre lent post)=some (x,s')->CG s' fn.results.toList=some (s,es)->wq C f pre lent post s es:=by
  intro x s' hx hr a1 w F vs1 vs2 g c0 cs0 t0 hb a0 h1 h2 hl;refine calls_of_wp hf hc (M0 (λe a' w' hp=>?_) (Q7 hm (λf as rs h=>z2 hm htab n f as rs h) lim c _ s' x _ w hr (Zo hb a0 h1 h2 hl)));obtain⟨he,hh⟩:=hp;have a2:=Gx (fn:=fn) hh a1 hne;rcases hx with rfl|rfl
  .have he:e= .normal:=he;subst he;exact a2
  .have he:e= .ret:=he;subst he;exact a2
 split at h
 .rename_i s' hr;exact a3 _ _ (.inl rfl) hr h
 .rename_i s' hr;exact a3 _ _ (.inr rfl) hr h
 .simp at h
theorem Pp [EffOk C] {tab:Nat->List A->Option (List A)} {lim:Nat} (hm:C.P.follows .mixedOrders=true) (htab:∀f as rs,tab f as=some rs->Gives C f as rs) {n f s:Nat} {es es':List (List D)} {post res:List A} (hfl:kg res=true) (hlen:bm es'.length es.length=true)
 (h:∀g c t,WT tab C lim n f s es post g c t=some (res,es',s,g,c,t)):QU C f s es post res es':=by
 intro w F vs2 g c0 cs0 t0 hb a2 h2 hL;have h:=h g c0 t0;have hlen:=be hlen;unfold WT at h;split at h
 .simp at h
 rename_i fn hf;split at h
 .simp at h
 rename_i b hbd;have a7:∀(x:X) (s':St),(x= .normal\/x= .ret)->jw (y5 tab C lim n) C lim b (Jb fn.ntmps s es post g c0 t0)=some (x,s')->CI C fn s'=some (res,es',s,g,c0,t0)->
  Calls C.P f (.slice (some ⟨g,0,none⟩) es.length c0::vs2).toArray w λe w'=>BelowX ⟨w.heap.size,λb=>b=g⟩ w w'/\
  ∃(F':Nat->Prop) (cs:Array Value) (v:Value),e= .returned v/\(∀x,F x->F' x)/\(∀x,F' x->x<w'.heap.size/\(F x\/Own ⟨w.heap.size,λb=>b=g⟩ x))/\Qv w' F' res v/\LentOk C.P w' F' g c0 cs t0 s es'/\es'.length=es.length:=by
  intro x s' hx hr a0;refine calls_of_wp hf hbd (M0 (λe a' w' hp=>?_) (Q7 hm (λf as rs h=>z2 hm htab n f as rs h) lim b _ s' x _ w hr (TW hb a2 h2 hL)));obtain⟨he,hh⟩:=hp;have a3:a'.defers=[]/\∃v,(results fn a'.tmps).run C.P w'= .ok v w'/\BelowX ⟨w.heap.size,λb=>b=g⟩ w w'/\
   ∃(F':Nat->Prop) (cs:Array Value) (u:Value),M1 v= .returned u/\(∀x,F x->F' x)/\(∀x,F' x->x<w'.heap.size/\(F x\/Own ⟨w.heap.size,λb=>b=g⟩ x))/\Qv w' F' res u/\LentOk C.P w' F' g c0 cs t0 s es'/\es'.length=es.length:=by
   obtain⟨F',loc',a1⟩:=hh;unfold CI at a0;split at a0
   .simp at a0
   rename_i as has;split at a0
   .rename_i k g1 c1 t1 h0;split at a0
    .rename_i s1 es1 hkb a6;simp only[bx,b5]at a0;obtain⟨rfl,rfl,rfl,rfl,rfl,rfl⟩:=a0;obtain⟨hd,v,hv1,hv2⟩:=Gz a1 has (kw hfl);have hk:=be hkb;subst hk;have a4:=(yd a1 0).1;rw[h0]at a4;obtain⟨⟨q1,q3⟩,q2⟩:=a4 _ _ _ a6;have a5:=a1.objs (Xf fn.ntmps);rw[a6]at a5;obtain⟨p1,p2,p3,p4⟩:=a5;rcases p4 with⟨p4,_⟩|⟨b,c,cs,t,p4,p5,p6,p7,p8,p9,p10,p11⟩
     .rw[p4]at q1;simp at q1
     .rw[p4]at q1;simp only[bx,b5]at q1;obtain⟨rfl,rfl⟩:=q1;obtain rfl:t=t1:=by rw[<-p11];exact q3
      exact⟨hd,v,hv1,a1.below,F',cs,v,rfl,a1.fsup,λx hx=>⟨a1.bound x hx,a1.fsub x hx⟩,hv2 F',⟨by simpa using p5,(a1.fresh _ _ _ p4).2,p6,p7,p8,p1,p2,p3,by rw[<-a1.prog];exact p10,p9⟩,hlen⟩
    .simp at a0
   .simp at a0
  rcases hx with rfl|rfl
  .have he:e= .normal:=he;subst he;exact a3
  .have he:e= .ret:=he;subst he;exact a3
 split at h
 .rename_i s' hr;exact a7 _ _ (.inl rfl) hr h
 .rename_i s' hr;exact a7 _ _ (.inr rfl) hr h
 .simp at h
theorem wT {C C':Cx} (hP:C'.P=C.P) (hG:C'.G=C.G) {f s:Nat} {pre post:List A} {lent:Option (Nat×List (List D))} {es:List (List D)} (h:wq C f pre lent post s es):wq C' f pre lent post s es:=by
 intro w F vs1 vs2 g c0 cs0 t0 hb hi h1 h2 hl;rw[hP]at hl ⊢;exact h w F vs1 vs2 g c0 cs0 t0 hb (Zn hG.symm hi) h1 h2 hl
theorem WU {C C':Cx} (hP:C'.P=C.P) (hG:C'.G=C.G) {f s:Nat} {es es':List (List D)} {post res:List A} (h:QU C f s es post res es'):QU C' f s es post res es':=by
 intro w F vs2 g c0 cs0 t0 hb hi h2 hl;rw[hP]at hl ⊢;exact h w F vs2 g c0 cs0 t0 hb (Zn hG.symm hi) h2 hl
end
end Eng
end
section
namespace Eng
open Go Go.RowKit
variable [Env]
section
variable {C:Cx}
theorem CJ {B:Bd} {F0:Nat->Prop} {w0:World} {F:Nat->Prop} {loc:Where} {st:St} {a:Act} {w:World} (hc:Conc C B F0 w0 F loc st a w) {x:Operand} {k s:Nat} {es:List (List D)} (hv:ev st x= .arr k) (hk:nth .none st.objs k= .arr s es false) (hne:es≠[]):
 ∃(g c0:Nat) (cs0:Array Value) (t0:TypeId),loc k=some (g,c0)/\a.eval x= .slice (some ⟨g,0,none⟩) es.length c0/\LentOk C.P w F g c0 cs0 t0 s es:=by
 have a1:=(xb hc x).1;rw[hv]at a1;have a0:=hc.objs k;rw[hk]at a0;obtain⟨q1,q2,q3,q4⟩:=a0;rcases q4 with⟨_,q5⟩|⟨gb,c0,cs0,t0,q5,q6,q7,q8,q9,q10,q11,q12⟩
 .exact absurd q5 hne
 .rcases a1 _ _ _ hk with⟨b1,c1,r1,r2⟩|⟨r1,_⟩
  .rw[q5]at r1;simp only[bx,b5]at r1;obtain⟨rfl,rfl⟩:=r1;exact⟨gb,c0,cs0,t0,q5,r2,⟨by simpa using q6,(hc.fresh _ _ _ q5).2,q7,q8,q9,q1,q2,q3,by rw[<-hc.prog];exact q11,q10⟩⟩
  .rw[q5]at r1;simp at r1
end
end Eng
end
section
namespace Eng
open Go Go.RowKit
variable [Env]
def V7 (n:Nat):Nat:=n
def vOfB (k:Nat) (es:List (List D)):V:=match es with
 |[]=> .nilS
 |_::_=> .arr k
def Kz:List (List D)->Bool
 |[]=>false
 |_::_=>true
section
variable {C:Cx}
end
end Eng
end
section
namespace Eng
open Go Go.RowKit
variable [Env]
section
variable {C:Cx} {B:Bd} {F0:Nat->Prop} {w0:World} {F:Nat->Prop} {loc:Where} {st:St} {a:Act} {w:World}
end
section
variable {C:Cx}
end
end Eng
end
section
namespace Eng
open Go Go.RowKit
variable [Env]
section
variable {C:Cx} {B:Bd} {F0:Nat->Prop} {w0:World} {F:Nat->Prop} {loc:Where} {st:St} {a:Act} {w:World}
theorem Conc.adoptG {dst:Option Nat} {d s b c:Nat} {es:List (List D)} {cs:Array Value} {t:TypeId} {w':World} {F' X:Nat->Prop} {dead:List (Nat×Obj)} {rv:V} {rx:Value} (h:Conc C B F0 w0 F loc st a w) (hd:qy st.objs d=true)
 (hdead:∀p∈dead,p.2= .dead/\p.1<st.objs.length/\nth .none st.objs p.1≠ .none) (hX:∀x,X x->¬F x/\∃p∈dead,∃c,loc p.1=some (x,c))
 (hbel:BelowX ⟨w.heap.size,X⟩ w w') (hF1:∀x,F x->F' x) (hF2:∀x,F' x->x<w'.heap.size/\(F x\/Own ⟨w.heap.size,X⟩ x)) (hb1:Own ⟨w.heap.size,X⟩ b) (hL:LentOk C.P w' F' b c cs t s es) (hv:∀(loc:Where) (objs:List Obj),nth .none objs d= .arr s es false->loc d=some (b,c)->CV loc objs w' F' rv rx/\Ref objs rv):
 Ls C B F0 w0 (st.put dst rv (dead++[(d,.arr s es false)])) (a.put dst rx) w':=by
 obtain⟨a0,hlt⟩:=qH hd;have a5:=hbel.size;have hnd:=λk=>zG dead st.objs k λp hp=>⟨(hdead p hp).1,(hdead p hp).2.1⟩
 have hdd:¬∃p∈dead,p.1=d:=λ⟨p,hp,e⟩=>(hdead p hp).2.2 (by rw[e];exact a0)
 have hn:∀k,nth .none (upds st.objs (dead++[(d,.arr s es false)])) k=if k=d then .arr s es false else if(∃p∈dead,p.1=k)then .dead else nth .none st.objs k:=λk=>by
  rw[xF];show nth .none (upd (upds st.objs dead) d (.arr s es false)) k=_;by_cases hk:d=k
  .subst hk;rw[qb _ _ _ (by rw[jL];exact hlt),if_pos rfl]
  .rw[qa _ _ _ hk,if_neg (bw hk),hnd]
 have a2:∀x,Own ⟨w.heap.size,X⟩ x->Own B x:=λx hx=>by
  rcases hx with hx|hx
  .exact .inl (bs h.hB hx)
  .obtain⟨_,p,_,c,hl⟩:=hX x hx;exact(h.fresh _ _ _ hl).1
 have a6:∀x,F x->w'.heap[x]? =w.heap[x]? :=λx hx=>hbel.block x (h.bound x hx) λhX'=>(hX x hX').1 hx
 open Classical in
 let loc':Where:=⟨loc.P,λk=>if k=d then some (b,c)else if(∃p∈dead,p.1=k)then none else loc k,λk=>if k=d then t else loc.ty k⟩
 have a3:∀k x y,loc' k=some (x,y)->(k=d/\x=b/\y=c)\/(k≠d/\(¬∃p∈dead,p.1=k)/\loc k=some (x,y)):=λk x y hl=>by
  simp only[loc']at hl;split at hl
  .simp only[bx,b5]at hl;exact .inl ⟨‹_›,hl.1.symm,hl.2.symm⟩
  .split at hl
   .simp at hl
   .exact .inr ⟨‹_›,‹_›,hl⟩
 have a1:∀k x y,(¬∃p∈dead,p.1=k)->loc k=some (x,y)->¬X x:=λk x y hk hl hx=>by obtain⟨_,p,hp,c',hl2⟩:=hX x hx;exact hk ⟨p,hp,h.inj _ _ _ _ _ hl2 hl⟩
 have a4:Le st.objs (upds st.objs (dead++[(d,.arr s es false)])) loc loc':=by
  refine⟨rfl,λk hk=>by
   have:k≠d:=λe=>by subst e;exact absurd a0 hk
   simp[loc',this],λk hk=>?_,λk o' hk hc hbx=>?_,λk s' es' fz' hk hc=>?_⟩
  .have:k≠d:=λe=>by subst e;exact absurd a0 hk
   rw[hn,if_neg this];split
   .simp
   .exact hk
  .have:k≠d:=λe=>by subst e;exact absurd a0 hk
   rw[hn,if_neg this]at hc;split at hc
   .rw[<-hc]at hbx;simp[xZ]at hbx
   .rename_i e;exact⟨by rw[hc];exact hbx,by simp only[loc'];rw[if_neg this,if_neg e]⟩
  .have:k≠d:=λe=>by subst e;exact absurd a0 hk
   rw[hn,if_neg this]at hc;split at hc
   .simp at hc
   .rename_i e;exact⟨⟨_,_,hc,rfl⟩,by simp only[loc'];rw[if_neg this,if_neg e]⟩
 have hbw:BelowX B w w':=⟨hbel.os,hbel.tape,hbel.output,hbel.size,λj hj hjX=>hbel.block j (bh hj h.hB) λhx=>by
  rcases a2 j (.inr hx)with h1|h1
  .omega
  .exact hjX h1⟩
 refine⟨F',loc',h.step hF1 a6 a4 (h.below.trans hbw) (by have:=h.hB;omega) (λk=>?_) ?_ ?_ (λx hx=>(hF2 x hx).1) (λx hx=>?_) (hv _ _ (by rw[hn,if_pos rfl]) (by simp[loc'])).1 (hv loc' _ (by rw[hn,if_pos rfl]) (by simp[loc'])).2⟩
 .rw[hn];split
  .rename_i e;exact⟨hL.room,hL.s0,hL.lens,.inr ⟨b,c,cs,t,by simp[loc',e],hL.nF,hL.blk,hL.sz,hL.lc,hL.cd,by show loc.P.cellsOf t=s;rw[h.prog];exact hL.ct,by simp[loc',e]⟩⟩
  .rename_i e1;split
   .rename_i e2;show loc' k=none;simp only[loc'];rw[if_neg e1,if_pos e2]
   .rename_i e2;refine CO.le hF1 a6 a4 (by simp only[loc'];rw[if_neg e1,if_neg e2]) (by simp only[loc'];rw[if_neg e1]) (λx y hl=>?_) (h.objs k);have hf:=(h.fresh _ _ _ hl).2;have hx:=a1 _ _ _ e2 hl;refine⟨hbel.block x hf hx,λhnF hF'=>?_⟩;rcases(hF2 x hF').2 with h1|h1|h1
    .exact hnF h1
    .have h1:w.heap.size<=x:=h1;omega
    .exact hx h1
 .intro k k' x y y' q1 q2;rcases a3 _ _ _ q1 with⟨r1,r2,r3⟩|⟨r1,r2,r3⟩<;>rcases a3 _ _ _ q2 with⟨u1,u2,u3⟩|⟨u1,u2,u3⟩
  .rw[r1,u1]
  .subst r2;exfalso;rcases hb1 with hb1|hb1
   .have hb1:w.heap.size<=x:=hb1;have:=(h.fresh _ _ _ u3).2;omega
   .exact a1 _ _ _ u2 u3 hb1
  .subst u2;exfalso;rcases hb1 with hb1|hb1
   .have hb1:w.heap.size<=x:=hb1;have:=(h.fresh _ _ _ r3).2;omega
   .exact a1 _ _ _ r2 r3 hb1
  .exact h.inj _ _ _ _ _ r3 u3
 .intro k x y q1;rcases a3 _ _ _ q1 with⟨r1,r2,r3⟩|⟨r1,r2,r3⟩
  .subst r2;exact⟨a2 _ hb1,hL.lt⟩
  .have:=h.fresh _ _ _ r3;exact⟨this.1,by omega⟩
 .rcases(hF2 x hx).2 with h1|h1
  .exact h.fsub x h1
  .exact .inr (a2 x h1)
theorem Conc.goneD {dst:Option Nat} {w':World} {F' X:Nat->Prop} {dead:List (Nat×Obj)} {rv:V} {rx:Value} (h:Conc C B F0 w0 F loc st a w)
 (hdead:∀p∈dead,p.2= .dead/\p.1<st.objs.length/\nth .none st.objs p.1≠ .none) (hX:∀x,X x->¬F x/\∃p∈dead,∃c,loc p.1=some (x,c))
 (hbel:BelowX ⟨w.heap.size,X⟩ w w') (hF1:∀x,F x->F' x) (hF2:∀x,F' x->x<w'.heap.size/\(F x\/Own ⟨w.heap.size,X⟩ x))
 (hv:∀(loc:Where) (objs:List Obj),CV loc objs w' F' rv rx/\Ref objs rv):Ls C B F0 w0 (st.put dst rv dead) (a.put dst rx) w':=by
 have a4:=hbel.size;have hn:=λk=>zG dead st.objs k λp hp=>⟨(hdead p hp).1,(hdead p hp).2.1⟩
 have a1:∀x,Own ⟨w.heap.size,X⟩ x->Own B x:=λx hx=>by
  rcases hx with hx|hx
  .exact .inl (bs h.hB hx)
  .obtain⟨_,p,_,c,hl⟩:=hX x hx;exact(h.fresh _ _ _ hl).1
 have a5:∀x,F x->w'.heap[x]? =w.heap[x]? :=λx hx=>hbel.block x (h.bound x hx) λhX'=>(hX x hX').1 hx
 open Classical in
 let loc':Where:=⟨loc.P,λk=>if(∃p∈dead,p.1=k)then none else loc k,loc.ty⟩
 have a2:∀k x y,loc' k=some (x,y)->(¬∃p∈dead,p.1=k)/\loc k=some (x,y):=λk x y hl=>by
  simp only[loc']at hl;split at hl
  .simp at hl
  .exact⟨‹_›,hl⟩
 have a0:∀k x y,(¬∃p∈dead,p.1=k)->loc k=some (x,y)->¬X x:=λk x y hk hl hx=>by obtain⟨_,p,hp,c',hl2⟩:=hX x hx;exact hk ⟨p,hp,h.inj _ _ _ _ _ hl2 hl⟩
 have a3:Le st.objs (upds st.objs dead) loc loc':=by
  refine⟨rfl,λk hk=>rfl,λk hk=>?_,λk o' hk hc hbx=>?_,λk s' es' fz' hk hc=>?_⟩
  .rw[hn];split
   .simp
   .exact hk
  .rw[hn]at hc;split at hc
   .rw[<-hc]at hbx;simp[xZ]at hbx
   .rename_i e;exact⟨by rw[hc];exact hbx,by simp only[loc'];rw[if_neg e]⟩
  .rw[hn]at hc;split at hc
   .simp at hc
   .rename_i e;exact⟨⟨_,_,hc,rfl⟩,by simp only[loc'];rw[if_neg e]⟩
 have hbw:BelowX B w w':=⟨hbel.os,hbel.tape,hbel.output,hbel.size,λj hj hjX=>hbel.block j (bh hj h.hB) λhx=>by
  rcases a1 j (.inr hx)with h1|h1
  .omega
  .exact hjX h1⟩
 refine⟨F',loc',h.step hF1 a5 a3 (h.below.trans hbw) (by have:=h.hB;omega) (λk=>?_) ?_ ?_ (λx hx=>(hF2 x hx).1) (λx hx=>?_) (hv _ _).1 (hv loc' _).2⟩
 .rw[hn];split
  .rename_i e2;show loc' k=none;simp only[loc'];rw[if_pos e2]
  .rename_i e2;refine CO.le hF1 a5 a3 (by simp only[loc'];rw[if_neg e2]) rfl (λx y hl=>?_) (h.objs k);have hf:=(h.fresh _ _ _ hl).2;have hx:=a0 _ _ _ e2 hl;refine⟨hbel.block x hf hx,λhnF hF'=>?_⟩;rcases(hF2 x hF').2 with h1|h1|h1
   .exact hnF h1
   .have h1:w.heap.size<=x:=h1;omega
   .exact hx h1
 .intro k k' x y y' q1 q2;exact h.inj _ _ _ _ _ (a2 _ _ _ q1).2 (a2 _ _ _ q2).2
 .intro k x y q1;have:=h.fresh _ _ _ (a2 _ _ _ q1).2;exact⟨this.1,by omega⟩
 .rcases(hF2 x hx).2 with h1|h1
  .exact h.fsub x h1
  .exact .inr (a1 x h1)
end
def WV (C:Cx) (f:Nat) (al:List A) (s:Nat) (es:List (List D)) (as:List A):Prop:=
 ∀(w:World) (F:Nat->Prop) (vs:List Value),(∀b,F b->b<w.heap.size)->Inv C F w->All2 (CA w F) al vs->
  Calls C.P f vs.toArray w λe w'=>BelowX ⟨w.heap.size,λ_=>False⟩ w w'/\
   ∃(F':Nat->Prop) (b c:Nat) (cs:Array Value) (t:TypeId) (ys:List Value),e= .returned (.tuple (.slice (some ⟨b,0,none⟩) es.length c::ys).toArray)/\(∀x,F x->F' x)/\(∀x,F' x->x<w'.heap.size/\(F x\/Own ⟨w.heap.size,λ_=>False⟩ x))/\
    Own ⟨w.heap.size,λ_=>False⟩ b/\LentOk C.P w' F' b c cs t s es/\All2 (CA w' F') as ys
def Io (C:Cx) (st:St) (rs:List ResultVar):Option (Nat×List (List D)×List A):=
 match rs with
 | .tmp t::r::rr=>match nth .any st.tmps t with
  | .arr k=>match nth .none st.objs k with
   | .arr s es false=>match resD C st (r::rr)with
    |some as=>match kg as&&(Kz es&&!as.isEmpty)with
     |true=>some (s,es,as)
     |false=>none
    |none=>none
   |_=>none
  |_=>none
 |_=>none
def TX (tab:Nat->List A->Option (List A)) (C:Cx) (lim n f:Nat) (al:List A):Option (Nat×List (List D)×List A):=
 match C.P.funcs[f]? with
 |none=>none
 |some fn=>match fn.body with
  |none=>none
  |some c=>match jw (y5 tab C lim n) C lim c (kn fn.ntmps al)with
   |some (.normal,s)=>Io C s fn.results.toList
   |some (.ret,s)=>Io C s fn.results.toList
   |_=>none
def TY (chk:List A->Bool) (mk:List A->Nat×List (List D)×List A) (dst:Option Nat) (vs:List V) (ob:List Obj):R:=
 match dst with
 |none=> .fail
 |some d=>match qy ob d,jV ob vs with
  |true,some (al,us)=> .cond (chk al=true) (.tpo d (mk al).2.2) (us++[(d,.arr (mk al).1 (mk al).2.1 false)])
  |_,_=> .fail
def WW (C:Cx) (f s:Nat) (es:List (List D)) (post res:List A):Prop:=
 ∀(w:World) (F:Nat->Prop) (vs2:List Value) (g c0:Nat) (cs0:Array Value) (t0:TypeId),(∀b,F b->b<w.heap.size)->Inv C F w->All2 (CA w F) post vs2->LentOk C.P w F g c0 cs0 t0 s es->
  Calls C.P f (.slice (some ⟨g,0,none⟩) es.length c0::vs2).toArray w λe w'=>BelowX ⟨w.heap.size,λb=>b=g⟩ w w'/\∃v,e= .returned v/\Qv w' (Ze F ⟨w.heap.size,λb=>b=g⟩ w') res v
def TZ (tab:Nat->List A->Option (List A)) (C:Cx) (lim n f s:Nat) (es:List (List D)) (post:List A):Option (List A):=
 match C.P.funcs[f]? with
 |none=>none
 |some fn=>match fn.body with
  |none=>none
  |some c=>match jw (y5 tab C lim n) C lim c (Ku fn.ntmps [] (some (s,es)) post)with
   |some (.normal,st)=>resD C st fn.results.toList
   |some (.ret,st)=>resD C st fn.results.toList
   |_=>none
def La (s:Nat) (chk:List (List D)->List A->Bool) (mk:List (List D)->List A->List A) (_:Option Nat) (vs:List V) (ob:List Obj):R:=
 match vs with
 | .arr k::r=>match nth .none ob k,jV ob r with
  | .arr s0 es false,some (al,[])=>match bm s0 s&&Kz es with
   |true=> .cond (chk es al=true) (JR (mk es al)) [(k,.dead)]
   |false=> .fail
  |_,_=> .fail
 |_=> .fail
section
variable {C:Cx}
theorem Pq {fn:Func} {w:World} {B:Bd} {F:Nat->Prop} {s':St} {a':Act} {w':World} {s:Nat} {es:List (List D)} {as:List A} (hh:Ls C B F w s' a' w') (has:Io C s' fn.results.toList=some (s,es,as)):
 a'.defers=[]/\∃v,(results fn a'.tmps).run C.P w'= .ok v w'/\BelowX B w w'/\∃(F':Nat->Prop) (b c:Nat) (cs:Array Value) (t:TypeId) (ys:List Value),M1 v= .returned (.tuple (.slice (some ⟨b,0,none⟩) es.length c::ys).toArray)/\(∀x,F x->F' x)/\(∀x,F' x->x<w'.heap.size/\(F x\/Own B x))/\
  Own B b/\LentOk C.P w' F' b c cs t s es/\All2 (CA w' F') as ys:=by
 obtain⟨F',loc',h⟩:=hh;unfold Io at has;split at has
 .rename_i t r rr hrs;split at has
  .rename_i k hk;split at has
   .rename_i s0 a0 a6;split at has
    .rename_i as0 hrd;split at has
     .rename_i a1;simp only[bx,b5]at has;obtain⟨rfl,rfl,rfl⟩:=has;simp only[Hy,I0,List.isEmpty_eq_false_iff]at a1;obtain⟨us,h1,h2⟩:=Q4 h hrd;have h3:All2 (CA w' F') as0 us:=h2.mono_mem λr hr v hv=>XP hv (kw a1.1 r hr)
      have hx:=(yd h t).1;simp only[Act.eval]at hx;rw[hk]at hx;have a3:=h.objs k;rw[a6]at a3;obtain⟨a2,hs0,a4,a3⟩:=a3;rcases a3 with⟨_,h5⟩|⟨b',c',cs,t',h4,h5,h6,h7,h8,h9,h10,h11⟩
      .rw[h5]at a1;simp[Kz]at a1
      rcases hx _ _ _ a6 with⟨b,c,hl,hv⟩|⟨hl,_,_⟩
      .rw[h4]at hl;simp only[bx,b5]at hl;obtain⟨rfl,rfl⟩:=hl;have a5:=h.fresh _ _ _ h4;have hl2:0<us.length:=by rw[<-h2.length];exact List.length_pos_iff.2 a1.2.2
       refine⟨h.defers,.tuple (.slice (some ⟨b',0,none⟩) a0.length c'::us).toArray,?_,h.below,F',b',c',cs,t',us,rfl,h.fsup,λx hx=>⟨h.bound x hx,h.fsub x hx⟩,a5.1,⟨by simpa using h5,a5.2,h6,h7,h8,a2,hs0,a4,by rw[<-h.prog];exact h10,h9⟩,h3⟩;have h6:((fn.results.toList).mapM (O0 a'.tmps)).run C.P w'= .ok (.slice (some ⟨b',0,none⟩) a0.length c'::us) w':=by
        rw[hrs,List.mapM_cons];have h7:(O0 a'.tmps (.tmp t)).run C.P w'= .ok (.slice (some ⟨b',0,none⟩) a0.length c') w':=by show(pure (a'.tmps.getD t undef):Sem Value).run C.P w'=_;rw[hv];rfl
        simp only[M2,h7,Result.andThen,h1];rfl
       have h8:(results fn a'.tmps).run C.P w'= .ok (if h:(M3 (some ⟨b',0,none⟩) a0.length c'::us).toArray.size=1 then(M3 (some ⟨b',0,none⟩) a0.length c'::us).toArray[0]else .tuple (M3 (some ⟨b',0,none⟩) a0.length c'::us).toArray) w':=by
        unfold results;rw[Bx];simp only[M2,map_eq_pure_bind];have h5:∀g:ResultVar->Sem Value,g=O0 a'.tmps->(fn.results.toList.mapM g).run C.P w'= .ok (.slice (some ⟨b',0,none⟩) a0.length c'::us) w':=λg hg=>by rw[hg];exact h6
        rw[h5 _ (by funext r;cases r<;>rfl)];rfl
       rw[h8,dif_neg (by simp only[V1,W0];omega)]
      .rw[h4]at hl;simp at hl
     .simp at has
    .simp at has
   .simp at has
  .simp at has
 .simp at has
theorem Pr [EffOk C] {tab:Nat->List A->Option (List A)} {lim:Nat} (hm:C.P.follows .mixedOrders=true) (htab:∀f as rs,tab f as=some rs->Gives C f as rs) {n f s:Nat} {al:List A} {es:List (List D)} {as:List A}
 (h:TX tab C lim n f al=some (s,es,as)):WV C f al s es as:=by
 unfold TX at h;split at h
 .simp at h
 rename_i fn hf;split at h
 .simp at h
 rename_i c hc;have a3:∀(x:X) (s':St),(x= .normal\/x= .ret)->jw (y5 tab C lim n) C lim c (kn fn.ntmps al)=some (x,s')->Io C s' fn.results.toList=some (s,es,as)->WV C f al s es as:=by
  intro x s' hx hr a1 w F vs hb a0 h1;refine calls_of_wp hf hc (M0 (λe a' w' hp=>?_) (Q7 hm (λf as rs h=>z2 hm htab n f as rs h) lim c _ s' x _ w hr (vw hb a0 h1)));obtain⟨he,hh⟩:=hp;have a2:=Pq (fn:=fn) hh a1;rcases hx with rfl|rfl
  .have he:e= .normal:=he;subst he;exact a2
  .have he:e= .ret:=he;subst he;exact a2
 split at h
 .rename_i s' hr;exact a3 _ _ (.inl rfl) hr h
 .rename_i s' hr;exact a3 _ _ (.inr rfl) hr h
 .simp at h
theorem Ps {fn:Func} {w:World} {B:Bd} {F:Nat->Prop} {s':St} {a':Act} {w':World} {res:List A} (hh:Ls C B F w s' a' w') (has:resD C s' fn.results.toList=some res):
 a'.defers=[]/\∃v,(results fn a'.tmps).run C.P w'= .ok v w'/\BelowX B w w'/\∃u,M1 v= .returned u/\Qv w' (Ze F B w') res u:=by
 obtain⟨F',loc',a0⟩:=hh;obtain⟨us,h1,h2⟩:=Q4 a0 has;refine⟨a0.defers,if h:us.toArray.size=1 then us.toArray[0]else .tuple us.toArray,?_,a0.below,_,rfl,?_⟩
 .unfold results;rw[Bx];simp only[M2,map_eq_pure_bind];have h5:∀g:ResultVar->Sem Value,g=O0 a'.tmps->(fn.results.toList.mapM g).run C.P w'= .ok us w':=λg hg=>by rw[hg];exact h1
  rw[h5 _ (by funext r;cases r<;>rfl)];rfl
 .match res,us,h2 with
  |[a],[u],h2=>exact h2.1
  |[],[],h2=>exact⟨#[],rfl,trivial⟩
  |a::b::r,u::v::s,h2=>exact⟨(u::v::s).toArray,by simp,h2⟩
theorem Pt [EffOk C] {tab:Nat->List A->Option (List A)} {lim:Nat} (hm:C.P.follows .mixedOrders=true) (htab:∀f as rs,tab f as=some rs->Gives C f as rs) {n f s:Nat} {es:List (List D)} {post res:List A}
 (h:TZ tab C lim n f s es post=some res):WW C f s es post res:=by
 unfold TZ at h;split at h
 .simp at h
 rename_i fn hf;split at h
 .simp at h
 rename_i c hc;have a3:∀(x:X) (s':St),(x= .normal\/x= .ret)->jw (y5 tab C lim n) C lim c (Ku fn.ntmps [] (some (s,es)) post)=some (x,s')->resD C s' fn.results.toList=some res->WW C f s es post res:=by
  intro x s' hx hr a1 w F vs2 g c0 cs0 t0 hb a0 h2 hL;refine calls_of_wp hf hc (M0 (λe a' w' hp=>?_) (Q7 hm (λf as rs h=>z2 hm htab n f as rs h) lim c _ s' x _ w hr (Zo (vs1:=[]) hb a0 trivial h2 (λs0 es0 he=>by simp only[bx,b5]at he;obtain⟨rfl,rfl⟩:=he;exact hL))));obtain⟨he,hh⟩:=hp;have a2:=Ps (fn:=fn) hh a1;rcases hx with rfl|rfl
  .have he:e= .normal:=he;subst he;exact a2
  .have he:e= .ret:=he;subst he;exact a2
 split at h
 .rename_i s' hr;exact a3 _ _ (.inl rfl) hr h
 .rename_i s' hr;exact a3 _ _ (.inr rfl) hr h
 .simp at h
theorem Pu {f:Nat} {fn:Func} {chk:List A->Bool} {mk:List A->Nat×List (List D)×List A} (hf:C.P.funcs[f]? =some fn) (hb:fn.body≠none) (hn:fn.name≠ "runtime.NumGoroutine") (hmk:∀al,chk al=true->WV C f al (mk al).1 (mk al).2.1 (mk al).2.2):EffAt C f (TY chk mk):=by
 refine⟨λ{B F0 w0 F loc st a w dst args ts ty pos after g} hc=>?_,λdst vs ob ob' hh hd=>?_,λdst vs ob hv _=>?_⟩
 .unfold TY;split
  .trivial
  .rename_i d;split
   .rename_i al us hd a7;obtain⟨a3,a4⟩:=kK hc a7 (jK hc args.toList);obtain⟨F',a6,hF',hb'⟩:=hc.freezes a3 st.dirty;have a2:=a4 F' hF' hb';intro hck next Q hnx
    have hG:=hmk al hck;have a0:=hG w F' (args.toList.map a.eval) a6.bound a6.inv a2;have a1:(args.toList.map a.eval).toArray=args.map a.eval:=by apply Aw;simp
    rw[a1]at a0;refine z8 hf hb hn a0 λe w' he=>?_
    obtain⟨a5,F2,b,c,cs,t,ys,rfl,h1,h2,h3,h4,h5⟩:=he;refine⟨_,rfl,hnx _ _ ?_⟩;have h6:=a6.adoptG (dst:=some d) (d:=d) (dead:=[]) (rv:= .tpo d (mk al).2.2) (rx:= .tuple (.slice (some ⟨b,0,none⟩) (mk al).2.1.length c::ys).toArray) (z6 a3 hd) (λp hp=>by simp at hp) (λx hx=>hx.elim) a5 h1 h2 h3 h4
     (λloc objs q1 q2=>⟨⟨_,_,rfl,λs' es' fz' hc=>by
      rw[q1]at hc;simp only[Lr]at hc;obtain⟨rfl,rfl,rfl⟩:=hc;exact⟨b,c,q2,rfl⟩,h5⟩,by
      show nth .none objs d≠ .none;rw[q1];simp⟩)
    refine xi h6 rfl ?_;show upds (upds st.objs us) ([]++[(d,.arr (mk al).1 (mk al).2.1 false)])=upds st.objs (us++[(d,.arr (mk al).1 (mk al).2.1 false)]);rw[xF us];rfl
   .trivial
 .unfold TY;cases dst with
  |none=>rfl
  |some d=>
   have h1:jV ob vs=jV ob' vs:=jb (c:=2) λv hv k hk=> .inl (hh k (by
    rw[qB];exact⟨k,Pl.2 ⟨v,hv,hk⟩,.inl rfl⟩))
   simp only[h1];rw[hd d (.inl rfl)]
 .unfold TY;split
  .trivial
  .rename_i d;split
   .rename_i al us hd a7;have a3:=ke a7;refine⟨λp hp=>?_,λk hk=>?_⟩
    .rcases Tk.1 hp with hp|hp
     .obtain⟨⟨v,hv1,hv2⟩,s',es',fz,h1,h2⟩:=a3 p hp;refine⟨.inr ⟨?_,by rw[h1];simp⟩,by rw[h2];simp,λu hu=>by rw[h2]at hu;simp[qW]at hu⟩;rw[qB];exact⟨p.1,Pl.2 ⟨v,hv1,hv2⟩,.inl rfl⟩
     .simp only[P1]at hp;subst hp;exact⟨.inl ⟨.inl rfl,hd⟩,by simp,λu hu=>by simp[qW]at hu⟩
    .simp only[qk,P1]at hk;subst hk;exact .inr ⟨hd,_,Ts _ (P1.2 rfl)⟩
   .trivial
theorem Pv {f s:Nat} {fn:Func} {chk:List (List D)->List A->Bool} {mk:List (List D)->List A->List A} (hf:C.P.funcs[f]? =some fn) (hb:fn.body≠none) (hn:fn.name≠ "runtime.NumGoroutine")
 (hmk:∀es al,chk es al=true->WW C f s es al (mk es al)):EffAt C f (La s chk mk):=by
 refine⟨λ{B F0 w0 F loc st a w dst args ts ty pos after g} hc=>?_,λdst vs ob ob' hh hd=>?_,λdst vs ob hv _=>?_⟩
 .unfold La;split
  .rename_i k r a4;split
   .rename_i s0 es al hk ad;split
    .rename_i a5;simp only[Hy]at a5;obtain rfl:=be a5.1;intro hck next Q hnx
     have hG:=hmk es al hck;obtain⟨x0,xs,ag⟩:∃x0 xs,args.toList=x0::xs:=by
      cases h:args.toList with
      |nil=>rw[h]at a4;simp at a4
      |cons x0 xs=>exact⟨x0,xs,rfl⟩
     rw[ag]at a4;simp only[W1,bd]at a4;obtain⟨hx0,rfl⟩:=a4;obtain⟨hfz,a6⟩:=kK hc ad (jK hc xs);have a2:=a6 F (λ_ h=>h) (λp hp=>by simp at hp);obtain⟨gb,c0,cs0,t0,q1,q2,hL⟩:=CJ hc hx0 hk (λe=>by rw[e]at a5;simp[Kz]at a5);have a0:=hG w F (xs.map a.eval) gb c0 cs0 t0 hc.bound hc.inv a2 hL;have a1:(M3 (some ⟨gb,0,none⟩) es.length c0::xs.map a.eval).toArray=args.map a.eval:=by apply Aw;rw[Dd,ag];simp[q2]
     rw[a1]at a0;refine z8 hf hb hn a0 λe w' he=>?_
     obtain⟨a3,v,rfl,a7⟩:=he;refine⟨_,rfl,hnx _ _ ?_⟩;exact hc.goneD (dead:=[(k,.dead)]) (rv:=JR (mk es al)) (λp hp=>by
      simp only[P1]at hp;subst hp;exact⟨rfl,xk (by rw[hk];simp),by rw[hk];simp⟩) (λx hx=>by
      have hx:x=gb:=hx;rw[hx];exact⟨hL.nF,(k,.dead),by simp,c0,q1⟩) a3 (λx hx=> .inl hx) (λx hx=>by
      rcases hx with hx|hx
      .exact⟨bh (hc.bound x hx) a3.size,.inl hx⟩
      .exact⟨hx.2,.inr hx.1⟩) (λloc objs=>WA a7)
    .trivial
   .trivial
  .trivial
 .unfold La;cases vs with
  |nil=>rfl
  |cons v r=>
   cases v with
   |arr k=>
    have h0:nth .none ob k=nth .none ob' k:=hh k (by
     rw[qB];exact⟨k,Pl.2 ⟨.arr k,by simp,by simp[qk]⟩,.inl rfl⟩)
    have h1:jV ob r=jV ob' r:=jb (c:=2) λv hv k hk=> .inl (hh k (by
     rw[qB];exact⟨k,Pl.2 ⟨v,by simp[hv],hk⟩,.inl rfl⟩))
    simp only[h0,h1]
   |_=>rfl
 .unfold La;split
  .rename_i k r;split
   .rename_i s0 es al hk ad;split
    .refine⟨λp hp=>?_,λj hj=>by rw[wP]at hj;simp at hj⟩;simp only[P1]at hp;subst hp;refine⟨.inr ⟨?_,by rw[hk];simp⟩,by simp,λu hu=>by simp[qW]at hu⟩;rw[qB];exact⟨k,Pl.2 ⟨.arr k,by simp,by simp[qk]⟩,.inl rfl⟩
    .trivial
   .trivial
  .trivial
end
theorem Lb {C C':Cx} (hP:C'.P=C.P) (hG:C'.G=C.G) {f s:Nat} {al as:List A} {es:List (List D)} (h:WV C f al s es as):WV C' f al s es as:=by
 intro w F vs hb hi h2;rw[hP];exact h w F vs hb (Zn hG.symm hi) h2
theorem Lc {C C':Cx} (hP:C'.P=C.P) (hG:C'.G=C.G) {f s:Nat} {es:List (List D)} {post res:List A} (h:WW C f s es post res):WW C' f s es post res:=by
 intro w F vs2 g c0 cs0 t0 hb hi h2 hl;rw[hP]at hl ⊢;exact h w F vs2 g c0 cs0 t0 hb (Zn hG.symm hi) h2 hl
end Eng
end
section
namespace Eng
open Go Go.RowKit
variable [Env]
def ek:V->Bool
 | .arrAt .. =>true
 | .boxAt .. =>true
 |_=>false
section
variable {g c t:Nat}
def S0 (g c t:Nat) (a b:V):Prop:=(a=b/\ek a=false)\/∃k,(a= .arrAt k 0 0 0/\b= .arrAt k g c t)\/(a= .boxAt k 0/\b= .boxAt k g)
structure SmE (g c t:Nat) (st st':St):Prop where
 tm:∃a b r,st.tmps=a::r/\st'.tmps=b::r/\S0 g c t a b
 ob:st'.objs=st.objs
 dt:st'.dirty=st.dirty
omit [Env] in
theorem SmE.nth {st st':St} (h:SmE g c t st st') (i:Nat):nth .any st'.tmps i=nth .any st.tmps i\/S0 g c t (nth .any st.tmps i) (nth .any st'.tmps i):=by
 obtain⟨a,b,r,e1,e2,h0⟩:=h.tm;rw[e1,e2];cases i with
 |zero=>exact .inr h0
 |succ i=>exact .inl rfl
omit [Env] in
theorem S0.un {a b:V} (h:S0 g c t a b):un b=un a:=by
 rcases h with⟨rfl,_⟩|⟨k,⟨rfl,rfl⟩|⟨rfl,rfl⟩⟩<;>rfl
omit [Env] in
theorem SmE.ev {st st':St} (h:SmE g c t st st'):ev st'=ev st:=by
 funext x;cases x with
 |tmp i=>
  show Eng.un _=Eng.un _;rcases h.nth i with e|e
  .rw[e]
  .exact e.un
 |_=>rfl
omit [Env] in
theorem SmE.step {st st':St} {K:Nat->List A->Option (List A)} {C:Cx} {ops:Array Oper} {o:Oper} (h:SmE g c t st st'):Kr K C ops o st'=Kr K C ops o st:=by
 unfold Kr;rw[h.ev,h.ob];split
 .rfl
 .split
  .rfl
  .rename_i i _;rcases h.nth i with e|⟨e,_⟩|⟨k,⟨e1,e2⟩|⟨e1,e2⟩⟩
   .rw[e]
   .rw[e]
   .rw[e1,e2]
   .rw[e1,e2]
omit [Env] in
theorem SmE.put {st st':St} (h:SmE g c t st st') {d:Option Nat} (hd:d≠some 0) (v:V) (up:List (Nat×Obj)):SmE g c t (st.put d v up) (st'.put d v up):=by
 obtain⟨a,b,r,e1,e2,h0⟩:=h.tm;refine⟨?_,?_,?_⟩
 .unfold Lv;simp only;cases d with
  |none=>exact⟨a,b,r,e1,e2,h0⟩
  |some i=>
   cases i with
   |zero=>exact absurd rfl hd
   |succ i=>exact⟨a,b,upd r i v,by rw[e1];rfl,by rw[e2];rfl,h0⟩
 .unfold Lv;simp only;rw[h.ob]
 .unfold Lv;simp only;rw[h.dt]
def OS {α:Type} (g c t:Nat):Option (α×St)->Option (α×St)->Prop
 |none,none=>True
 |some (x,s),some (y,s')=>x=y/\SmE g c t s s'
 |_,_=>False
def OS1 (g c t:Nat):Option St->Option St->Prop
 |none,none=>True
 |some s,some s'=>SmE g c t s s'
 |_,_=>False
omit [Env] in
theorem Yl {K:Nat->List A->Option (List A)} {C:Cx} {ops:Array Oper}:∀{l:List Oper} {st st':St},(∀o∈l,o.dst≠some 0)->SmE g c t st st'->OS1 g c t (O2 K C ops l st) (O2 K C ops l st')
 |[],_,_,_,h=>h
 |o::l,st,st',hl,h=>by
  simp only[O2];rw[h.step];cases Kr K C ops o st with
  |none=>trivial
  |some x=>exact Yl (λo ho=>hl o (by simp[ho])) (h.put (hl o (by simp)) x.1 x.2)
omit [Env] in
theorem G0 {K:Nat->List A->Option (List A)} {C:Cx} {ops:Array Oper}:∀{l:List Oper} {st st':St} {rs:List Rec},(∀o∈l,o.dst≠some 0)->SmE g c t st st'->
 (ZY K C ops l st rs=none/\ZY K C ops l st' rs=none)\/∃s s' r,ZY K C ops l st rs=some (s,r)/\ZY K C ops l st' rs=some (s',r)/\SmE g c t s s'
 |[],st,st',rs,_,h=> .inr ⟨st,st',rs,rfl,rfl,h⟩
 |o::l,st,st',rs,hl,h=>by
  simp only[ZY];rw[h.step,h.ev,h.ob];cases Kr K C ops o st with
  |none=>exact .inl ⟨rfl,rfl⟩
  |some x=>exact G0 (λo ho=>hl o (by simp[ho])) (h.put (hl o (by simp)) x.1 x.2)
omit [Env] in
theorem CK {K:Nat->List A->Option (List A)} {C:Cx} {ops:Array Oper} {d:Bool} {st st':St} (hl:∀o∈ops.toList,o.dst≠some 0) (h:SmE g c t st st'):OS1 g c t (Bc K C ops d st) (Bc K C ops d st'):=by
 unfold Bc;cases d with
 |false=>exact Yl hl h
 |true=>
  simp only;cases vm C ops.toList with
  |true=>exact Yl hl h
  |false=>
   simp only;rcases G0 (K:=K) (C:=C) (ops:=ops) (rs:=[]) hl h with⟨e1,e2⟩|⟨s,s',r,e1,e2,h2⟩
   .rw[e1,e2];trivial
   .rw[e1,e2];simp only;cases wH C ops.toList r with
    |true=>exact h2
    |false=>trivial
omit [Env] in
theorem SmE.map {st st':St} {f:V->V} {ob:List Obj} {dt:List Nat} (h:SmE g c t st st') (hf:∀a b,S0 g c t a b->S0 g c t (f a) (f b)):SmE g c t ⟨st.tmps.map f,ob,dt⟩ ⟨st'.tmps.map f,ob,dt⟩:=by
 obtain⟨a,b,r,e1,e2,h0⟩:=h.tm;exact⟨⟨f a,f b,r.map f,by rw[e1];rfl,by rw[e2];rfl,hf _ _ h0⟩,rfl,rfl⟩
omit [Env] in
theorem S0.ren {d m:Nat} {a b:V} (h:S0 g c t a b):S0 g c t (O1 d m a) (O1 d m b):=by
 rcases h with⟨rfl,h⟩|⟨k,⟨rfl,rfl⟩|⟨rfl,rfl⟩⟩
 .refine .inl ⟨rfl,?_⟩;cases a<;>first|rfl|simp[ek]at h
 .exact .inl ⟨rfl,rfl⟩
 .exact .inr ⟨_,.inr ⟨rfl,rfl⟩⟩
omit [Env] in
theorem S0.frz {k:Nat} {ds:List D} {a b:V} (h:S0 g c t a b):S0 g c t (Kq k ds a) (Kq k ds b):=by
 rcases h with⟨rfl,h⟩|⟨j,⟨rfl,rfl⟩|⟨rfl,rfl⟩⟩
 .refine .inl ⟨rfl,?_⟩;cases a<;>first|(simp[ek]at h;done)|skip
  all_goals first|rfl|(simp only[Kq];split<;>rfl)
 .exact .inr ⟨_,.inl ⟨rfl,rfl⟩⟩
 .simp only[Kq];cases bm j k with
  |true=>exact .inl ⟨rfl,rfl⟩
  |false=>exact .inr ⟨_,.inr ⟨rfl,rfl⟩⟩
omit [Env] in
theorem SmE.evict1 {d:Nat} {st st':St} (h:SmE g c t st st'):SmE g c t (evict1 d st) (evict1 d st'):=by
 unfold I3;rw[h.ob];split
 .exact h
 .split
  .rw[jl,jl];exact h.map λ_ _ h=>h.ren
  .exact h
omit [Env] in
theorem SmE.evict:∀{l:List Nat} {st st':St},SmE g c t st st'->SmE g c t (evict l st) (evict l st')
 |[],_,_,h=>h
 |d::l,st,st',h=>SmE.evict (l:=l) (st:=I3 d st) (st':=I3 d st') (SmE.evict1 h)
omit [Env] in
theorem SmE.frz1 {k:Nat} {st st':St} (h:SmE g c t st st'):SmE g c t (frz1 k st) (frz1 k st'):=by
 unfold Eng.frz1;rw[h.ob];split
 .split
  .rw[jm,jm];exact h.map λ_ _ h=>h.frz
  .exact h
 .exact h
omit [Env] in
theorem SmE.settle1 {k i:Nat} {st st':St} (h:SmE g c t st st'):SmE g c t (settle1 k i st) (settle1 k i st'):=by
 unfold I2;rw[h.ob,h.dt];split
 .split
  .split
   .exact⟨h.tm,rfl,rfl⟩
   .exact h
  .exact h
 .exact h
omit [Env] in
theorem SmE.settleN {k:Nat}:∀{n:Nat} {st st':St},SmE g c t st st'->SmE g c t (settleN k n st) (settleN k n st')
 |0,_,_,h=>h
 |n+1,st,st',h=>SmE.settleN (n:=n) (st:=I2 k n st) (st':=I2 k n st') h.settle1
omit [Env] in
theorem SmE.settle {k:Nat} {st st':St} (h:SmE g c t st st'):SmE g c t (settle k st) (settle k st'):=by
 unfold Eng.settle;rw[h.ob];split
 .split
  .exact h.settleN
  .exact h
 .exact h
omit [Env] in
theorem SmE.settleM:∀{l:List Operand} {st st':St},SmE g c t st st'->SmE g c t (settleM l st) (settleM l st')
 |[],_,_,h=>h
 |x::l,st,st',h=>by
  simp only[Eng.settleM];rw[h.ev];split
  .exact SmE.settleM h.frz1
  .exact SmE.settleM h
omit [Env] in
theorem SmE.settleO {C:Cx}:∀{l:List Oper} {st st':St},SmE g c t st st'->SmE g c t (settleO C l st) (settleO C l st')
 |[],_,_,h=>h
 |o::l,st,st',h=>by
  simp only[I1];split
  .split
   .rw[h.ev];split
    .exact SmE.settleO h.settle
    .exact SmE.settleO h
   .exact SmE.settleO h
  .exact SmE.settleO h.settleM
  .exact SmE.settleO h
omit [Env] in
theorem G1 {o:Oper}:∀{l:List Oper},o∈l->∀i,o.dst=some i->i∈HR l
 |p::l,h,i,hi=>by
  simp only[HR];rcases U0.1 h with rfl|h
  .rw[hi];simp
  .have:=G1 h i hi;split
   .exact bc _ this
   .exact this
omit [Env] in
theorem wU {K:Nat->List A->Option (List A)} {C:Cx}:∀{n:Nat} {b:Code} {st st':St},0∉ZM b->SmE g c t st st'->OS g c t (jw K C n b st) (jw K C n b st')
 |0,_,_,_,_,_=>trivial
 |n+1,b,st,st',hb,h=>by
  cases b with
  |skip=>exact⟨rfl,h⟩
  |region id ops d=>
   simp only[jw];have:=CK (K:=K) (C:=C) (ops:=ops) (d:=d) (λo ho e=>hb (G1 ho 0 e)) (SmE.settleO (C:=C) (l:=ops.toList) (SmE.evict (l:=Ul C ops.toList) h));revert this;cases Bc K C ops d (I1 C ops.toList (J3 (Ul C ops.toList) st))<;>cases Bc K C ops d (I1 C ops.toList (J3 (Ul C ops.toList) st'))<;>intro this<;>first|trivial|exact this.elim|skip
   have this:SmE g c t _ _:=this;exact⟨rfl,this.tm,this.ob,rfl⟩
  |seq a b=>
   simp only[ZM,Tk,not_or]at hb;simp only[jw];have:=wU (K:=K) (C:=C) (n:=n) hb.1 h;revert this;cases jw K C n a st with
   |none=>cases jw K C n a st' with
    |none=>exact λh=>h
    |some x=>exact λh=>h.elim
   |some x=>cases jw K C n a st' with
    |none=>exact λh=>h.elim
    |some y=>
     obtain⟨x,s⟩:=x;obtain⟨y,s'⟩:=y;rintro⟨rfl,h2⟩;cases x with
     |normal=>exact wU hb.2 h2
     |_=>exact⟨rfl,h2⟩
  |cond x a b=>
   simp only[ZM,Tk,not_or]at hb;simp only[jw];rw[h.ev];split
   .exact wU hb.1 h
   .exact wU hb.2 h
   .trivial
  |block id a=>
   simp only[ZM]at hb;simp only[jw];have:=wU (K:=K) (C:=C) (n:=n) hb h;revert this;cases jw K C n a st with
   |none=>cases jw K C n a st' with
    |none=>exact λh=>h
    |some x=>exact λh=>h.elim
   |some x=>cases jw K C n a st' with
    |none=>exact λh=>h.elim
    |some y=>
     obtain⟨x,s⟩:=x;obtain⟨y,s'⟩:=y;rintro⟨rfl,h2⟩;cases x with
     |exit i=>simp only;split<;>exact⟨rfl,h2⟩
     |_=>exact⟨rfl,h2⟩
  |exit id=>exact⟨rfl,h⟩
  |ret=>exact⟨rfl,h⟩
  |loop a=>
   have hb1:0∉ZM a:=by simpa only[ZM]using hb
   simp only[jw];have:=wU (K:=K) (C:=C) (n:=n) hb1 h;revert this;cases jw K C n a st with
   |none=>cases jw K C n a st' with
    |none=>exact λh=>h
    |some x=>exact λh=>h.elim
   |some x=>cases jw K C n a st' with
    |none=>exact λh=>h.elim
    |some y=>
     obtain⟨x,s⟩:=x;obtain⟨y,s'⟩:=y;rintro⟨rfl,h2⟩;cases x with
     |normal=>exact wU hb h2
     |_=>exact⟨rfl,h2⟩
  |_=>trivial
omit [Env] in
theorem SmE.resD {C:Cx} {st st':St} (h:SmE g c t st st'):∀{rs:List ResultVar},resD C st' rs=resD C st rs
 |[]=>rfl
 | .tmp i::r=>by
  simp only[J4];rw[SmE.resD h,h.ob];rcases h.nth i with e|⟨e,_⟩|⟨k,⟨e1,e2⟩|⟨e1,e2⟩⟩
  .rw[e]
  .rw[e]
  .rw[e1,e2];rfl
  .rw[e1,e2];rfl
 | .cell i t'::r=>by
  simp only[J4];rw[SmE.resD h,h.ob];rcases h.nth i with e|⟨e,_⟩|⟨k,⟨e1,e2⟩|⟨e1,e2⟩⟩
  .rw[e]
  .rw[e]
  .rw[e1,e2]
  .rw[e1,e2]
end
omit [Env] in
theorem CP {n:Nat} {l:List Nat} (h:Qy n l=false):n∉l:=λe=>by rw[xK.2 e]at h;cases h
def CQ (C:Cx) (f:Nat):List Nat:=
 match C.P.funcs[f]? with
 |some fn=>match fn.body with
  |some b=>ZM b
  |none=>[]
 |none=>[]
def okI (C:Cx) (f s:Nat) (es:List (List D)) (o:Option (List A×List (List D)×Nat×Nat×Nat×Nat)):Bool:=
 match o with
 |some (as,es',s',0,0,0)=>kg as&&(bm es'.length es.length&&(bm s' s&&(!Qy 0 (CQ C f))))
 |_=>false
omit [Env] in
theorem Ld {C:Cx} {fn:Func} {st st':St} {g c t s:Nat} {as:List A} {es:List (List D)} (h:SmE g c t st st') (he:CI C fn st=some (as,es,s,0,0,0)):CI C fn st'=some (as,es,s,g,c,t):=by
 unfold CI at he ⊢;rw[h.resD,h.ob];split at he
 .simp at he
 rename_i as' has;obtain⟨a,b,r,e1,e2,h0⟩:=h.tm;have n1:nth .any st.tmps 0=a:=by rw[e1];rfl
 have n2:nth .any st'.tmps 0=b:=by rw[e2];rfl
 rw[n1]at he;rw[n2];rcases h0 with⟨rfl,ha⟩|⟨k,⟨rfl,rfl⟩|⟨rfl,rfl⟩⟩
 .split at he
  .simp[ek]at ha
  .simp at he
 .simp only at he ⊢;split at he
  .rename_i q1 q2;simp only[bx,b5]at he;obtain⟨rfl,rfl,rfl,_⟩:=he;rfl
  .simp at he
 .simp at he
omit [Env] in
theorem Lf {tab:Nat->List A->Option (List A)} {C:Cx} {lim n f s s':Nat} {es es':List (List D)} {post as:List A} (hm:Qy 0 (CQ C f)=false) (h:WT tab C lim n f s es post 0 0 0=some (as,es',s',0,0,0)) (g c t:Nat):WT tab C lim n f s es post g c t=some (as,es',s',g,c,t):=by
 unfold WT at h ⊢;unfold CQ at hm;split at h
 .simp at h
 rename_i fn hf;rw[hf]at hm;simp only at hm;split at h
 .simp at h
 rename_i b hbd;rw[hbd]at hm;simp only at hm;have h0:SmE g c t (Jb fn.ntmps s es post 0 0 0) (Jb fn.ntmps s es post g c t):=⟨⟨_,_,_,rfl,rfl,.inr ⟨_,.inl ⟨rfl,rfl⟩⟩⟩,rfl,rfl⟩;have:=wU (K:=y5 tab C lim n) (C:=C) (n:=lim) (b:=b) (CP hm) h0;revert this h;cases jw (y5 tab C lim n) C lim b (Jb fn.ntmps s es post 0 0 0)with
 |none=>intro h;simp at h
 |some x=>
  obtain⟨x,s1⟩:=x;cases jw (y5 tab C lim n) C lim b (Jb fn.ntmps s es post g c t)with
  |none=>intro _ h;exact h.elim
  |some y=>
   obtain⟨y,s2⟩:=y;intro h;rintro⟨rfl,h2⟩;cases x with
   |normal=>exact Ld h2 h
   |ret=>exact Ld h2 h
   |exit i=>simp at h
noncomputable def xG (tab:Nat->List A->Option (List A)) (C:Cx) (f s:Nat):Option Nat->List V->List Obj->R:=
 Jc s (λes al=>match es with|[]=>false|_=>okI C f s es (WT tab C 1000 40 f s es al 0 0 0)) (λes al=>match WT tab C 1000 40 f s es al 0 0 0 with|some x=>x.2.1|none=>[])
  (λes al=>match WT tab C 1000 40 f s es al 0 0 0 with|some x=>x.1|none=>[])
theorem qx {C C':Cx} [EffOk C] {tab:Nat->List A->Option (List A)} (hm:C.P.follows .mixedOrders=true) (htab:∀f as rs,tab f as=some rs->Gives C f as rs) (hP:C'.P=C.P) (hG:C'.G=C.G) {f s:Nat} {fn:Func} (hf:C'.P.funcs[f]? =some fn) (hb:fn.body≠none) (hn:fn.name≠ "runtime.NumGoroutine"):EffAt C' f (xG tab C f s):=by
 refine Kw hf hb hn λes al hc=>?_
 cases hes:es with
 |nil=>rw[hes]at hc;cases hc
 |cons e r=>
  rw[hes]at hc;simp only at hc;refine⟨by simp,WU hP hG ?_⟩;unfold okI at hc;split at hc
  .rename_i as es' s' hr;simp only[Hy,I0]at hc;obtain⟨h1,h2,h3,h4⟩:=hc;obtain rfl:=be h3;rw[hr];exact Pp hm htab h1 h2 λg c t=>Lf h4 hr g c t
  .cases hc
end Eng
end
section
namespace Eng
open Go Go.RowKit
variable [Env]
structure LentP (w:World) (F:Nat->Prop) (g:Nat) (cs:Array Value) (ds:List D) (t:TypeId):Prop where
 nF:¬F g
 lt:g<w.heap.size
 blk:w.heap[g]? =some (.cells cs t (0,0))
 cd:All2 (CD w F) ds cs.toList
def eo (w:World) (F:Nat->Prop) (g:Nat) (res:List A) (ds':List D) (v:Value) (w':World):Prop:=
 BelowX ⟨w.heap.size,λb=>b=g⟩ w w'/\∃(F':Nat->Prop) (cs:Array Value) (t:TypeId),(∀x,F x->F' x)/\(∀x,F' x->x<w'.heap.size/\(F x\/Own ⟨w.heap.size,λb=>b=g⟩ x))/\Qv w' F' res v/\LentP w' F' g cs ds' t
def WX (C:Cx) (f:Nat) (ds:List D) (post res:List A) (ds':List D):Prop:=
 ∀(w:World) (F:Nat->Prop) (vs2:List Value) (g:Nat) (cs:Array Value) (t:TypeId),(∀b,F b->b<w.heap.size)->Inv C F w->All2 (CA w F) post vs2->LentP w F g cs ds t->
  Calls C.P f (.pointer (some ⟨g,0,none⟩)::vs2).toArray w λe w'=>∃v,e= .returned v/\eo w F g res ds' v w'
theorem Lg {C C':Cx} (hP:C'.P=C.P) (hG:C'.G=C.G) {f:Nat} {ds ds':List D} {post res:List A} (h:WX C f ds post res ds'):WX C' f ds post res ds':=by
 intro w F vs2 g cs t hb hi h2 hl;rw[hP];exact h w F vs2 g cs t hb (Zn hG.symm hi) h2 hl
def Uo (n:Nat) (ds:List D) (post:List A) (g:Nat):St:=
 ⟨.boxAt (V7 n) g::(post.map SW++Sz (n-(1+post.length)) .any),upd (Sz (n+8) .none) (V7 n) (.box (ds.map V.c)),[]⟩
def er (C:Cx) (fn:Func) (st:St):Option (List A×List D×Nat):=
 match resD C st fn.results.toList with
 |none=>none
 |some as=>match nth .any st.tmps 0 with
  | .boxAt k g=>match bm k (V7 fn.ntmps),nth .none st.objs (V7 fn.ntmps)with
   |true,.box cells=>match qA cells with
    |some ds=>some (as,ds,g)
    |none=>none
   |_,_=>none
  |_=>none
def Ip (tab:Nat->List A->Option (List A)) (C:Cx) (lim n f:Nat) (ds:List D) (post:List A) (g:Nat):Option (List A×List D×Nat):=
 match C.P.funcs[f]? with
 |none=>none
 |some fn=>match fn.body with
  |none=>none
  |some b=>match jw (y5 tab C lim n) C lim b (Uo fn.ntmps ds post g)with
   |some (.normal,st)=>er C fn st
   |some (.ret,st)=>er C fn st
   |_=>none
section
variable {C:Cx}
theorem Lh {n g:Nat} {ds:List D} {post:List A} {vs2:List Value} {w:World} {F:Nat->Prop} {cs:Array Value} {t:TypeId} (hb:∀b,F b->b<w.heap.size) (hinv:Inv C F w) (h2:All2 (CA w F) post vs2) (hL:LentP w F g cs ds t):
 Ls C ⟨w.heap.size,λb=>b=g⟩ F w (Uo n ds post g) {tmps:=(No (some ⟨g,0,none⟩)::vs2).toArray++Hx (n-(No (some ⟨g,0,none⟩)::vs2).toArray.size) undef,defers:=[]} w:=by
 have hl2:=h2.length;have hkl:V7 n<(Sz (n+8) Lm).length:=by simp[V7]
 have hn:∀k,nth .none (upd (Sz (n+8) Lm) (V7 n) (.box (ds.map V.c))) k=if k=V7 n then .box (ds.map V.c)else .none:=λk=>by
  by_cases hk:V7 n=k
  .subst hk;rw[qb _ _ _ hkl,if_pos rfl]
  .rw[qa _ _ _ hk,Zf,if_neg (bw hk)]
 have a1:∀(ds:List D) (vs:List Value) (a3:Where) (a0:List Obj),All2 (CD w F) ds vs->All2 (λv x=>CV a3 a0 w F v x/\x.oneCell'=true) (ds.map V.c) vs:=by
  intro ds
  induction ds with
  |nil=>intro vs a3 a0 a2;cases vs with|nil=>trivial|cons _ _=>exact a2.elim
  |cons d ds ih=>intro vs a3 a0 a2;cases vs with|nil=>exact a2.elim|cons y vs=>exact⟨⟨a2.1,a2.1.one⟩,ih vs a3 a0 a2.2⟩
 refine⟨F,⟨C.P,λk=>if k=V7 n then some (g,0)else none,λ_=>0⟩,⟨rfl,BelowX.refl _ _,bv _,rfl,?_,λv hv=>?_,λk=>?_,?_,?_,hb,λb h=> .inl h,λ_ h=>h,hinv⟩⟩
 .simp only[Uo,Hv,Hu,V1,ba];refine⟨?_,vu (Q5 h2) ?_⟩
  .intro o _ _;exact⟨⟨0,by simp⟩,rfl⟩
  .have e:(No (some ⟨g,0,none⟩)::vs2).length=1+post.length:=by simp only[W0];omega
   rw[e];exact yU trivial _
 .simp only[Uo,Tk,U0,U3,W2]at hv;rcases hv with rfl|⟨x,_,rfl⟩|⟨_,rfl⟩
  .intro hc;have hc:nth Lm (upd (Sz (n+8) Lm) (V7 n) (.box (ds.map V.c))) (V7 n)=Lm:=hc;rw[hn,if_pos rfl]at hc;simp at hc
  .exact yT x
  .trivial
 .simp only[Uo];rw[hn];split
  .rename_i e;exact⟨g,0,cs,t,by simp[e],hL.nF,hL.blk,a1 _ _ _ _ hL.cd,λv hv=>by obtain⟨_,_,rfl⟩:=U3.1 hv;trivial⟩
  .rename_i e;show(if k=V7 n then some (g,0)else none)=none;rw[if_neg e]
 .intro k k' b c c' q1 q2;simp only at q1 q2;split at q1
  .split at q2
   .rename_i e1 e2;rw[e1,e2]
   .simp at q2
  .simp at q1
 .intro k b c q1;simp only at q1;split at q1
  .simp only[bx,b5]at q1;obtain⟨rfl,rfl⟩:=q1;exact⟨.inr rfl,hL.lt⟩
  .simp at q1
theorem finP {fn:Func} {w:World} {F:Nat->Prop} {g:Nat} {st:St} {a':Act} {w':World} {res:List A} {ds':List D} {cells:List V} {k:Nat} (hh:Ls C ⟨w.heap.size,λb=>b=g⟩ F w st a' w') (hfl:∀r∈res,ZT r=true) (has:resD C st fn.results.toList=some res)
 (h0:nth .any st.tmps 0= .boxAt k g) (hk:k=V7 fn.ntmps) (hob:nth .none st.objs (V7 fn.ntmps)= .box cells) (hds:qA cells=some ds'):
 a'.defers=[]/\∃v,(results fn a'.tmps).run C.P w'= .ok v w'/\∃v',M1 v= .returned v'/\eo w F g res ds' v' w':=by
 subst hk;obtain⟨F',a1,a0⟩:=hh;obtain⟨hd,v,hv1,hv2⟩:=Gz a0 has hfl;have a2:=(yd a0 0).1;rw[h0]at a2;obtain⟨⟨cg,q1⟩,q2⟩:=a2 _ hob rfl;have a3:=a0.objs (V7 fn.ntmps);rw[hob]at a3;obtain⟨gb,cb,cs,t',p1,p2,p3,p4,p5⟩:=a3;rw[p1]at q1;simp only[bx,b5]at q1;obtain⟨rfl,rfl⟩:=q1;exact⟨hd,v,hv1,v,rfl,a0.below,F',cs,t',a0.fsup,λx hx=>⟨a0.bound x hx,a0.fsub x hx⟩,hv2 F',p2,(a0.fresh _ _ _ p1).2,p3,zf (loc:=a1) (objs:=st.objs) hds (p4.mono λ_ _ h=>h.1)⟩
theorem Pw [EffOk C] {tab:Nat->List A->Option (List A)} {lim:Nat} (hm:C.P.follows .mixedOrders=true) (htab:∀f as rs,tab f as=some rs->Gives C f as rs) {n f:Nat} {ds ds':List D} {post res:List A} (hfl:kg res=true)
 (h:∀g,Ip tab C lim n f ds post g=some (res,ds',g)):WX C f ds post res ds':=by
 intro w F vs2 g cs t hb a1 h2 hL;have h:=h g;unfold Ip at h;split at h
 .simp at h
 rename_i fn hf;split at h
 .simp at h
 rename_i b hbd;have a4:∀(x:X) (s':St),(x= .normal\/x= .ret)->jw (y5 tab C lim n) C lim b (Uo fn.ntmps ds post g)=some (x,s')->er C fn s'=some (res,ds',g)->Calls C.P f (.pointer (some ⟨g,0,none⟩)::vs2).toArray w λe w'=>∃v,e= .returned v/\eo w F g res ds' v w':=by
  intro x s' hx hr a0;refine calls_of_wp hf hbd (M0 (λe a' w' hp=>?_) (Q7 hm (λf as rs h=>z2 hm htab n f as rs h) lim b _ s' x _ w hr (Lh hb a1 h2 hL)));obtain⟨he,hh⟩:=hp;have a3:a'.defers=[]/\∃v,(results fn a'.tmps).run C.P w'= .ok v w'/\∃v',M1 v= .returned v'/\eo w F g res ds' v' w':=by
   unfold er at a0;split at a0
   .simp at a0
   rename_i as has;split at a0
   .rename_i k g1 h0;split at a0
    .rename_i a2 hkb hob;split at a0
     .rename_i ds1 hds;simp only[bx,b5]at a0;obtain⟨rfl,rfl,rfl⟩:=a0;exact finP hh (kw hfl) has h0 (be hkb) hob hds
     .simp at a0
    .simp at a0
   .simp at a0
  rcases hx with rfl|rfl
  .have he:e= .normal:=he;subst he;exact a3
  .have he:e= .ret:=he;subst he;exact a3
 split at h
 .rename_i s' hr;exact a4 _ _ (.inl rfl) hr h
 .rename_i s' hr;exact a4 _ _ (.inr rfl) hr h
 .simp at h
variable {B:Bd} {F0:Nat->Prop} {w0:World} {F:Nat->Prop} {loc:Where} {st:St} {a:Act} {w:World}
theorem Conc.turnedP {dst:Option Nat} {k g c0:Nat} {cells:List V} {ds':List D} {cs:Array Value} {t:TypeId} {w':World} {F':Nat->Prop} {v:V} {x:Value} {us:List (Nat×Obj)} (h:Conc C B F0 w0 F loc st a w) (hk:nth .none st.objs k= .box cells) (hl:loc k=some (g,c0)) (hnF:¬F g)
 (hbel:BelowX ⟨w.heap.size,λb=>b=g⟩ w w') (hF1:∀x,F x->F' x) (hF2:∀x,F' x->x<w'.heap.size/\(F x\/Own ⟨w.heap.size,λb=>b=g⟩ x)) (hL:LentP w' F' g cs ds' t) (hus:us=[(k,.box (ds'.map V.c))])
 (hv:∀(loc:Where) (objs:List Obj),CV loc objs w' F' v x/\Ref objs v):Ls C B F0 w0 (st.put dst v us) (a.put dst x) w':=by
 subst hus;have hkl:k<st.objs.length:=xk (by rw[hk];simp);have a4:Le st.objs (upd st.objs k (.box (ds'.map V.c))) loc loc:=SY hk;have a3:=hbel.size;have a5:∀x,F x->w'.heap[x]? =w.heap[x]? :=λx hx=>hbel.block x (h.bound x hx) λe=>by have e:x=g:=e;exact hnF (e▸hx)
 have hfr:=h.fresh _ _ _ hl;have a2:∀x,Own ⟨w.heap.size,λb=>b=g⟩ x->Own B x:=λx hx=>by
  rcases hx with hx|hx
  .exact .inl (bs h.hB hx)
  .have hx:x=g:=hx;rw[hx];exact hfr.1
 have hbw:BelowX B w w':=⟨hbel.os,hbel.tape,hbel.output,hbel.size,λj hj hjX=>hbel.block j (bh hj h.hB) λhx=>by
  rcases a2 j (.inr hx)with h1|h1
  .omega
  .exact hjX h1⟩
 have a0:∀(ds:List D) (vs:List Value) (loc:Where) (objs:List Obj),All2 (CD w' F') ds vs->All2 (λv x=>CV loc objs w' F' v x/\x.oneCell'=true) (ds.map V.c) vs:=by
  intro ds
  induction ds with
  |nil=>intro vs loc objs a1;cases vs with|nil=>trivial|cons _ _=>exact a1.elim
  |cons d ds ih=>intro vs loc objs a1;cases vs with|nil=>exact a1.elim|cons y vs=>exact⟨⟨a1.1,a1.1.one⟩,ih vs loc objs a1.2⟩
 refine⟨F',loc,h.step (up:=[(k,.box (ds'.map V.c))]) hF1 a5 a4 (h.below.trans hbw) (by have:=h.hB;omega) (λj=>?_) h.inj (λj x y hj=>⟨(h.fresh _ _ _ hj).1,bh (h.fresh _ _ _ hj).2 a3⟩) (λx hx=>(hF2 x hx).1) (λx hx=>?_) (hv _ _).1 (hv loc _).2⟩
 .show CO _ (upd st.objs k (.box (ds'.map V.c))) _ _ _ (nth .none (upd st.objs k (.box (ds'.map V.c))) j);by_cases hkj:k=j
  .subst hkj;rw[qb _ _ _ hkl];exact⟨g,c0,cs,t,hl,hL.nF,hL.blk,a0 _ _ _ _ hL.cd,λv hv=>by obtain⟨_,_,rfl⟩:=U3.1 hv;trivial⟩
  .rw[qa _ _ _ hkj];refine CO.le hF1 a5 a4 rfl rfl (λx y hj=>?_) (h.objs j);have hx:x≠g:=λe=>by subst e;exact hkj (h.inj _ _ _ _ _ hl hj)
   refine⟨hbel.block x (h.fresh _ _ _ hj).2 hx,λhnF2 hF'=>?_⟩;rcases(hF2 x hF').2 with h1|h1|h1
   .exact hnF2 h1
   .have h1:w.heap.size<=x:=h1;have:=(h.fresh _ _ _ hj).2;omega
   .exact hx h1
 .rcases(hF2 x hx).2 with h1|h1
  .exact h.fsub x h1
  .exact .inr (a2 x h1)
end
def Li (chk:List D->List A->Bool) (mk:List D->List A->List D) (res:List D->List A->List A) (_:Option Nat) (vs:List V) (ob:List Obj):R:=
 match vs with
 | .box k off::r=>match nth .none ob k,jV ob r with
  | .box cells,some (al,us)=>match bm off 0&&!Qy k (Yk us),qA cells with
   |true,some ds=> .cond (chk ds al=true) (JR (res ds al)) (us++[(k,.box ((mk ds al).map V.c))])
   |_,_=> .fail
  |_,_=> .fail
 |_=> .fail
section
variable {C:Cx}
theorem Px {f:Nat} {fn:Func} {chk:List D->List A->Bool} {mk:List D->List A->List D} {res:List D->List A->List A} (hf:C.P.funcs[f]? =some fn) (hb:fn.body≠none) (hn:fn.name≠ "runtime.NumGoroutine")
 (hmk:∀ds al,chk ds al=true->WX C f ds al (res ds al) (mk ds al)):EffAt C f (Li chk mk res):=by
 refine⟨λ{B F0 w0 F loc st a w dst args ts ty pos after g} hc=>?_,λdst vs ob ob' hh hd=>?_,λdst vs ob hv _=>?_⟩
 .unfold Li;split
  .rename_i k a7 r a5;split
   .rename_i a0 al us hk b0;split
    .rename_i ds a6 hds;simp only[Hy,I0]at a6;obtain rfl:=be a6.1;have hku:¬∃p∈us,p.1=k:=λh=>by have:=xK.2 (yV.2 h);rw[this]at a6;simp at a6
     intro hck next Q hnx
     have hG:=hmk ds al hck;obtain⟨x0,xs,b4⟩:∃x0 xs,args.toList=x0::xs:=by
      cases h:args.toList with
      |nil=>rw[h]at a5;simp at a5
      |cons x0 xs=>exact⟨x0,xs,rfl⟩
     rw[b4]at a5;simp only[W1,bd]at a5;obtain⟨hx0,rfl⟩:=a5;obtain⟨ap,ad⟩:=kK hc b0 (jK hc xs);obtain⟨F',a4,hF',hb'⟩:=hc.freezes ap st.dirty;have a3:=ad F' hF' hb';have b3:=(xb hc x0).1;rw[hx0]at b3;have b2:nth .none (upds st.objs us) k= .box a0:=by rw[zg _ _ λp hp e=>hku ⟨p,hp,e⟩];exact hk
     have an:=a4.objs k;simp only at an;rw[b2]at an;obtain⟨gb,c0,cs0,t0,q5,q6,q7,q8,q9⟩:=an;obtain⟨b1,c1,r1,r2⟩:=b3 _ hk rfl;have h6:loc k=some (gb,c0):=q5;rw[h6]at r1;simp only[bx,b5]at r1;obtain⟨rfl,rfl⟩:=r1;have a1:=hG w F' (xs.map a.eval) gb cs0 t0 a4.bound a4.inv a3 ⟨q6,(a4.fresh _ _ _ q5).2,q7,zf (objs:=upds st.objs us) hds (q8.mono λ_ _ h=>h.1)⟩;have a2:(No (some ⟨gb,0,none⟩)::xs.map a.eval).toArray=args.map a.eval:=by apply Aw;rw[Dd,b4];simp[r2]
     rw[a2]at a1;refine z8 hf hb hn a1 λe w' he=>?_
     obtain⟨v,rfl,ag,F2,cs,t,h1,h2,h3,h4⟩:=he;refine⟨_,rfl,hnx _ _ ?_⟩;have h6:=a4.turnedP (dst:=dst) (k:=k) (ds':=mk ds al) (v:=JR (res ds al)) (x:=v) b2 q5 q6 ag h1 h2 h4 rfl (λloc objs=>WA h3);refine xi h6 rfl ?_;show upds (upds st.objs us) [(k,.box ((mk ds al).map V.c))]=upds st.objs (us++[(k,.box ((mk ds al).map V.c))]);rw[xF us]
    .trivial
   .trivial
  .trivial
 .unfold Li;cases vs with
  |nil=>rfl
  |cons v r=>
   cases v with
   |box k a7=>
    have h0:nth .none ob k=nth .none ob' k:=hh k (by
     rw[qB];exact⟨k,Pl.2 ⟨.box k a7,by simp,by simp[qk]⟩,.inl rfl⟩)
    have h1:jV ob r=jV ob' r:=jb (c:=2) λv hv k hk=> .inl (hh k (by
     rw[qB];exact⟨k,Pl.2 ⟨v,by simp[hv],hk⟩,.inl rfl⟩))
    simp only[h0,h1]
   |_=>rfl
 .unfold Li;split
  .rename_i k a7 r;split
   .rename_i a0 al us hk b0;split
    .have ap:=ke b0;refine⟨λp hp=>?_,λj hj=>by rw[wP]at hj;simp at hj⟩;rcases Tk.1 hp with hp|hp
     .obtain⟨⟨v,hv1,hv2⟩,s',es',fz,h1,h2⟩:=ap p hp;refine⟨.inr ⟨?_,by rw[h1];simp⟩,by rw[h2];simp,λu hu=>by rw[h2]at hu;simp[qW]at hu⟩;rw[qB];exact⟨p.1,Pl.2 ⟨v,by simp[hv1],hv2⟩,.inl rfl⟩
     .simp only[P1]at hp;subst hp;refine⟨.inr ⟨?_,by rw[hk];simp⟩,by simp,λu hu=>?_⟩
      .rw[qB];exact⟨k,Pl.2 ⟨.box k a7,by simp,by simp[qk]⟩,.inl rfl⟩
      .obtain⟨_,_,rfl⟩:=U3.1 (show u∈List.map V.c _ from hu);intro j hj;simp[qk]at hj
    .trivial
   .trivial
  .trivial
end
end Eng
end
section
namespace Eng
open Go Go.RowKit
variable [Env]
abbrev CR:=Option Nat->List V->List Obj->R
def CS:List V->Bool
 | .c (.sl [])::_=>true
 | .nilS::_=>true
 |_=>false
def zp (e1 e2:CR) (dst:Option Nat) (vs:List V) (ob:List Obj):R:=
 match CS vs with
 |true=>e1 dst vs ob
 |false=>e2 dst vs ob
def kV (C:Cx) (f:Nat) (chk:List A->Bool) (res:List A->List A) (_:Option Nat) (vs:List V) (ob:List Obj):R:=
 match kE C ob f vs with
 | .call _ as sh up=>match zi sh||kg (res as)with
  |true=> .cond (chk as=true) (JR (res as)) up
  |false=> .fail
 |_=> .fail
section
variable {C:Cx}
theorem qP {f:Nat} {e1 e2:CR} (h1:EffAt C f e1) (h2:EffAt C f e2):EffAt C f (zp e1 e2):=by
 refine⟨λ{B F0 w0 F loc st a w dst args ts ty pos after g} hc=>?_,λdst vs ob ob' hh hd=>?_,λdst vs ob hv hb=>?_⟩
 .unfold zp;split
  .exact h1.rs hc
  .exact h2.rs hc
 .unfold zp;split
  .exact h1.ag dst vs ob ob' hh hd
  .exact h2.ag dst vs ob ob' hh hd
 .unfold zp;split
  .exact h1.good dst vs ob hv hb
  .exact h2.good dst vs ob hv hb
omit [Env] in
theorem WY {ob:List Obj} {f f':Nat} {vs:List V} {as:List A} {sh:List (Bool×List Value)} {up:List (Nat×Obj)} (h:kE C ob f vs= .call f' as sh up):f'=f/\∃us,jV ob vs=some (as,us)/\(up=us\/up=[]):=by
 unfold kE at h;split at h
 .simp at h
 split at h
 .simp at h
 split at h
 .rename_i as' us sh' h1 _;split at h
  .simp only[R.call.injEq]at h;obtain⟨rfl,rfl,rfl,rfl⟩:=h;exact⟨rfl,_,h1,.inl rfl⟩
  .simp only[R.call.injEq]at h;obtain⟨rfl,rfl,rfl,rfl⟩:=h;exact⟨rfl,_,h1,.inr rfl⟩
 .simp at h
theorem vz {f:Nat} {chk:List A->Bool} {res:List A->List A} (hmk:∀al,chk al=true->Gives C f al (res al)):EffAt C f (kV C f chk res):=by
 refine⟨λ{B F0 w0 F loc st a w dst args ts ty pos after g} hc=>?_,λdst vs ob ob' hh hd=>?_,λdst vs ob hv hb=>?_⟩
 .have h1:=VY (dst:=dst) (ty:=ty) (pos:=pos) (after:=after) (g:=g) (f:=f) (cal:= .func f) (args:=args) (ts:=ts) hc rfl;unfold kV;revert h1;cases hr:kE C st.objs f (args.toList.map (ev st))with
  |call f' as sh up=>
   intro h1;simp only;obtain⟨rfl,_⟩:=WY hr;cases hs:(zi sh||kg (res as))with
   |false=>trivial
   |true=>
    intro hck next Q hn
    refine h1 (res as) (hmk as hck) (λh0=>kw ?_) next Q hn
    simpa [h0]using hs
  |_=>intro _;trivial
 .unfold kV;have h1:jV ob vs=jV ob' vs:=jb (c:=2) λv hv k hk=> .inl (hh k (by
   rw[qB];exact⟨k,Pl.2 ⟨v,hv,hk⟩,.inl rfl⟩))
  have h2:kE C ob f vs=kE C ob' f vs:=by unfold kE;rw[h1]
  rw[h2]
 .unfold kV;split
  .rename_i f' as sh up hr;split
   .obtain⟨_,us,hto,hup⟩:=WY hr;have hfz:=ke hto;refine⟨λp hp=>?_,λj hj=>by rw[wP]at hj;simp at hj⟩;rcases hup with rfl|rfl
    .obtain⟨⟨v,hv1,hv2⟩,s',es',fz,h1,h2⟩:=hfz p hp;refine⟨.inr ⟨?_,by rw[h1];simp⟩,by rw[h2];simp,λu hu=>by rw[h2]at hu;simp[qW]at hu⟩;rw[qB];exact⟨p.1,Pl.2 ⟨v,hv1,hv2⟩,.inl rfl⟩
    .simp at hp
   .trivial
  .trivial
end
variable (tab:Nat->List A->Option (List A)) (C:Cx)
def okF:Option (List A)->Bool
 |some _=>true
 |none=>false
noncomputable def zH (C':Cx) (f:Nat):CR:=kV C' f (λal=>okF (y5 tab C 1000 40 f al)) (λal=>match y5 tab C 1000 40 f al with|some r=>r|none=>[])
noncomputable def vX (f s:Nat):CR:=Un (λal=>match Kx tab C 1000 40 f al none []with|some (k,es)=>bm k s&&Kz es|none=>false) s (λal=>match Kx tab C 1000 40 f al none []with|some x=>x.2|none=>[])
noncomputable def wV (f s:Nat):CR:=Ja s (λes al=>Kz es&&match Kx tab C 1000 40 f [] (some (s,es)) al with|some (k,es)=>bm k s&&Kz es|none=>false) (λes al=>match Kx tab C 1000 40 f [] (some (s,es)) al with|some x=>x.2|none=>[])
noncomputable def WZ (f s:Nat):CR:=La s (λes al=>okF (TZ tab C 1000 40 f s es al)) (λes al=>match TZ tab C 1000 40 f s es al with|some r=>r|none=>[])
noncomputable def Up (f:Nat):CR:=TY (λal=>match TX tab C 1000 40 f al with|some _=>true|none=>false) (λal=>match TX tab C 1000 40 f al with|some r=>r|none=>(0,[],[]))
omit [Env] in
theorem yW {es:List (List D)} (h:Kz es=true):es≠[]:=by cases es<;>simp_all[Kz]
section
variable {tab} {C} {C':Cx} [EffOk C] (hm:C.P.follows .mixedOrders=true) (htab:∀f as rs,tab f as=some rs->Gives C f as rs) (hP:C'.P=C.P) (hG:C'.G=C.G)
include hm htab hP hG
theorem qQ {f:Nat}:EffAt C' f (zH tab C C' f):=by
 refine vz λal hc=>?_
 revert hc;cases hr:y5 tab C 1000 40 f al with
 |none=>intro h;cases h
 |some r=>intro _;exact qL hP hG (z2 hm htab 40 f al r hr)
theorem zI {f s:Nat} {fn:Func} (hf:C'.P.funcs[f]? =some fn) (hb:fn.body≠none) (hn:fn.name≠ "runtime.NumGoroutine"):EffAt C' f (vX tab C f s):=by
 refine Gy hf hb hn λal hc=>?_
 revert hc;cases hr:Kx tab C 1000 40 f al none []with
 |none=>intro h;cases h
 |some x=>obtain⟨k,es⟩:=x;intro h;simp only[Hy]at h;obtain⟨h1,h2⟩:=h;obtain rfl:=be h1;exact⟨yW h2,wT hP hG (Ky hm htab (yW h2) hr)⟩
theorem zq {f s:Nat} {fn:Func} (hf:C'.P.funcs[f]? =some fn) (hb:fn.body≠none) (hn:fn.name≠ "runtime.NumGoroutine"):EffAt C' f (wV tab C f s):=by
 refine Kv hf hb hn λes al hc=>?_
 rw[Hy]at hc;obtain⟨h0,hc⟩:=hc;revert hc;cases hr:Kx tab C 1000 40 f [] (some (s,es)) al with
 |none=>intro h;cases h
 |some x=>obtain⟨k,es'⟩:=x;intro h;simp only[Hy]at h;obtain⟨h1,h2⟩:=h;obtain rfl:=be h1;exact⟨yW h0,yW h2,wT hP hG (Ky hm htab (yW h2) hr)⟩
theorem kW {f s:Nat} {fn:Func} (hf:C'.P.funcs[f]? =some fn) (hb:fn.body≠none) (hn:fn.name≠ "runtime.NumGoroutine"):EffAt C' f (WZ tab C f s):=by
 refine Pv hf hb hn λes al hc=>?_
 revert hc;cases hr:TZ tab C 1000 40 f s es al with
 |none=>intro h;cases h
 |some r=>intro _;exact Lc hP hG (Pt hm htab hr)
theorem yX {f:Nat} {fn:Func} (hf:C'.P.funcs[f]? =some fn) (hb:fn.body≠none) (hn:fn.name≠ "runtime.NumGoroutine"):EffAt C' f (Up tab C f):=by
 refine Pu hf hb hn λal hc=>?_
 revert hc;cases hr:TX tab C 1000 40 f al with
 |none=>intro h;cases h
 |some r=>obtain⟨s,es,as⟩:=r;intro _;exact Lb hP hG (Pr hm htab hr)
end
end Eng
end
