/- The engine, part 31: calls that hand back an array that is the caller's own from then on. -/
import Derived.Test.YtlgnobmngljmaaaGreatDoorEngD
section
namespace Eng
open Go Go.RowKit
variable [Env]
def ann2 (a b:Ann):Nat→Ann
 |0=>a
 |_=>b
def ann3 (a b c:Ann):Nat→Ann
 |0=>a
 |1=>b
 |_=>c
def flatEs:List (List D)→Bool
 |[]=>true
 |e::r=>e.all flatD&&flatEs r
omit [Env] in
theorem flatEs_ok:∀{es:List (List D)},flatEs es=true→∀d∈es.flatten,flatD d=true
 |[],_,d,hd=>by simp at hd
 |e::r,h,d,hd=>by
  simp only[flatEs,Bool.and_eq_true]at h;simp only[List.flatten_cons,List.mem_append]at hd;rcases hd with hd|hd
  ·exact List.all_eq_true.1 h.1 d hd
  ·exact flatEs_ok h.2 d hd
def ownR (st:St) (rs:List ResultVar):Option (Nat×List (List D)):=
 match rs with
 |[.tmp t]=>match nth .any st.tmps t with
  | .arr k=>match nth .none st.objs k with
   | .arr s es false=>some (s,es)
   |_=>none
  |_=>none
 |_=>none
def ownD (st:St) (rs:List ResultVar):Option (Nat×List (List D)):=
 match ownR st rs with
 |some (s,es)=>match es with
  |[]=>none
  |_::_=>match flatEs es with
   |true=>some (s,es)
   |false=>none
 |none=>none
omit [Env] in
theorem ownD_ok {st:St} {rs:List ResultVar} {s:Nat} {es:List (List D)} (h:ownR st rs=some (s,es)) (h1:es≠[]) (h2:flatEs es=true):ownD st rs=some (s,es):=by
 unfold ownD;rw[h];cases es with
 |nil=>exact absurd rfl h1
 |cons e r=>simp only[h2]
def GivesOwn (C:Cx) (f:Nat) (args:List A) (s:Nat) (es:List (List D)):Prop:=
 ∀(w:World) (F:Nat→Prop) (vs:List Value),(∀b,F b→b<w.heap.size)→Inv C F w→All2 (CA w F) args vs→
  Calls C.P f vs.toArray w fun e w'=>Below w.heap.size w w'∧∃b c cs t,e= .returned (.slice (some ⟨b,0,none⟩) es.length c)∧w.heap.size≤b∧b<w'.heap.size∧w'.heap[b]? =some (.cells cs t (0,0))∧cs.size=c*s∧(es.length≤c∧c≤9223372036854775807)∧
   roomS s es.length∧0<s∧(∀e∈es,e.length=s)∧C.P.cellsOf t=s∧∀j,j<es.length*s→∃v,cs[j]? =some v∧∀(w:World) (F:Nat→Prop),CD w F (nth .undef es.flatten j) v
theorem inv_cx {C C':Cx} (hG:C'.G=C.G) {F:Nat→Prop} {w:World} (h:Inv C F w):Inv C' F w:=fun g cs hg=>h g cs (hG▸hg)
theorem gives_cx {C C':Cx} (hP:C'.P=C.P) (hG:C'.G=C.G) {f:Nat} {as rs:List A} (h:Gives C f as rs):Gives C' f as rs:=by
 intro w F vs hb hi ha;rw[hP];exact h w F vs hb (inv_cx hG.symm hi) ha
theorem givesOwn_cx {C C':Cx} (hP:C'.P=C.P) (hG:C'.G=C.G) {f s:Nat} {as:List A} {es:List (List D)} (h:GivesOwn C f as s es):GivesOwn C' f as s es:=by
 intro w F vs hb hi ha;rw[hP];exact h w F vs hb (inv_cx hG.symm hi) ha
section
variable {C:Cx}
theorem own_fin {fn:Func} {w:World} {F:Nat→Prop} {s':St} {a':Act} {w':World} {s:Nat} {es:List (List D)} (hh:St.has C ⟨w.heap.size,fun _=>False⟩ F w s' a' w') (has:ownD s' fn.results.toList=some (s,es)):
 a'.defers=[]∧∃v,(results fn a'.tmps).run C.P w'= .ok v w'∧Below w.heap.size w w'∧∃b c cs t,Ending.returned v= .returned (.slice (some ⟨b,0,none⟩) es.length c)∧w.heap.size≤b∧b<w'.heap.size∧w'.heap[b]? =some (.cells cs t (0,0))∧cs.size=c*s∧(es.length≤c∧c≤9223372036854775807)∧
  roomS s es.length∧0<s∧(∀e∈es,e.length=s)∧C.P.cellsOf t=s∧∀j,j<es.length*s→∃v,cs[j]? =some v∧∀(w:World) (F:Nat→Prop),CD w F (nth .undef es.flatten j) v:=by
 obtain⟨F',loc',h⟩:=hh;have has2:∃e r,es=e::r∧flatEs es=true∧ownR s' fn.results.toList=some (s,es):=by
  unfold ownD at has;split at has
  ·rename_i s1 es1 h1;split at has
   ·simp at has
   ·split at has
    ·rename_i hfl;simp only[Option.some.injEq,Prod.mk.injEq]at has;obtain⟨rfl,rfl⟩:=has;exact⟨_,_,rfl,hfl,h1⟩
    ·simp at has
  ·simp at has
 obtain⟨e,r,rfl,hfl,has⟩:=has2;unfold ownR at has;split at has
 ·rename_i t hrs;split at has
  ·rename_i k hk;split at has
   ·rename_i s0 es0 hob
    ··simp only[Option.some.injEq,Prod.mk.injEq]at has;obtain⟨rfl,rfl⟩:=has;have hx:=(slot_ok h t).1;simp only[Act.eval]at hx;rw[hk]at hx;have hco:=h.objs k;rw[hob]at hco;obtain⟨hroom,hs0,hlen,hco⟩:=hco;rcases hx _ _ _ hob with⟨b,c,hl,hv⟩|⟨_,h0,_⟩
      ·rcases hco with⟨h4,_⟩|⟨b',c',cs,t',h4,h5,h6,h7,h8,h9,h10,h11⟩
       ·rw[h4]at hl;simp at hl
       ·rw[h4]at hl;simp only[Option.some.injEq,Prod.mk.injEq]at hl;obtain⟨rfl,rfl⟩:=hl;have hfr:=h.fresh _ _ _ h4;refine⟨h.defers,.slice (some ⟨b',0,none⟩) (e::r).length c',?_,h.below.toBelow,b',c',cs,t',rfl,hfr.1.elim id False.elim,hfr.2,h6,h7,h8,hroom,hs0,hlen,by rw[←h.prog];exact h10,fun j hj=>?_⟩
        ·have hr:fn.results= #[.tmp t]:=by apply Array.ext';simpa using hrs
         unfold results;rw[hr];have hv':a'.tmps[t]?.getD undef= .slice (some ⟨b',0,none⟩) (e::r).length c':=by rw[←hv];simp
         simp[hv']
        ·obtain⟨v,q1,q2⟩:=h9 j hj;refine⟨v,q1,fun w F=>flat_CD q2 (flatEs_ok hfl _ ?_)⟩;rw[nth_of_lt _ (by rw[length_flatten hlen];exact hj)];exact List.getElem_mem _
      ·simp at h0
   ·simp at has
  ·simp at has
 ·simp at has
def runFo (tab:Nat→List A→Option (List A)) (C:Cx) (lim n f:Nat) (args:List A):Option (Nat×List (List D)):=
 match C.P.funcs[f]? with
 |none=>none
 |some fn=>match fn.body with
  |none=>none
  |some c=>match runC (runF tab C lim n) C lim c (initSt fn.ntmps args)with
   |some (.normal,s)=>ownD s fn.results.toList
   |some (.ret,s)=>ownD s fn.results.toList
   |_=>none
def wpFo (C:Cx) (Gv:Nat→List A→List A→Prop) (anns:Nat→Ann) (fn:Func) (args:List A) (Q:Nat→List (List D)→Prop):Prop:=
 match fn.body with
 |none=>False
 |some c=>wpC C Gv anns 0 c (fun e s=>match e with
  | .normal| .ret=>match ownR s fn.results.toList with
   |some (k,es)=>(es≠[]∧flatEs es=true)∧Q k es
   |none=>False
  | .exit _=>False) (initSt fn.ntmps args)
theorem wpFo_ok [EffOk C] {anns:Nat→Ann} {f:Nat} {fn:Func} {args:List A} {s:Nat} {es:List (List D)} (hm:C.P.follows .mixedOrders=true) (hf:C.P.funcs[f]? =some fn) (h:wpFo C (Gives C) anns fn args (fun k r=>k=s∧r=es)):GivesOwn C f args s es:=by
 intro w F vs hb hinv hargs;unfold wpFo at h;split at h
 ·exact h.elim
 rename_i c hc;refine calls_of_wp hf hc ?_;refine Code.wp_mono (fun e a' w' hp=>?_) (wpC_ok hm c 0 _ _ _ _ h (init_has hb hinv hargs));obtain⟨x,s',hx,hq,_,hh⟩:=hp;have fin:∀k as,ownR s' fn.results.toList=some (k,as)→((as≠[]∧flatEs as=true)∧k=s∧as=es)→_:=fun k as has he=>own_fin (fn:=fn) hh (by rw[ownD_ok has he.1.1 he.1.2,he.2.1,he.2.2])
 cases x with
 |normal=>
  have hx:e= .normal:=hx;subst hx;simp only at hq;split at hq
  ·rename_i k as has;exact fin k as has hq
  ·exact hq.elim
 |ret=>
  have hx:e= .ret:=hx;subst hx;simp only at hq;split at hq
  ·rename_i k as has;exact fin k as has hq
  ·exact hq.elim
 |exit i=>exact hq.elim
def effOwn (own:List A→Option (Nat×List (List D))) (dst:Option Nat) (vs:List V) (ob:List Obj):R:=
 match dst with
 |none=> .fail
 |some d=>match freeKey ob d,toAs ob vs with
  |true,some (as,us)=>match own as with
   |some (s,es)=> .ok (.arr d) (us++[(d,.arr s es false)])
   |none=> .fail
  |_,_=> .fail
variable {B:Bd} {F0:Nat→Prop} {w0:World} {F:Nat→Prop} {loc:Where} {st:St} {a:Act} {w:World}
theorem Conc.adoptNew {dst:Option Nat} {d s b c:Nat} {es:List (List D)} {cs:Array Value} {t:TypeId} {w':World} (h:Conc C B F0 w0 F loc st a w) (hd:freeKey st.objs d=true) (hbel:Below w.heap.size w w')
 (hb1:w.heap.size≤b) (hb2:b<w'.heap.size) (hblk:w'.heap[b]? =some (.cells cs t (0,0))) (hsz:cs.size=c*s) (hlc:es.length≤c∧c≤9223372036854775807) (hroom:roomS s es.length) (hs0:0<s) (hlen:∀e∈es,e.length=s) (ht:C.P.cellsOf t=s)
 (hcd:∀j,j<es.length*s→∃v,cs[j]? =some v∧∀(w:World) (F:Nat→Prop),CD w F (nth .undef es.flatten j) v):
 Conc C B F0 w0 F (at_ loc d (b,c) t) (st.put dst (.arr d) [(d,.arr s es false)]) (a.put dst (.slice (some ⟨b,0,none⟩) es.length c)) w':=by
 obtain⟨hnone,hlt⟩:=freeKey_ok hd;have hw:∀b,F b→w'.heap[b]? =w.heap[b]? :=fun b hb=>hbel.block b (h.bound b hb)
 have hsize:=hbel.size;have hle:Le st.objs (upd st.objs d (.arr s es false)) loc (at_ loc d (b,c) t):=by
  refine⟨rfl,fun k hk=>by
   have:k≠d:=fun e=>by subst e;exact absurd hnone hk
   simp[at_,this],fun k hk=>?_,fun k o' hk hc hbx=>?_,fun k s es' fz' hk hc=>?_⟩
  ·by_cases hkd:d=k
   ·subst hkd;exact absurd hnone hk
   ·rw[nth_upd_ne _ _ _ hkd];exact hk
  ·by_cases hkd:d=k
   ·subst hkd;exact absurd hnone hk
   ·rw[nth_upd_ne _ _ _ hkd]at hc;exact⟨by rw[hc];exact hbx,by simp[at_,Ne.symm hkd]⟩
  ·by_cases hkd:d=k
   ·subst hkd;exact absurd hnone hk
   ·rw[nth_upd_ne _ _ _ hkd]at hc;exact⟨⟨_,_,hc,rfl⟩,by simp[at_,Ne.symm hkd]⟩
 refine h.step (up:=[(d,.arr s es false)]) (fun _ h=>h) hw hle (h.below.trans (.of hbel h.hB)) (by have:=h.hB;omega) (fun k=>?_) ?_ ?_ (fun b hb=>by have:=h.bound b hb;omega) h.fsub ?_ ?_
 ·show CO _ (upd st.objs d (.arr s es false)) _ _ _ (nth .none (upd st.objs d (.arr s es false)) k);by_cases hk:d=k
  ·subst hk;rw[nth_upd_same _ _ _ hlt];refine⟨hroom,hs0,hlen,.inr ⟨b,c,cs,t,by simp[at_],fun hF=>?_,hblk,hsz,hlc,fun j hj=>?_,?_,by simp[at_]⟩⟩
   ·have:=h.bound b hF;omega
   ·obtain⟨v,q1,q2⟩:=hcd j hj;exact⟨v,q1,q2 _ _⟩
   ·show loc.P.cellsOf t=s;rw[h.prog];exact ht
  ·rw[nth_upd_ne _ _ _ hk];refine CO.le (fun _ h=>h) hw hle (by simp[at_,Ne.symm hk]) (by simp[at_,Ne.symm hk]) (fun b c hb=>⟨hbel.block b (h.fresh _ _ _ hb).2,fun h=>h⟩) (h.objs k)
 ·intro k k' b' c1 c2 h1 h2;have hf:=h.fresh;simp only[at_]at h1 h2;split at h1<;>split at h2
  ·rw[‹k=d›,‹k'=d›]
  ·simp only[Option.some.injEq,Prod.mk.injEq]at h1;have:=hf _ _ _ h2;omega
  ·simp only[Option.some.injEq,Prod.mk.injEq]at h2;have:=hf _ _ _ h1;omega
  ·exact h.inj _ _ _ _ _ h1 h2
 ·intro k b' c1 h1;simp only[at_]at h1;split at h1
  ·simp only[Option.some.injEq,Prod.mk.injEq]at h1;have:=h.hB;exact⟨.inl (by omega),by omega⟩
  ·have:=h.fresh _ _ _ h1;exact⟨this.1,by omega⟩
 ·intro s' es' fz' hc;have hc:nth .none (upd st.objs d (.arr s es false)) d= .arr s' es' fz':=hc;rw[nth_upd_same _ _ _ hlt]at hc;simp only[Obj.arr.injEq]at hc;obtain⟨rfl,rfl,rfl⟩:=hc;exact .inl ⟨b,c,by simp[at_],rfl⟩
 ·show nth .none (upd st.objs d (.arr s es false)) d≠ .none;rw[nth_upd_same _ _ _ hlt];simp
theorem effAt_own {f:Nat} {fn:Func} {own:List A→Option (Nat×List (List D))} (hf:C.P.funcs[f]? =some fn) (hb:fn.body≠none) (hn:fn.name≠ "runtime.NumGoroutine") (h:∀as s es,own as=some (s,es)→GivesOwn C f as s es):EffAt C f (effOwn own):=by
 refine⟨fun{B F0 w0 F loc st a w dst args ts ty pos after g} hc=>?_,fun dst vs ob ob' hh hd=>?_,fun dst vs ob hv _=>?_⟩
 ·unfold effOwn;split
  ·trivial
  ·rename_i d;split
   ·rename_i as us hd hto;split
    ·rename_i s es hown;obtain⟨hfz,hall⟩:=toAs_ok hc hto (all2_ev hc args.toList);obtain⟨F',hc',hF',hb'⟩:=hc.freezes hfz st.dirty;have hargs:=hall F' hF' hb';have hargs':(args.toList.map a.eval).toArray=args.map a.eval:=by apply Array.ext';simp
     intro next Q hnx
     have hcall:=h as s es hown w F' (args.toList.map a.eval) hc'.bound hc'.inv hargs;rw[hargs']at hcall;refine wp_entered hf hb hn hcall fun e w' he=>?_
     obtain⟨hbel,b,c,cs,t,rfl,h1,h2,h3,h4,h5,h6,h7,h8,h9,h10⟩:=he;refine⟨_,rfl,hnx _ _ ⟨F',at_ loc d (b,c) t,?_⟩⟩;have h11:=hc'.adoptNew (dst:=some d) (freeKey_upds hfz hd) hbel h1 h2 h3 h4 h5 h6 h7 h8 h9 h10;have:upds st.objs (us++[(d,.arr s es false)])=upds (upds st.objs us) [(d,.arr s es false)]:=upds_append _ _ _;have hst:(st.put (some d) (.arr d) (us++[(d,.arr s es false)])).objs=upds (upds st.objs us) [(d,.arr s es false)]:=this;have h12:=h11.redirty (dt:=(st.put (some d) (.arr d) (us++[(d,.arr s es false)])).dirty);have e:(st.put (some d) (.arr d) (us++[(d,.arr s es false)]))=⟨upd st.tmps d (.arr d),upds (upds st.objs us) [(d,.arr s es false)],(st.put (some d) (.arr d) (us++[(d,.arr s es false)])).dirty⟩:=by rw[←hst];rfl
     rw[e];exact h12
    ·trivial
   ·trivial
 ·unfold effOwn;cases dst with
  |none=>rfl
  |some d=>
   have h1:toAs ob vs=toAs ob' vs:=toAs_ag (c:=2) fun v hv k hk=> .inl (hh k (by
    rw[mem_deepB];exact⟨k,List.mem_flatMap.2 ⟨v,hv,hk⟩,.inl rfl⟩))
   simp only[h1];rw[hd d (.inl rfl)]
 ·unfold effOwn;split
  ·trivial
  ·rename_i d;split
   ·rename_i as us hd hto;split
    ·rename_i s es _;have hfz:=toAs_fz hto;refine⟨fun p hp=>?_,fun k hk=>?_⟩
     ·rcases List.mem_append.1 hp with hp|hp
      ·obtain⟨⟨v,hv1,hv2⟩,s',es',fz,h1,h2⟩:=hfz p hp;refine⟨.inr ⟨?_,by rw[h1];simp⟩,by rw[h2];simp,fun u hu=>by rw[h2]at hu;simp[objVs]at hu⟩;rw[mem_deepB];exact⟨p.1,List.mem_flatMap.2 ⟨v,hv1,hv2⟩,.inl rfl⟩
      ·simp only[List.mem_singleton]at hp;subst hp;exact⟨.inl ⟨.inl rfl,hd⟩,by simp,fun u hu=>by simp[objVs]at hu⟩
     ·simp only[keysV,List.mem_singleton]at hk;subst hk;exact .inr ⟨hd,_,List.mem_append_right _ (List.mem_singleton.2 rfl)⟩
    ·trivial
   ·trivial
end
end Eng
end

section
namespace Eng
open Go Go.RowKit
variable [Env]
structure LentOk (P:Program) (w:World) (F:Nat→Prop) (g c:Nat) (cs:Array Value) (t:TypeId) (s:Nat) (es:List (List D)):Prop where
 nF:¬F g
 lt:g<w.heap.size
 blk:w.heap[g]? =some (.cells cs t (0,0))
 sz:cs.size=c*s
 lc:es.length≤c∧c≤9223372036854775807
 room:Eng.roomS s es.length
 s0:0<s
 lens:∀e∈es,e.length=s
 ct:P.cellsOf t=s
 cd:∀j,j<es.length*s→∃v,cs[j]? =some v∧CD w F (nth .undef es.flatten j) v
def lentV (g c:Nat):Option (Nat×List (List D))→List Value
 |none=>[]
 |some (_,es)=>[.slice (some ⟨g,0,none⟩) es.length c]
def lentX (g:Nat):Option (Nat×List (List D))→Nat→Prop
 |none,_=>False
 |some _,b=>b=g
def GivesC (C:Cx) (f:Nat) (pre:List A) (lent:Option (Nat×List (List D))) (post:List A) (s:Nat) (es:List (List D)):Prop:=
 ∀(w:World) (F:Nat→Prop) (vs1 vs2:List Value) (g c0:Nat) (cs0:Array Value) (t0:TypeId),(∀b,F b→b<w.heap.size)→Inv C F w→All2 (CA w F) pre vs1→All2 (CA w F) post vs2→
  (∀s0 es0,lent=some (s0,es0)→LentOk C.P w F g c0 cs0 t0 s0 es0)→
  Calls C.P f (vs1++(lentV g c0 lent++vs2)).toArray w fun e w'=>BelowX ⟨w.heap.size,lentX g lent⟩ w w'∧
   ∃(F':Nat→Prop) (b c:Nat) (cs:Array Value) (t:TypeId),e= .returned (.slice (some ⟨b,0,none⟩) es.length c)∧(∀x,F x→F' x)∧(∀x,F' x→x<w'.heap.size∧(F x∨Own ⟨w.heap.size,lentX g lent⟩ x))∧
    Own ⟨w.heap.size,lentX g lent⟩ b∧LentOk C.P w' F' b c cs t s es
def keyC (n:Nat):Nat:=n+7
def initC (n:Nat) (pre:List A) (lent:Option (Nat×List (List D))) (post:List A):St:=
 match lent with
 |none=>initSt n (pre++post)
 |some (s,es)=>⟨pre.map argV++(.arr (keyC n)::(post.map argV++List.replicate (n-(pre.length+(1+post.length))) .any)),upd (List.replicate (n+8) .none) (keyC n) (.arr s es false),[]⟩
section
variable {C:Cx}
theorem init_hasC {n:Nat} {pre post:List A} {lent:Option (Nat×List (List D))} {vs1 vs2:List Value} {w:World} {F:Nat→Prop} {g c0:Nat} {cs0:Array Value} {t0:TypeId} (hb:∀b,F b→b<w.heap.size) (hinv:Inv C F w) (h1:All2 (CA w F) pre vs1) (h2:All2 (CA w F) post vs2)
 (hl:∀s0 es0,lent=some (s0,es0)→LentOk C.P w F g c0 cs0 t0 s0 es0):
 St.has C ⟨w.heap.size,lentX g lent⟩ F w (initC n pre lent post) {tmps:=(vs1++(lentV g c0 lent++vs2)).toArray++Array.replicate (n-(vs1++(lentV g c0 lent++vs2)).toArray.size) undef,defers:=[]} w:=by
 cases lent with
 |none=>have h:=init_has (n:=n) hb hinv (All2.append h1 h2);exact h
 |some se=>
  obtain⟨s,es⟩:=se;have hL:=hl s es rfl;have hl1:=h1.length;have hl2:=h2.length;have hkl:keyC n<(List.replicate (n+8) Obj.none).length:=by simp[keyC]
  have hn:∀k,nth .none (upd (List.replicate (n+8) Obj.none) (keyC n) (.arr s es false)) k=if k=keyC n then .arr s es false else .none:=fun k=>by
   by_cases hk:keyC n=k
   ·subst hk;rw[nth_upd_same _ _ _ hkl,if_pos rfl]
   ·rw[nth_upd_ne _ _ _ hk,nth_rep,if_neg (Ne.symm hk)]
  refine⟨F,⟨C.P,fun k=>if k=keyC n then some (g,c0)else none,fun _=>t0⟩,⟨rfl,BelowX.refl _ _,Nat.le_refl _,rfl,?_,fun v hv=>?_,fun k=>?_,?_,?_,hb,fun b h=> .inl h,fun _ h=>h,hinv⟩⟩
  ·simp only[initC,lentV,Array.toList_append,Array.toList_replicate,List.size_toArray,List.append_assoc,List.cons_append,List.nil_append];refine all2_app (argV_ok h1) ⟨?_,all2_app (argV_ok h2) ?_⟩
   ·intro s' es' fz' hc;rw[hn,if_pos rfl]at hc;simp only[Obj.arr.injEq]at hc;obtain⟨rfl,rfl,rfl⟩:=hc;exact .inl ⟨g,c0,by simp,rfl⟩
   ·have e:(vs1++Value.slice (some ⟨g,0,none⟩) es.length c0::vs2).length=pre.length+(1+post.length):=by simp only[List.length_append,List.length_cons];omega
    rw[e];exact all2_rep trivial _
  ·simp only[initC,List.mem_append,List.mem_cons,List.mem_map,List.mem_replicate]at hv;rcases hv with⟨x,_,rfl⟩|rfl|⟨x,_,rfl⟩|⟨_,rfl⟩
   ·exact argV_ref x
   ·intro hc;have hc:nth Obj.none (upd (List.replicate (n+8) Obj.none) (keyC n) (.arr s es false)) (keyC n)=Obj.none:=hc;rw[hn,if_pos rfl]at hc;simp at hc
   ·exact argV_ref x
   ·trivial
  ·simp only[initC];rw[hn];split
   ·rename_i e;exact⟨hL.room,hL.s0,hL.lens,.inr ⟨g,c0,cs0,t0,by simp[e],hL.nF,hL.blk,hL.sz,hL.lc,hL.cd,hL.ct,rfl⟩⟩
   ·rename_i e;show(if k=keyC n then some (g,c0)else none)=none;rw[if_neg e]
  ·intro k k' b c c' q1 q2;simp only at q1 q2;split at q1
   ·split at q2
    ·rename_i e1 e2;rw[e1,e2]
    ·simp at q2
   ·simp at q1
  ·intro k b c q1;simp only at q1;split at q1
   ·simp only[Option.some.injEq,Prod.mk.injEq]at q1;obtain⟨rfl,rfl⟩:=q1;exact⟨.inr rfl,hL.lt⟩
   ·simp at q1
def ownP (st:St) (rs:List ResultVar):Option (Nat×List (List D)):=
 match rs with
 |[.tmp t]=>match nth .any st.tmps t with
  | .arr k=>match nth .none st.objs k with
   | .arr s es false=>some (s,es)
   |_=>none
  | .sub k 0 n=>match nth .none st.objs k with
   | .arr s es false=>some (s,es.take n)
   |_=>none
  |_=>none
 |_=>none
theorem own_finC {fn:Func} {w:World} {B:Bd} {F:Nat→Prop} {s':St} {a':Act} {w':World} {s:Nat} {es:List (List D)} (hh:St.has C B F w s' a' w') (has:ownP s' fn.results.toList=some (s,es)) (hne:es≠[]):
 a'.defers=[]∧∃v,(results fn a'.tmps).run C.P w'= .ok v w'∧BelowX B w w'∧∃(F':Nat→Prop) (b c:Nat) (cs:Array Value) (t:TypeId),Ending.returned v= .returned (.slice (some ⟨b,0,none⟩) es.length c)∧(∀x,F x→F' x)∧(∀x,F' x→x<w'.heap.size∧(F x∨Own B x))∧
  Own B b∧LentOk C.P w' F' b c cs t s es:=by
 obtain⟨F',loc',h⟩:=hh;have hlast:∀(t:Nat) (x:Value),fn.results.toList=[.tmp t]→nth undef a'.tmps.toList t=x→(results fn a'.tmps).run C.P w'= .ok x w':=fun t x hrs hx=>by
  have hr:fn.results= #[.tmp t]:=by apply Array.ext';simpa using hrs
  unfold results;rw[hr];have hv':a'.tmps[t]?.getD undef=x:=by rw[←hx,nth_eq];simp
  simp[hv']
 unfold ownP at has;split at has
 ·rename_i t hrs;have hx:=(slot_ok h t).1;simp only[Act.eval]at hx;have hxe:∀x,a'.tmps.getD t undef=x→nth undef a'.tmps.toList t=x:=fun x e=>by rw[←e,nth_eq];simp
  split at has
  ·rename_i k hk;split at has
   ·rename_i s0 es0 hob;simp only[Option.some.injEq,Prod.mk.injEq]at has;obtain⟨rfl,rfl⟩:=has;rw[hk]at hx;have hco:=h.objs k;rw[hob]at hco;obtain⟨hroom,hs0,hlen,hco⟩:=hco;rcases hx _ _ _ hob with⟨b,c,hl,hv⟩|⟨_,h0,_⟩
    ·rcases hco with⟨h4,_⟩|⟨b',c',cs,t',h4,h5,h6,h7,h8,h9,h10,h11⟩
     ·rw[h4]at hl;simp at hl
     ·rw[h4]at hl;simp only[Option.some.injEq,Prod.mk.injEq]at hl;obtain⟨rfl,rfl⟩:=hl;have hfr:=h.fresh _ _ _ h4;refine⟨h.defers,_,hlast t _ hrs (hxe _ (by simpa using hv)),h.below,F',b',c',cs,t',rfl,h.fsup,fun x hx=>⟨h.bound x hx,h.fsub x hx⟩,hfr.1,⟨by simpa using h5,hfr.2,h6,h7,h8,hroom,hs0,hlen,by rw[←h.prog];exact h10,h9⟩⟩
    ·exact absurd h0 hne
   ·simp at has
  ·rename_i k n hk;split at has
   ·rename_i s0 es0 hob;simp only[Option.some.injEq,Prod.mk.injEq]at has;obtain⟨rfl,rfl⟩:=has;rw[hk]at hx;have hco:=h.objs k;rw[hob]at hco;obtain⟨hroom,hs0,hlen,hco⟩:=hco;obtain⟨b,c,hl,hnl,hv⟩:=(hx _ _ _ hob).resolve_right (by
     rintro(⟨_,_,h0,_⟩|⟨_,h0,_⟩)
     ·rw[h0]at hne;simp at hne
     ·omega)
    rcases hco with⟨h4,_⟩|⟨b',c',cs,t',h4,h5,h6,h7,h8,h9,h10,h11⟩
    ·rw[h4]at hl;simp at hl
    ·rw[h4]at hl;simp only[Option.some.injEq,Prod.mk.injEq]at hl;obtain⟨rfl,rfl⟩:=hl;have hfr:=h.fresh _ _ _ h4;have hln:(es0.take n).length=n:=by rw[List.length_take];omega
     refine⟨h.defers,_,hlast t _ hrs (hxe _ (by simpa using hv)),h.below,F',b',c',cs,t',by rw[hln],h.fsup,fun x hx=>⟨h.bound x hx,h.fsub x hx⟩,hfr.1,
      ⟨by simpa using h5,hfr.2,h6,h7,by omega,hroom.le (by omega),hs0,fun e he=>hlen e (List.mem_of_mem_take he),by rw[←h.prog];exact h10,fun j hj=>?_⟩⟩
     rw[hln]at hj;have hj2:j<es0.length*s0:=Nat.lt_of_lt_of_le hj (Nat.mul_le_mul_right s0 (by omega));obtain⟨v,r1,r2⟩:=h9 j hj2;refine⟨v,r1,?_⟩;have hfl:(es0.take n).flatten.length=n*s0:=by rw[length_flatten (fun e' he'=>hlen e' (List.mem_of_mem_take he')),hln]
     have hsp:es0.flatten=(es0.take n).flatten++(es0.drop n).flatten:=by rw[←List.flatten_append,List.take_append_drop]
     have:nth .undef (es0.take n).flatten j=nth .undef es0.flatten j:=by rw[hsp,nth_eq,nth_eq,List.getElem?_append_left (by omega)]
     rw[this];exact r2
   ·simp at has
  ·simp at has
 ·simp at has
variable {B:Bd} {F0:Nat→Prop} {w0:World} {F:Nat→Prop} {loc:Where} {st:St} {a:Act} {w:World}
theorem Conc.adoptC {dst:Option Nat} {d s b c:Nat} {es:List (List D)} {cs:Array Value} {t:TypeId} {w':World} {F' X:Nat→Prop} {dead:List (Nat×Obj)} (h:Conc C B F0 w0 F loc st a w) (hd:freeKey st.objs d=true)
 (hdead:∀p∈dead,p.2= .dead∧p.1<st.objs.length∧nth .none st.objs p.1≠ .none) (hX:∀x,X x→¬F x∧∃p∈dead,∃c,loc p.1=some (x,c))
 (hbel:BelowX ⟨w.heap.size,X⟩ w w') (hF1:∀x,F x→F' x) (hF2:∀x,F' x→x<w'.heap.size∧(F x∨Own ⟨w.heap.size,X⟩ x)) (hb1:Own ⟨w.heap.size,X⟩ b) (hL:LentOk C.P w' F' b c cs t s es) (_hne:es≠[]):
 St.has C B F0 w0 (st.put dst (.arr d) (dead++[(d,.arr s es false)])) (a.put dst (.slice (some ⟨b,0,none⟩) es.length c)) w':=by
 obtain⟨hnone,hlt⟩:=freeKey_ok hd;have hsize:=hbel.size;have hnd:=fun k=>nth_upds_dead dead st.objs k fun p hp=>⟨(hdead p hp).1,(hdead p hp).2.1⟩
 have hdd:¬∃p∈dead,p.1=d:=fun⟨p,hp,e⟩=>(hdead p hp).2.2 (by rw[e];exact hnone)
 have hn:∀k,nth .none (upds st.objs (dead++[(d,.arr s es false)])) k=if k=d then .arr s es false else if(∃p∈dead,p.1=k)then .dead else nth .none st.objs k:=fun k=>by
  rw[upds_append];show nth .none (upd (upds st.objs dead) d (.arr s es false)) k=_;by_cases hk:d=k
  ·subst hk;rw[nth_upd_same _ _ _ (by rw[length_upds];exact hlt),if_pos rfl]
  ·rw[nth_upd_ne _ _ _ hk,if_neg (Ne.symm hk),hnd]
 have hown:∀x,Own ⟨w.heap.size,X⟩ x→Own B x:=fun x hx=>by
  rcases hx with hx|hx
  ·exact .inl (Nat.le_trans h.hB hx)
  ·obtain⟨_,p,_,c,hl⟩:=hX x hx;exact(h.fresh _ _ _ hl).1
 have hwF:∀x,F x→w'.heap[x]? =w.heap[x]? :=fun x hx=>hbel.block x (h.bound x hx) fun hX'=>(hX x hX').1 hx
 open Classical in
 let loc':Where:=⟨loc.P,fun k=>if k=d then some (b,c)else if(∃p∈dead,p.1=k)then none else loc k,fun k=>if k=d then t else loc.ty k⟩
 have hl':∀k x y,loc' k=some (x,y)→(k=d∧x=b∧y=c)∨(k≠d∧(¬∃p∈dead,p.1=k)∧loc k=some (x,y)):=fun k x y hl=>by
  simp only[loc']at hl;split at hl
  ·simp only[Option.some.injEq,Prod.mk.injEq]at hl;exact .inl ⟨‹_›,hl.1.symm,hl.2.symm⟩
  ·split at hl
   ·simp at hl
   ·exact .inr ⟨‹_›,‹_›,hl⟩
 have hnotX:∀k x y,(¬∃p∈dead,p.1=k)→loc k=some (x,y)→¬X x:=fun k x y hk hl hx=>by obtain⟨_,p,hp,c',hl2⟩:=hX x hx;exact hk ⟨p,hp,h.inj _ _ _ _ _ hl2 hl⟩
 have hle:Le st.objs (upds st.objs (dead++[(d,.arr s es false)])) loc loc':=by
  refine⟨rfl,fun k hk=>by
   have:k≠d:=fun e=>by subst e;exact absurd hnone hk
   simp[loc',this],fun k hk=>?_,fun k o' hk hc hbx=>?_,fun k s' es' fz' hk hc=>?_⟩
  ·have:k≠d:=fun e=>by subst e;exact absurd hnone hk
   rw[hn,if_neg this];split
   ·simp
   ·exact hk
  ·have:k≠d:=fun e=>by subst e;exact absurd hnone hk
   rw[hn,if_neg this]at hc;split at hc
   ·rw[←hc]at hbx;simp[isBox]at hbx
   ·rename_i e;exact⟨by rw[hc];exact hbx,by simp only[loc'];rw[if_neg this,if_neg e]⟩
  ·have:k≠d:=fun e=>by subst e;exact absurd hnone hk
   rw[hn,if_neg this]at hc;split at hc
   ·simp at hc
   ·rename_i e;exact⟨⟨_,_,hc,rfl⟩,by simp only[loc'];rw[if_neg this,if_neg e]⟩
 have hbw:BelowX B w w':=⟨hbel.os,hbel.tape,hbel.output,hbel.size,fun j hj hjX=>hbel.block j (Nat.lt_of_lt_of_le hj h.hB) fun hx=>by
  rcases hown j (.inr hx)with h1|h1
  ·omega
  ·exact hjX h1⟩
 refine⟨F',loc',h.step hF1 hwF hle (h.below.trans hbw) (by have:=h.hB;omega) (fun k=>?_) ?_ ?_ (fun x hx=>(hF2 x hx).1) (fun x hx=>?_) ?_ ?_⟩
 ·rw[hn];split
  ·rename_i e;exact⟨hL.room,hL.s0,hL.lens,.inr ⟨b,c,cs,t,by simp[loc',e],hL.nF,hL.blk,hL.sz,hL.lc,hL.cd,by show loc.P.cellsOf t=s;rw[h.prog];exact hL.ct,by simp[loc',e]⟩⟩
  ·rename_i e1;split
   ·rename_i e2;show loc' k=none;simp only[loc'];rw[if_neg e1,if_pos e2]
   ·rename_i e2;refine CO.le hF1 hwF hle (by simp only[loc'];rw[if_neg e1,if_neg e2]) (by simp only[loc'];rw[if_neg e1]) (fun x y hl=>?_) (h.objs k);have hf:=(h.fresh _ _ _ hl).2;have hx:=hnotX _ _ _ e2 hl;refine⟨hbel.block x hf hx,fun hnF hF'=>?_⟩;rcases(hF2 x hF').2 with h1|h1|h1
    ·exact hnF h1
    ·have h1:w.heap.size≤x:=h1;omega
    ·exact hx h1
 ·intro k k' x y y' q1 q2;rcases hl' _ _ _ q1 with⟨r1,r2,r3⟩|⟨r1,r2,r3⟩<;>rcases hl' _ _ _ q2 with⟨u1,u2,u3⟩|⟨u1,u2,u3⟩
  ·rw[r1,u1]
  ·subst r2;exfalso;rcases hb1 with hb1|hb1
   ·have hb1:w.heap.size≤x:=hb1;have:=(h.fresh _ _ _ u3).2;omega
   ·exact hnotX _ _ _ u2 u3 hb1
  ·subst u2;exfalso;rcases hb1 with hb1|hb1
   ·have hb1:w.heap.size≤x:=hb1;have:=(h.fresh _ _ _ r3).2;omega
   ·exact hnotX _ _ _ r2 r3 hb1
  ·exact h.inj _ _ _ _ _ r3 u3
 ·intro k x y q1;rcases hl' _ _ _ q1 with⟨r1,r2,r3⟩|⟨r1,r2,r3⟩
  ·subst r2;exact⟨hown _ hb1,hL.lt⟩
  ·have:=h.fresh _ _ _ r3;exact⟨this.1,by omega⟩
 ·rcases(hF2 x hx).2 with h1|h1
  ·exact h.fsub x h1
  ·exact .inr (hown x h1)
 ·intro s' es' fz' hc;rw[hn,if_pos rfl]at hc;simp only[Obj.arr.injEq]at hc;obtain⟨rfl,rfl,rfl⟩:=hc;exact .inl ⟨b,c,by simp[loc'],rfl⟩
 ·show nth .none (upds st.objs _) d≠ .none;rw[hn,if_pos rfl];simp
end
end Eng
end

section
namespace Eng
open Go Go.RowKit
variable [Env]
def effCl (chk:List A→Bool) (s:Nat) (mk:List A→List (List D)) (dst:Option Nat) (vs:List V) (ob:List Obj):R:=
 match dst with
 |none=> .fail
 |some d=>match freeKey ob d,toAs ob vs with
  |true,some (al,us)=> .cond (chk al=true) (.arr d) (us++[(d,.arr s (mk al) false)])
  |_,_=> .fail
def keysU:List (Nat×Obj)→List Nat
 |[]=>[]
 |p::r=>p.1::keysU r
def effCo (s:Nat) (chk:List (List D)→List A→Bool) (mk:List (List D)→List A→List (List D)) (dst:Option Nat) (vs:List V) (ob:List Obj):R:=
 match dst with
 |none=> .fail
 |some d=>match vs with
  | .arr k::r=>match freeKey ob d,nth .none ob k,toAs ob r with
   |true,.arr s0 es false,some (al,us)=>match Nat.beq s0 s&&!memN k (keysU us)with
    |true=> .cond (chk es al=true) (.arr d) (us++[(k,.dead),(d,.arr s (mk es al) false)])
    |false=> .fail
   |_,_,_=> .fail
  |_=> .fail
omit [Env] in
theorem mem_keysU {k:Nat}:∀{us:List (Nat×Obj)},k∈keysU us↔∃p∈us,p.1=k
 |[]=>by simp[keysU]
 |p::r=>by
  simp only[keysU,List.mem_cons];rw[mem_keysU];constructor
  ·rintro(rfl|⟨q,hq,rfl⟩)
   ·exact⟨p,.inl rfl,rfl⟩
   ·exact⟨q,.inr hq,rfl⟩
  ·rintro⟨q,rfl|hq,rfl⟩
   ·exact .inl rfl
   ·exact .inr ⟨q,hq,rfl⟩
section
variable {C:Cx}
theorem effAt_cl {f s:Nat} {fn:Func} {chk:List A→Bool} {mk:List A→List (List D)} (hf:C.P.funcs[f]? =some fn) (hb:fn.body≠none) (hn:fn.name≠ "runtime.NumGoroutine") (hmk:∀al,chk al=true→mk al≠[]∧GivesC C f al none [] s (mk al)):EffAt C f (effCl chk s mk):=by
 refine⟨fun{B F0 w0 F loc st a w dst args ts ty pos after g} hc=>?_,fun dst vs ob ob' hh hd=>?_,fun dst vs ob hv _=>?_⟩
 ·unfold effCl;split
  ·trivial
  ·rename_i d;split
   ·rename_i al us hd hto;obtain⟨hfz,hall⟩:=toAs_ok hc hto (all2_ev hc args.toList);obtain⟨F',hc',hF',hb'⟩:=hc.freezes hfz st.dirty;have hargs:=hall F' hF' hb';intro hck next Q hnx
    obtain⟨hne,hG⟩:=hmk al hck;have hcall:=hG w F' (args.toList.map a.eval) [] 0 0 #[] 0 hc'.bound hc'.inv hargs trivial (fun s0 es0 h=>by simp at h);have hargs':(args.toList.map a.eval++(lentV 0 0 none++[])).toArray=args.map a.eval:=by apply Array.ext';simp[lentV]
    rw[hargs']at hcall;refine wp_entered hf hb hn hcall fun e w' he=>?_
    obtain⟨hbel,F2,b,c,cs,t,rfl,h1,h2,h3,h4⟩:=he;refine⟨_,rfl,hnx _ _ ?_⟩;have h5:=hc'.adoptC (dst:=some d) (d:=d) (dead:=[]) (freeKey_upds hfz hd) (fun p hp=>by simp at hp) (fun x hx=>hx.elim) hbel h1 h2 h3 h4 hne;refine has_same h5 rfl ?_;show upds (upds st.objs us) ([]++[(d,.arr s (mk al) false)])=upds st.objs (us++[(d,.arr s (mk al) false)]);rw[upds_append us];rfl
   ·trivial
 ·unfold effCl;cases dst with
  |none=>rfl
  |some d=>
   have h1:toAs ob vs=toAs ob' vs:=toAs_ag (c:=2) fun v hv k hk=> .inl (hh k (by
    rw[mem_deepB];exact⟨k,List.mem_flatMap.2 ⟨v,hv,hk⟩,.inl rfl⟩))
   simp only[h1];rw[hd d (.inl rfl)]
 ·unfold effCl;split
  ·trivial
  ·rename_i d;split
   ·rename_i al us hd hto;have hfz:=toAs_fz hto;refine⟨fun p hp=>?_,fun k hk=>?_⟩
    ·rcases List.mem_append.1 hp with hp|hp
     ·obtain⟨⟨v,hv1,hv2⟩,s',es',fz,h1,h2⟩:=hfz p hp;refine⟨.inr ⟨?_,by rw[h1];simp⟩,by rw[h2];simp,fun u hu=>by rw[h2]at hu;simp[objVs]at hu⟩;rw[mem_deepB];exact⟨p.1,List.mem_flatMap.2 ⟨v,hv1,hv2⟩,.inl rfl⟩
     ·simp only[List.mem_singleton]at hp;subst hp;exact⟨.inl ⟨.inl rfl,hd⟩,by simp,fun u hu=>by simp[objVs]at hu⟩
    ·simp only[keysV,List.mem_singleton]at hk;subst hk;exact .inr ⟨hd,_,List.mem_append_right _ (List.mem_singleton.2 rfl)⟩
   ·trivial
theorem effAt_co {f s:Nat} {fn:Func} {chk:List (List D)→List A→Bool} {mk:List (List D)→List A→List (List D)} (hf:C.P.funcs[f]? =some fn) (hb:fn.body≠none) (hn:fn.name≠ "runtime.NumGoroutine")
 (hmk:∀es al,chk es al=true→es≠[]∧mk es al≠[]∧GivesC C f [] (some (s,es)) al s (mk es al)):EffAt C f (effCo s chk mk):=by
 refine⟨fun{B F0 w0 F loc st a w dst args ts ty pos after g} hc=>?_,fun dst vs ob ob' hh hd=>?_,fun dst vs ob hv _=>?_⟩
 ·unfold effCo;split
  ·trivial
  ·rename_i d;split
   ·rename_i k r hvs;split
    ·rename_i s0 es al us hd hk hto;split
     ·rename_i hsk;simp only[Bool.and_eq_true,Bool.not_eq_true']at hsk;obtain rfl:=Nat.eq_of_beq_eq_true hsk.1;have hku:¬∃p∈us,p.1=k:=fun h=>by have:=memN_iff.2 (mem_keysU.2 h);rw[this]at hsk;simp at hsk
      intro hck next Q hnx
      obtain⟨hne,hne2,hG⟩:=hmk es al hck;obtain⟨x0,xs,hxs⟩:∃x0 xs,args.toList=x0::xs:=by
       cases h:args.toList with
       |nil=>rw[h]at hvs;simp at hvs
       |cons x0 xs=>exact⟨x0,xs,rfl⟩
      rw[hxs]at hvs;simp only[List.map_cons,List.cons.injEq]at hvs;obtain⟨hx0,rfl⟩:=hvs;obtain⟨hfz,hall⟩:=toAs_ok hc hto (all2_ev hc xs);obtain⟨F',hc',hF',hb'⟩:=hc.freezes hfz st.dirty;have hargs:=hall F' hF' hb';have hv0:=(ev_ok hc x0).1;rw[hx0]at hv0;have hk':nth .none (upds st.objs us) k= .arr s0 es false:=by rw[nth_upds_out _ _ fun p hp e=>hku ⟨p,hp,e⟩];exact hk
      have hco:=hc'.objs k;simp only at hco;rw[hk']at hco;obtain⟨q1,q2,q3,q4⟩:=hco;rcases q4 with⟨_,q5⟩|⟨gb,c0,cs0,t0,q5,q6,q7,q8,q9,q10,q11,q12⟩
      ·exact absurd q5 hne
      ·rcases hv0 _ _ _ hk with⟨b1,c1,r1,r2⟩|⟨r1,_⟩
       ·rw[q5]at r1;simp only[Option.some.injEq,Prod.mk.injEq]at r1;obtain⟨rfl,rfl⟩:=r1;have hcall:=hG w F' [] (xs.map a.eval) gb c0 cs0 t0 hc'.bound hc'.inv trivial hargs (fun s1 es1 he=>by
         simp only[Option.some.injEq,Prod.mk.injEq]at he;obtain⟨rfl,rfl⟩:=he;exact⟨by simpa using q6,(hc'.fresh _ _ _ q5).2,q7,q8,q9,q1,q2,q3,by rw[←hc.prog];exact q11,q10⟩)
        have hargs':([]++(lentV gb c0 (some (s0,es))++xs.map a.eval)).toArray=args.map a.eval:=by apply Array.ext';rw[Array.toList_map,hxs];simp[lentV,r2]
        rw[hargs']at hcall;refine wp_entered hf hb hn hcall fun e w' he=>?_
        obtain⟨hbel,F2,b,c,cs,t,rfl,h1,h2,h3,h4⟩:=he;refine⟨_,rfl,hnx _ _ ?_⟩;have hkl:k<(upds st.objs us).length:=lt_of_nth (by rw[hk'];simp);have h5:=hc'.adoptC (dst:=some d) (d:=d) (dead:=[(k,.dead)]) (freeKey_upds hfz hd) (fun p hp=>by
         simp only[List.mem_singleton]at hp;subst hp;exact⟨rfl,hkl,by rw[hk'];simp⟩) (fun x hx=>by
         have hx:x=gb:=hx;subst hx;exact⟨by simpa using q6,(k,.dead),by simp,c0,q5⟩) hbel h1 h2 h3 h4 hne2
        refine has_same h5 rfl ?_;show upds (upds st.objs us) ([(k,.dead)]++[(d,.arr s0 (mk es al) false)])=upds st.objs (us++[(k,.dead),(d,.arr s0 (mk es al) false)]);rw[upds_append us];rfl
       ·have h6:loc k=some (gb,c0):=q5;rw[h6]at r1;simp at r1
     ·trivial
    ·trivial
   ·trivial
 ·unfold effCo;cases dst with
  |none=>rfl
  |some d=>
   dsimp only
   cases vs with
   |nil=>rfl
   |cons v r=>
    cases v with
    |arr k=>
     have h0:nth .none ob k=nth .none ob' k:=hh k (by
      rw[mem_deepB];exact⟨k,List.mem_flatMap.2 ⟨.arr k,by simp,by simp[keysV]⟩,.inl rfl⟩)
     have h1:toAs ob r=toAs ob' r:=toAs_ag (c:=2) fun v hv k hk=> .inl (hh k (by
      rw[mem_deepB];exact⟨k,List.mem_flatMap.2 ⟨v,by simp[hv],hk⟩,.inl rfl⟩))
     simp only[h0,h1];rw[hd d (.inl rfl)]
    |_=>rfl
 ·unfold effCo;split
  ·trivial
  ·rename_i d;split
   ·rename_i k r;split
    ·rename_i s0 es al us hd hk hto;split
     ·have hfz:=toAs_fz hto;refine⟨fun p hp=>?_,fun j hj=>?_⟩
      ·rcases List.mem_append.1 hp with hp|hp
       ·obtain⟨⟨v,hv1,hv2⟩,s',es',fz,h1,h2⟩:=hfz p hp;refine⟨.inr ⟨?_,by rw[h1];simp⟩,by rw[h2];simp,fun u hu=>by rw[h2]at hu;simp[objVs]at hu⟩;rw[mem_deepB];exact⟨p.1,List.mem_flatMap.2 ⟨v,by simp[hv1],hv2⟩,.inl rfl⟩
       ·simp only[List.mem_cons,List.not_mem_nil,or_false]at hp;rcases hp with rfl|rfl
        ·refine⟨.inr ⟨?_,by rw[hk];simp⟩,by simp,fun u hu=>by simp[objVs]at hu⟩;rw[mem_deepB];exact⟨k,List.mem_flatMap.2 ⟨.arr k,by simp,by simp[keysV]⟩,.inl rfl⟩
        ·exact⟨.inl ⟨.inl rfl,hd⟩,by simp,fun u hu=>by simp[objVs]at hu⟩
      ·simp only[keysV,List.mem_singleton]at hj;subst hj;exact .inr ⟨hd,_,List.mem_append_right _ (List.mem_cons_of_mem _ (List.mem_singleton.2 rfl))⟩
     ·trivial
    ·trivial
   ·trivial
end
end Eng
end

section
namespace Eng
open Go Go.RowKit
variable [Env]
def GivesI (C:Cx) (f:Nat) (s:Nat) (es:List (List D)) (post:List A) (res:List A) (es':List (List D)):Prop:=
 ∀(w:World) (F:Nat→Prop) (vs2:List Value) (g c0:Nat) (cs0:Array Value) (t0:TypeId),(∀b,F b→b<w.heap.size)→Inv C F w→All2 (CA w F) post vs2→LentOk C.P w F g c0 cs0 t0 s es→
  Calls C.P f (.slice (some ⟨g,0,none⟩) es.length c0::vs2).toArray w fun e w'=>BelowX ⟨w.heap.size,fun b=>b=g⟩ w w'∧
   ∃(F':Nat→Prop) (cs:Array Value) (v:Value),e= .returned v∧(∀x,F x→F' x)∧(∀x,F' x→x<w'.heap.size∧(F x∨Own ⟨w.heap.size,fun b=>b=g⟩ x))∧CRes w' F' res v∧LentOk C.P w' F' g c0 cs t0 s es'∧es'.length=es.length
def initI (n s:Nat) (es:List (List D)) (post:List A) (g c t:Nat):St:=
 ⟨.arrAt (keyC n) g c t::(post.map argV++List.replicate (n-(1+post.length)) .any),upd (List.replicate (n+8) .none) (keyC n) (.arr s es false),[]⟩
section
variable {C:Cx}
theorem init_hasI {n s g c0:Nat} {es:List (List D)} {post:List A} {vs2:List Value} {w:World} {F:Nat→Prop} {cs0:Array Value} {t0:TypeId} (hb:∀b,F b→b<w.heap.size) (hinv:Inv C F w) (h2:All2 (CA w F) post vs2) (hL:LentOk C.P w F g c0 cs0 t0 s es):
 St.has C ⟨w.heap.size,fun b=>b=g⟩ F w (initI n s es post g c0 t0) {tmps:=(Value.slice (some ⟨g,0,none⟩) es.length c0::vs2).toArray++Array.replicate (n-(Value.slice (some ⟨g,0,none⟩) es.length c0::vs2).toArray.size) undef,defers:=[]} w:=by
 have hl2:=h2.length;have hkl:keyC n<(List.replicate (n+8) Obj.none).length:=by simp[keyC]
 have hn:∀k,nth .none (upd (List.replicate (n+8) Obj.none) (keyC n) (.arr s es false)) k=if k=keyC n then .arr s es false else .none:=fun k=>by
  by_cases hk:keyC n=k
  ·subst hk;rw[nth_upd_same _ _ _ hkl,if_pos rfl]
  ·rw[nth_upd_ne _ _ _ hk,nth_rep,if_neg (Ne.symm hk)]
 refine⟨F,⟨C.P,fun k=>if k=keyC n then some (g,c0)else none,fun _=>t0⟩,⟨rfl,BelowX.refl _ _,Nat.le_refl _,rfl,?_,fun v hv=>?_,fun k=>?_,?_,?_,hb,fun b h=> .inl h,fun _ h=>h,hinv⟩⟩
 ·simp only[initI,Array.toList_append,Array.toList_replicate,List.size_toArray,List.cons_append];refine⟨?_,all2_app (argV_ok h2) ?_⟩
  ·intro s' es' fz' hc;rw[hn,if_pos rfl]at hc;simp only[Obj.arr.injEq]at hc;obtain⟨rfl,rfl,rfl⟩:=hc;exact⟨⟨by simp,rfl⟩,rfl⟩
  ·have e:(Value.slice (some ⟨g,0,none⟩) es.length c0::vs2).length=1+post.length:=by simp only[List.length_cons];omega
   rw[e];exact all2_rep trivial _
 ·simp only[initI,List.mem_append,List.mem_cons,List.mem_map,List.mem_replicate]at hv;rcases hv with rfl|⟨x,_,rfl⟩|⟨_,rfl⟩
  ·intro hc;have hc:nth Obj.none (upd (List.replicate (n+8) Obj.none) (keyC n) (.arr s es false)) (keyC n)=Obj.none:=hc;rw[hn,if_pos rfl]at hc;simp at hc
  ·exact argV_ref x
  ·trivial
 ·simp only[initI];rw[hn];split
  ·rename_i e;exact⟨hL.room,hL.s0,hL.lens,.inr ⟨g,c0,cs0,t0,by simp[e],hL.nF,hL.blk,hL.sz,hL.lc,hL.cd,hL.ct,rfl⟩⟩
  ·rename_i e;show(if k=keyC n then some (g,c0)else none)=none;rw[if_neg e]
 ·intro k k' b c c' q1 q2;simp only at q1 q2;split at q1
  ·split at q2
   ·rename_i e1 e2;rw[e1,e2]
   ·simp at q2
  ·simp at q1
 ·intro k b c q1;simp only at q1;split at q1
  ·simp only[Option.some.injEq,Prod.mk.injEq]at q1;obtain⟨rfl,rfl⟩:=q1;exact⟨.inr rfl,hL.lt⟩
  ·simp at q1
theorem resD_okF {F0:Nat→Prop} {w0:World} {B:Bd} {F:Nat→Prop} {loc:Where} {st:St} {a:Act} {w:World} (h:Conc C B F0 w0 F loc st a w) {fn:Func} {as:List A} (hr:resD C st fn.results.toList=some as) (hfl:∀r∈as,flatA r=true):
 a.defers=[]∧∃v,(results fn a.tmps).run C.P w= .ok v w∧∀F':Nat→Prop,CRes w F' as v:=by
 obtain⟨us,h1,h2⟩:=resD_ok h hr;refine⟨h.defers,if h:us.toArray.size=1 then us.toArray[0]else .tuple us.toArray,?_,fun F'=>?_⟩
 ·unfold results;rw[Array.mapM_eq_mapM_toList];simp only[Sem.run_bind,map_eq_pure_bind];have h5:∀g:ResultVar→Sem Value,g=getR a.tmps→(fn.results.toList.mapM g).run C.P w= .ok us w:=fun g hg=>by rw[hg];exact h1
  rw[h5 _ (by funext r;cases r<;>rfl)];rfl
 ·match as,us,h2 with
  |[a],[u],h2=>exact flat_CA h2.1 (hfl _ (by simp))
  |[],[],h2=>exact⟨#[],rfl,trivial⟩
  |a::b::r,u::v::s,h2=>exact⟨(u::v::s).toArray,by simp,h2.mono_mem fun r hr v hv=>flat_CA hv (hfl r hr)⟩
variable {B:Bd} {F0:Nat→Prop} {w0:World} {F:Nat→Prop} {loc:Where} {st:St} {a:Act} {w:World}
theorem Conc.turned {dst:Option Nat} {k s g c0:Nat} {es es':List (List D)} {cs:Array Value} {t:TypeId} {w':World} {F':Nat→Prop} {v:V} {x:Value} {us:List (Nat×Obj)} (h:Conc C B F0 w0 F loc st a w) (hk:nth .none st.objs k= .arr s es false) (hl:loc k=some (g,c0)) (hnF:¬F g) (htk:loc.ty k=t)
 (hbel:BelowX ⟨w.heap.size,fun b=>b=g⟩ w w') (hF1:∀x,F x→F' x) (hF2:∀x,F' x→x<w'.heap.size∧(F x∨Own ⟨w.heap.size,fun b=>b=g⟩ x)) (hL:LentOk C.P w' F' g c0 cs t s es') (hlen:es'.length=es.length) (hus:us=[(k,.arr s es' false)])
 (hv:∀(loc:Where) (objs:List Obj),CV loc objs w' F' v x∧Ref objs v):St.has C B F0 w0 (st.put dst v us) (a.put dst x) w':=by
 subst hus;have hkl:k<st.objs.length:=lt_of_nth (by rw[hk];simp);have hle:Le st.objs (upd st.objs k (.arr s es' false)) loc loc:=le_arr hk hlen;have hsize:=hbel.size;have hwF:∀x,F x→w'.heap[x]? =w.heap[x]? :=fun x hx=>hbel.block x (h.bound x hx) fun e=>by have e:x=g:=e;exact hnF (e▸hx)
 have hfr:=h.fresh _ _ _ hl;have hown:∀x,Own ⟨w.heap.size,fun b=>b=g⟩ x→Own B x:=fun x hx=>by
  rcases hx with hx|hx
  ·exact .inl (Nat.le_trans h.hB hx)
  ·have hx:x=g:=hx;rw[hx];exact hfr.1
 have hbw:BelowX B w w':=⟨hbel.os,hbel.tape,hbel.output,hbel.size,fun j hj hjX=>hbel.block j (Nat.lt_of_lt_of_le hj h.hB) fun hx=>by
  rcases hown j (.inr hx)with h1|h1
  ·omega
  ·exact hjX h1⟩
 refine⟨F',loc,h.step (up:=[(k,.arr s es' false)]) hF1 hwF hle (h.below.trans hbw) (by have:=h.hB;omega) (fun j=>?_) h.inj (fun j x y hj=>⟨(h.fresh _ _ _ hj).1,Nat.lt_of_lt_of_le (h.fresh _ _ _ hj).2 hsize⟩) (fun x hx=>(hF2 x hx).1) (fun x hx=>?_) (hv _ _).1 (hv loc _).2⟩
 ·show CO _ (upd st.objs k (.arr s es' false)) _ _ _ (nth .none (upd st.objs k (.arr s es' false)) j);by_cases hkj:k=j
  ·subst hkj;rw[nth_upd_same _ _ _ hkl];exact⟨hL.room,hL.s0,hL.lens,.inr ⟨g,c0,cs,t,hl,hL.nF,hL.blk,hL.sz,hL.lc,hL.cd,by rw[h.prog];exact hL.ct,htk⟩⟩
  ·rw[nth_upd_ne _ _ _ hkj];refine CO.le hF1 hwF hle rfl rfl (fun x y hj=>?_) (h.objs j);have hx:x≠g:=fun e=>by subst e;exact hkj (h.inj _ _ _ _ _ hl hj)
   refine⟨hbel.block x (h.fresh _ _ _ hj).2 hx,fun hnF2 hF'=>?_⟩;rcases(hF2 x hF').2 with h1|h1|h1
   ·exact hnF2 h1
   ·have h1:w.heap.size≤x:=h1;have:=(h.fresh _ _ _ hj).2;omega
   ·exact hx h1
 ·rcases(hF2 x hx).2 with h1|h1
  ·exact h.fsub x h1
  ·exact .inr (hown x h1)
end
end Eng
end

section
namespace Eng
open Go Go.RowKit
variable [Env]
def effIn (s:Nat) (chk:List (List D)→List A→Bool) (mk:List (List D)→List A→List (List D)) (res:List (List D)→List A→List A) (_:Option Nat) (vs:List V) (ob:List Obj):R:=
 match vs with
 | .arr k::r=>match nth .none ob k,toAs ob r with
  | .arr s0 es false,some (al,us)=>match Nat.beq s0 s&&!memN k (keysU us)with
   |true=> .cond (chk es al=true) (resV (res es al)) (us++[(k,.arr s (mk es al) false)])
   |false=> .fail
  |_,_=> .fail
 |_=> .fail
section
variable {C:Cx}
theorem effAt_in {f s:Nat} {fn:Func} {chk:List (List D)→List A→Bool} {mk:List (List D)→List A→List (List D)} {res:List (List D)→List A→List A} (hf:C.P.funcs[f]? =some fn) (hb:fn.body≠none) (hn:fn.name≠ "runtime.NumGoroutine")
 (hmk:∀es al,chk es al=true→es≠[]∧GivesI C f s es al (res es al) (mk es al)):EffAt C f (effIn s chk mk res):=by
 refine⟨fun{B F0 w0 F loc st a w dst args ts ty pos after g} hc=>?_,fun dst vs ob ob' hh hd=>?_,fun dst vs ob hv _=>?_⟩
 ·unfold effIn;split
  ·rename_i k r hvs;split
   ·rename_i s0 es al us hk hto;split
    ·rename_i hsk;simp only[Bool.and_eq_true,Bool.not_eq_true']at hsk;obtain rfl:=Nat.eq_of_beq_eq_true hsk.1;have hku:¬∃p∈us,p.1=k:=fun h=>by have:=memN_iff.2 (mem_keysU.2 h);rw[this]at hsk;simp at hsk
     intro hck next Q hnx
     obtain⟨hne,hG⟩:=hmk es al hck;obtain⟨x0,xs,hxs⟩:∃x0 xs,args.toList=x0::xs:=by
      cases h:args.toList with
      |nil=>rw[h]at hvs;simp at hvs
      |cons x0 xs=>exact⟨x0,xs,rfl⟩
     rw[hxs]at hvs;simp only[List.map_cons,List.cons.injEq]at hvs;obtain⟨hx0,rfl⟩:=hvs;obtain⟨hfz,hall⟩:=toAs_ok hc hto (all2_ev hc xs);obtain⟨F',hc',hF',hb'⟩:=hc.freezes hfz st.dirty;have hargs:=hall F' hF' hb';have hv0:=(ev_ok hc x0).1;rw[hx0]at hv0;have hk':nth .none (upds st.objs us) k= .arr s0 es false:=by rw[nth_upds_out _ _ fun p hp e=>hku ⟨p,hp,e⟩];exact hk
     have hco:=hc'.objs k;simp only at hco;rw[hk']at hco;obtain⟨q1,q2,q3,q4⟩:=hco;rcases q4 with⟨_,q5⟩|⟨gb,c0,cs0,t0,q5,q6,q7,q8,q9,q10,q11,q12⟩
     ·exact absurd q5 hne
     ·rcases hv0 _ _ _ hk with⟨b1,c1,r1,r2⟩|⟨r1,_⟩
      ·rw[q5]at r1;simp only[Option.some.injEq,Prod.mk.injEq]at r1;obtain⟨rfl,rfl⟩:=r1;have hcall:=hG w F' (xs.map a.eval) gb c0 cs0 t0 hc'.bound hc'.inv hargs ⟨by simpa using q6,(hc'.fresh _ _ _ q5).2,q7,q8,q9,q1,q2,q3,by rw[←hc.prog];exact q11,q10⟩;have hargs':(Value.slice (some ⟨gb,0,none⟩) es.length c0::xs.map a.eval).toArray=args.map a.eval:=by apply Array.ext';rw[Array.toList_map,hxs];simp[r2]
       rw[hargs']at hcall;refine wp_entered hf hb hn hcall fun e w' he=>?_
       obtain⟨hbel,F2,cs,v,rfl,h1,h2,h3,h4,h5⟩:=he;refine⟨_,rfl,hnx _ _ ?_⟩;have h6:=hc'.turned (dst:=dst) (k:=k) (es':=mk es al) (v:=resV (res es al)) (x:=v) hk' q5 (by simpa using q6) q12 hbel h1 h2 h4 h5 rfl (fun loc objs=>res_CV h3);refine has_same h6 rfl ?_;show upds (upds st.objs us) [(k,.arr s0 (mk es al) false)]=upds st.objs (us++[(k,.arr s0 (mk es al) false)]);rw[upds_append us]
      ·have h6:loc k=some (gb,c0):=q5;rw[h6]at r1;simp at r1
    ·trivial
   ·trivial
  ·trivial
 ·unfold effIn;cases vs with
  |nil=>rfl
  |cons v r=>
   cases v with
   |arr k=>
    have h0:nth .none ob k=nth .none ob' k:=hh k (by
     rw[mem_deepB];exact⟨k,List.mem_flatMap.2 ⟨.arr k,by simp,by simp[keysV]⟩,.inl rfl⟩)
    have h1:toAs ob r=toAs ob' r:=toAs_ag (c:=2) fun v hv k hk=> .inl (hh k (by
     rw[mem_deepB];exact⟨k,List.mem_flatMap.2 ⟨v,by simp[hv],hk⟩,.inl rfl⟩))
    simp only[h0,h1]
   |_=>rfl
 ·unfold effIn;split
  ·rename_i k r;split
   ·rename_i s0 es al us hk hto;split
    ·have hfz:=toAs_fz hto;refine⟨fun p hp=>?_,fun j hj=>by rw[keys_resV]at hj;simp at hj⟩;rcases List.mem_append.1 hp with hp|hp
     ·obtain⟨⟨v,hv1,hv2⟩,s',es',fz,h1,h2⟩:=hfz p hp;refine⟨.inr ⟨?_,by rw[h1];simp⟩,by rw[h2];simp,fun u hu=>by rw[h2]at hu;simp[objVs]at hu⟩;rw[mem_deepB];exact⟨p.1,List.mem_flatMap.2 ⟨v,by simp[hv1],hv2⟩,.inl rfl⟩
     ·simp only[List.mem_singleton]at hp;subst hp;refine⟨.inr ⟨?_,by rw[hk];simp⟩,by simp,fun u hu=>by simp[objVs]at hu⟩;rw[mem_deepB];exact⟨k,List.mem_flatMap.2 ⟨.arr k,by simp,by simp[keysV]⟩,.inl rfl⟩
    ·trivial
   ·trivial
  ·trivial
end
end Eng
end

section
namespace Eng
open Go Go.RowKit
variable [Env]
def runFc (tab:Nat→List A→Option (List A)) (C:Cx) (lim n f:Nat) (pre:List A) (lent:Option (Nat×List (List D))) (post:List A):Option (Nat×List (List D)):=
 match C.P.funcs[f]? with
 |none=>none
 |some fn=>match fn.body with
  |none=>none
  |some c=>match runC (runF tab C lim n) C lim c (initC fn.ntmps pre lent post)with
   |some (.normal,s)=>ownP s fn.results.toList
   |some (.ret,s)=>ownP s fn.results.toList
   |_=>none
def endB (C:Cx) (fn:Func) (st:St):Option (List A×List (List D)×Nat×Nat×Nat×Nat):=
 match resD C st fn.results.toList with
 |none=>none
 |some as=>match nth .any st.tmps 0 with
  | .arrAt k g c t=>match Nat.beq k (keyC fn.ntmps),nth .none st.objs (keyC fn.ntmps)with
   |true,.arr s es false=>some (as,es,s,g,c,t)
   |_,_=>none
  |_=>none
def runFi (tab:Nat→List A→Option (List A)) (C:Cx) (lim n f s:Nat) (es:List (List D)) (post:List A) (g c t:Nat):Option (List A×List (List D)×Nat×Nat×Nat×Nat):=
 match C.P.funcs[f]? with
 |none=>none
 |some fn=>match fn.body with
  |none=>none
  |some b=>match runC (runF tab C lim n) C lim b (initI fn.ntmps s es post g c t)with
   |some (.normal,st)=>endB C fn st
   |some (.ret,st)=>endB C fn st
   |_=>none
section
variable {C:Cx}
theorem runFc_ok [EffOk C] {tab:Nat→List A→Option (List A)} {lim:Nat} (hm:C.P.follows .mixedOrders=true) (htab:∀f as rs,tab f as=some rs→Gives C f as rs) {n f s:Nat} {pre post:List A} {lent:Option (Nat×List (List D))} {es:List (List D)} (hne:es≠[])
 (h:runFc tab C lim n f pre lent post=some (s,es)):GivesC C f pre lent post s es:=by
 unfold runFc at h;split at h
 ·simp at h
 rename_i fn hf;split at h
 ·simp at h
 rename_i c hc;have key:∀(x:X) (s':St),(x= .normal∨x= .ret)→runC (runF tab C lim n) C lim c (initC fn.ntmps pre lent post)=some (x,s')→ownP s' fn.results.toList=some (s,es)→GivesC C f pre lent post s es:=by
  intro x s' hx hr hres w F vs1 vs2 g c0 cs0 t0 hb hinv h1 h2 hl;refine calls_of_wp hf hc (Code.wp_mono (fun e a' w' hp=>?_) (runC_ok hm (fun f as rs h=>runF_ok hm htab n f as rs h) lim c _ s' x _ w hr (init_hasC hb hinv h1 h2 hl)));obtain⟨he,hh⟩:=hp;have fin:=own_finC (fn:=fn) hh hres hne;rcases hx with rfl|rfl
  ·have he:e= .normal:=he;subst he;exact fin
  ·have he:e= .ret:=he;subst he;exact fin
 split at h
 ·rename_i s' hr;exact key _ _ (.inl rfl) hr h
 ·rename_i s' hr;exact key _ _ (.inr rfl) hr h
 ·simp at h
theorem runFi_ok [EffOk C] {tab:Nat→List A→Option (List A)} {lim:Nat} (hm:C.P.follows .mixedOrders=true) (htab:∀f as rs,tab f as=some rs→Gives C f as rs) {n f s:Nat} {es es':List (List D)} {post res:List A} (hfl:flatAll res=true) (hlen:Nat.beq es'.length es.length=true)
 (h:∀g c t,runFi tab C lim n f s es post g c t=some (res,es',s,g,c,t)):GivesI C f s es post res es':=by
 intro w F vs2 g c0 cs0 t0 hb hinv h2 hL;have h:=h g c0 t0;have hlen:=Nat.eq_of_beq_eq_true hlen;unfold runFi at h;split at h
 ·simp at h
 rename_i fn hf;split at h
 ·simp at h
 rename_i b hbd;have key:∀(x:X) (s':St),(x= .normal∨x= .ret)→runC (runF tab C lim n) C lim b (initI fn.ntmps s es post g c0 t0)=some (x,s')→endB C fn s'=some (res,es',s,g,c0,t0)→
  Calls C.P f (.slice (some ⟨g,0,none⟩) es.length c0::vs2).toArray w fun e w'=>BelowX ⟨w.heap.size,fun b=>b=g⟩ w w'∧
  ∃(F':Nat→Prop) (cs:Array Value) (v:Value),e= .returned v∧(∀x,F x→F' x)∧(∀x,F' x→x<w'.heap.size∧(F x∨Own ⟨w.heap.size,fun b=>b=g⟩ x))∧CRes w' F' res v∧LentOk C.P w' F' g c0 cs t0 s es'∧es'.length=es.length:=by
  intro x s' hx hr hend;refine calls_of_wp hf hbd (Code.wp_mono (fun e a' w' hp=>?_) (runC_ok hm (fun f as rs h=>runF_ok hm htab n f as rs h) lim b _ s' x _ w hr (init_hasI hb hinv h2 hL)));obtain⟨he,hh⟩:=hp;have fin:a'.defers=[]∧∃v,(results fn a'.tmps).run C.P w'= .ok v w'∧BelowX ⟨w.heap.size,fun b=>b=g⟩ w w'∧
   ∃(F':Nat→Prop) (cs:Array Value) (u:Value),Ending.returned v= .returned u∧(∀x,F x→F' x)∧(∀x,F' x→x<w'.heap.size∧(F x∨Own ⟨w.heap.size,fun b=>b=g⟩ x))∧CRes w' F' res u∧LentOk C.P w' F' g c0 cs t0 s es'∧es'.length=es.length:=by
   obtain⟨F',loc',hcc⟩:=hh;unfold endB at hend;split at hend
   ·simp at hend
   rename_i as has;split at hend
   ·rename_i k g1 c1 t1 h0;split at hend
    ·rename_i s1 es1 hkb hob;simp only[Option.some.injEq,Prod.mk.injEq]at hend;obtain⟨rfl,rfl,rfl,rfl,rfl,rfl⟩:=hend;obtain⟨hd,v,hv1,hv2⟩:=resD_okF hcc has (flatAll_ok hfl);have hk:=Nat.eq_of_beq_eq_true hkb;subst hk;have hc0:=(slot_ok hcc 0).1;rw[h0]at hc0;obtain⟨⟨q1,q3⟩,q2⟩:=hc0 _ _ _ hob;have hco:=hcc.objs (keyC fn.ntmps);rw[hob]at hco;obtain⟨p1,p2,p3,p4⟩:=hco;rcases p4 with⟨p4,_⟩|⟨b,c,cs,t,p4,p5,p6,p7,p8,p9,p10,p11⟩
     ·rw[p4]at q1;simp at q1
     ·rw[p4]at q1;simp only[Option.some.injEq,Prod.mk.injEq]at q1;obtain⟨rfl,rfl⟩:=q1;obtain rfl:t=t1:=by rw[←p11];exact q3
      exact⟨hd,v,hv1,hcc.below,F',cs,v,rfl,hcc.fsup,fun x hx=>⟨hcc.bound x hx,hcc.fsub x hx⟩,hv2 F',⟨by simpa using p5,(hcc.fresh _ _ _ p4).2,p6,p7,p8,p1,p2,p3,by rw[←hcc.prog];exact p10,p9⟩,hlen⟩
    ·simp at hend
   ·simp at hend
  rcases hx with rfl|rfl
  ·have he:e= .normal:=he;subst he;exact fin
  ·have he:e= .ret:=he;subst he;exact fin
 split at h
 ·rename_i s' hr;exact key _ _ (.inl rfl) hr h
 ·rename_i s' hr;exact key _ _ (.inr rfl) hr h
 ·simp at h
theorem givesC_cx {C C':Cx} (hP:C'.P=C.P) (hG:C'.G=C.G) {f s:Nat} {pre post:List A} {lent:Option (Nat×List (List D))} {es:List (List D)} (h:GivesC C f pre lent post s es):GivesC C' f pre lent post s es:=by
 intro w F vs1 vs2 g c0 cs0 t0 hb hi h1 h2 hl;rw[hP]at hl ⊢;exact h w F vs1 vs2 g c0 cs0 t0 hb (inv_cx hG.symm hi) h1 h2 hl
theorem givesI_cx {C C':Cx} (hP:C'.P=C.P) (hG:C'.G=C.G) {f s:Nat} {es es':List (List D)} {post res:List A} (h:GivesI C f s es post res es'):GivesI C' f s es post res es':=by
 intro w F vs2 g c0 cs0 t0 hb hi h2 hl;rw[hP]at hl ⊢;exact h w F vs2 g c0 cs0 t0 hb (inv_cx hG.symm hi) h2 hl
end
end Eng
end

section
namespace Eng
open Go Go.RowKit
variable [Env]
section
variable {C:Cx}
theorem own_arr {B:Bd} {F0:Nat→Prop} {w0:World} {F:Nat→Prop} {loc:Where} {st:St} {a:Act} {w:World} (hc:Conc C B F0 w0 F loc st a w) {x:Operand} {k s:Nat} {es:List (List D)} (hv:ev st x= .arr k) (hk:nth .none st.objs k= .arr s es false) (hne:es≠[]):
 ∃(g c0:Nat) (cs0:Array Value) (t0:TypeId),loc k=some (g,c0)∧a.eval x= .slice (some ⟨g,0,none⟩) es.length c0∧LentOk C.P w F g c0 cs0 t0 s es:=by
 have hv0:=(ev_ok hc x).1;rw[hv]at hv0;have hco:=hc.objs k;rw[hk]at hco;obtain⟨q1,q2,q3,q4⟩:=hco;rcases q4 with⟨_,q5⟩|⟨gb,c0,cs0,t0,q5,q6,q7,q8,q9,q10,q11,q12⟩
 ·exact absurd q5 hne
 ·rcases hv0 _ _ _ hk with⟨b1,c1,r1,r2⟩|⟨r1,_⟩
  ·rw[q5]at r1;simp only[Option.some.injEq,Prod.mk.injEq]at r1;obtain⟨rfl,rfl⟩:=r1;exact⟨gb,c0,cs0,t0,q5,r2,⟨by simpa using q6,(hc.fresh _ _ _ q5).2,q7,q8,q9,q1,q2,q3,by rw[←hc.prog];exact q11,q10⟩⟩
  ·rw[q5]at r1;simp at r1
end
end Eng
end

section
namespace Eng
open Go Go.RowKit
variable [Env]
def keyB (n:Nat):Nat:=n
def vOfB (k:Nat) (es:List (List D)):V:=match es with
 |[]=> .nilS
 |_::_=> .arr k
def notE2:List (List D)→Bool
 |[]=>false
 |_::_=>true
section
variable {C:Cx}
end
end Eng
end

section
namespace Eng
open Go Go.RowKit
variable [Env]
section
variable {C:Cx} {B:Bd} {F0:Nat→Prop} {w0:World} {F:Nat→Prop} {loc:Where} {st:St} {a:Act} {w:World}
end
section
variable {C:Cx}
end
end Eng
end

section
namespace Eng
open Go Go.RowKit
variable [Env]
section
variable {C:Cx} {B:Bd} {F0:Nat→Prop} {w0:World} {F:Nat→Prop} {loc:Where} {st:St} {a:Act} {w:World}
theorem Conc.adoptG {dst:Option Nat} {d s b c:Nat} {es:List (List D)} {cs:Array Value} {t:TypeId} {w':World} {F' X:Nat→Prop} {dead:List (Nat×Obj)} {rv:V} {rx:Value} (h:Conc C B F0 w0 F loc st a w) (hd:freeKey st.objs d=true)
 (hdead:∀p∈dead,p.2= .dead∧p.1<st.objs.length∧nth .none st.objs p.1≠ .none) (hX:∀x,X x→¬F x∧∃p∈dead,∃c,loc p.1=some (x,c))
 (hbel:BelowX ⟨w.heap.size,X⟩ w w') (hF1:∀x,F x→F' x) (hF2:∀x,F' x→x<w'.heap.size∧(F x∨Own ⟨w.heap.size,X⟩ x)) (hb1:Own ⟨w.heap.size,X⟩ b) (hL:LentOk C.P w' F' b c cs t s es) (hv:∀(loc:Where) (objs:List Obj),nth .none objs d= .arr s es false→loc d=some (b,c)→CV loc objs w' F' rv rx∧Ref objs rv):
 St.has C B F0 w0 (st.put dst rv (dead++[(d,.arr s es false)])) (a.put dst rx) w':=by
 obtain⟨hnone,hlt⟩:=freeKey_ok hd;have hsize:=hbel.size;have hnd:=fun k=>nth_upds_dead dead st.objs k fun p hp=>⟨(hdead p hp).1,(hdead p hp).2.1⟩
 have hdd:¬∃p∈dead,p.1=d:=fun⟨p,hp,e⟩=>(hdead p hp).2.2 (by rw[e];exact hnone)
 have hn:∀k,nth .none (upds st.objs (dead++[(d,.arr s es false)])) k=if k=d then .arr s es false else if(∃p∈dead,p.1=k)then .dead else nth .none st.objs k:=fun k=>by
  rw[upds_append];show nth .none (upd (upds st.objs dead) d (.arr s es false)) k=_;by_cases hk:d=k
  ·subst hk;rw[nth_upd_same _ _ _ (by rw[length_upds];exact hlt),if_pos rfl]
  ·rw[nth_upd_ne _ _ _ hk,if_neg (Ne.symm hk),hnd]
 have hown:∀x,Own ⟨w.heap.size,X⟩ x→Own B x:=fun x hx=>by
  rcases hx with hx|hx
  ·exact .inl (Nat.le_trans h.hB hx)
  ·obtain⟨_,p,_,c,hl⟩:=hX x hx;exact(h.fresh _ _ _ hl).1
 have hwF:∀x,F x→w'.heap[x]? =w.heap[x]? :=fun x hx=>hbel.block x (h.bound x hx) fun hX'=>(hX x hX').1 hx
 open Classical in
 let loc':Where:=⟨loc.P,fun k=>if k=d then some (b,c)else if(∃p∈dead,p.1=k)then none else loc k,fun k=>if k=d then t else loc.ty k⟩
 have hl':∀k x y,loc' k=some (x,y)→(k=d∧x=b∧y=c)∨(k≠d∧(¬∃p∈dead,p.1=k)∧loc k=some (x,y)):=fun k x y hl=>by
  simp only[loc']at hl;split at hl
  ·simp only[Option.some.injEq,Prod.mk.injEq]at hl;exact .inl ⟨‹_›,hl.1.symm,hl.2.symm⟩
  ·split at hl
   ·simp at hl
   ·exact .inr ⟨‹_›,‹_›,hl⟩
 have hnotX:∀k x y,(¬∃p∈dead,p.1=k)→loc k=some (x,y)→¬X x:=fun k x y hk hl hx=>by obtain⟨_,p,hp,c',hl2⟩:=hX x hx;exact hk ⟨p,hp,h.inj _ _ _ _ _ hl2 hl⟩
 have hle:Le st.objs (upds st.objs (dead++[(d,.arr s es false)])) loc loc':=by
  refine⟨rfl,fun k hk=>by
   have:k≠d:=fun e=>by subst e;exact absurd hnone hk
   simp[loc',this],fun k hk=>?_,fun k o' hk hc hbx=>?_,fun k s' es' fz' hk hc=>?_⟩
  ·have:k≠d:=fun e=>by subst e;exact absurd hnone hk
   rw[hn,if_neg this];split
   ·simp
   ·exact hk
  ·have:k≠d:=fun e=>by subst e;exact absurd hnone hk
   rw[hn,if_neg this]at hc;split at hc
   ·rw[←hc]at hbx;simp[isBox]at hbx
   ·rename_i e;exact⟨by rw[hc];exact hbx,by simp only[loc'];rw[if_neg this,if_neg e]⟩
  ·have:k≠d:=fun e=>by subst e;exact absurd hnone hk
   rw[hn,if_neg this]at hc;split at hc
   ·simp at hc
   ·rename_i e;exact⟨⟨_,_,hc,rfl⟩,by simp only[loc'];rw[if_neg this,if_neg e]⟩
 have hbw:BelowX B w w':=⟨hbel.os,hbel.tape,hbel.output,hbel.size,fun j hj hjX=>hbel.block j (Nat.lt_of_lt_of_le hj h.hB) fun hx=>by
  rcases hown j (.inr hx)with h1|h1
  ·omega
  ·exact hjX h1⟩
 refine⟨F',loc',h.step hF1 hwF hle (h.below.trans hbw) (by have:=h.hB;omega) (fun k=>?_) ?_ ?_ (fun x hx=>(hF2 x hx).1) (fun x hx=>?_) (hv _ _ (by rw[hn,if_pos rfl]) (by simp[loc'])).1 (hv loc' _ (by rw[hn,if_pos rfl]) (by simp[loc'])).2⟩
 ·rw[hn];split
  ·rename_i e;exact⟨hL.room,hL.s0,hL.lens,.inr ⟨b,c,cs,t,by simp[loc',e],hL.nF,hL.blk,hL.sz,hL.lc,hL.cd,by show loc.P.cellsOf t=s;rw[h.prog];exact hL.ct,by simp[loc',e]⟩⟩
  ·rename_i e1;split
   ·rename_i e2;show loc' k=none;simp only[loc'];rw[if_neg e1,if_pos e2]
   ·rename_i e2;refine CO.le hF1 hwF hle (by simp only[loc'];rw[if_neg e1,if_neg e2]) (by simp only[loc'];rw[if_neg e1]) (fun x y hl=>?_) (h.objs k);have hf:=(h.fresh _ _ _ hl).2;have hx:=hnotX _ _ _ e2 hl;refine⟨hbel.block x hf hx,fun hnF hF'=>?_⟩;rcases(hF2 x hF').2 with h1|h1|h1
    ·exact hnF h1
    ·have h1:w.heap.size≤x:=h1;omega
    ·exact hx h1
 ·intro k k' x y y' q1 q2;rcases hl' _ _ _ q1 with⟨r1,r2,r3⟩|⟨r1,r2,r3⟩<;>rcases hl' _ _ _ q2 with⟨u1,u2,u3⟩|⟨u1,u2,u3⟩
  ·rw[r1,u1]
  ·subst r2;exfalso;rcases hb1 with hb1|hb1
   ·have hb1:w.heap.size≤x:=hb1;have:=(h.fresh _ _ _ u3).2;omega
   ·exact hnotX _ _ _ u2 u3 hb1
  ·subst u2;exfalso;rcases hb1 with hb1|hb1
   ·have hb1:w.heap.size≤x:=hb1;have:=(h.fresh _ _ _ r3).2;omega
   ·exact hnotX _ _ _ r2 r3 hb1
  ·exact h.inj _ _ _ _ _ r3 u3
 ·intro k x y q1;rcases hl' _ _ _ q1 with⟨r1,r2,r3⟩|⟨r1,r2,r3⟩
  ·subst r2;exact⟨hown _ hb1,hL.lt⟩
  ·have:=h.fresh _ _ _ r3;exact⟨this.1,by omega⟩
 ·rcases(hF2 x hx).2 with h1|h1
  ·exact h.fsub x h1
  ·exact .inr (hown x h1)
theorem Conc.goneD {dst:Option Nat} {w':World} {F' X:Nat→Prop} {dead:List (Nat×Obj)} {rv:V} {rx:Value} (h:Conc C B F0 w0 F loc st a w)
 (hdead:∀p∈dead,p.2= .dead∧p.1<st.objs.length∧nth .none st.objs p.1≠ .none) (hX:∀x,X x→¬F x∧∃p∈dead,∃c,loc p.1=some (x,c))
 (hbel:BelowX ⟨w.heap.size,X⟩ w w') (hF1:∀x,F x→F' x) (hF2:∀x,F' x→x<w'.heap.size∧(F x∨Own ⟨w.heap.size,X⟩ x))
 (hv:∀(loc:Where) (objs:List Obj),CV loc objs w' F' rv rx∧Ref objs rv):St.has C B F0 w0 (st.put dst rv dead) (a.put dst rx) w':=by
 have hsize:=hbel.size;have hn:=fun k=>nth_upds_dead dead st.objs k fun p hp=>⟨(hdead p hp).1,(hdead p hp).2.1⟩
 have hown:∀x,Own ⟨w.heap.size,X⟩ x→Own B x:=fun x hx=>by
  rcases hx with hx|hx
  ·exact .inl (Nat.le_trans h.hB hx)
  ·obtain⟨_,p,_,c,hl⟩:=hX x hx;exact(h.fresh _ _ _ hl).1
 have hwF:∀x,F x→w'.heap[x]? =w.heap[x]? :=fun x hx=>hbel.block x (h.bound x hx) fun hX'=>(hX x hX').1 hx
 open Classical in
 let loc':Where:=⟨loc.P,fun k=>if(∃p∈dead,p.1=k)then none else loc k,loc.ty⟩
 have hl':∀k x y,loc' k=some (x,y)→(¬∃p∈dead,p.1=k)∧loc k=some (x,y):=fun k x y hl=>by
  simp only[loc']at hl;split at hl
  ·simp at hl
  ·exact⟨‹_›,hl⟩
 have hnotX:∀k x y,(¬∃p∈dead,p.1=k)→loc k=some (x,y)→¬X x:=fun k x y hk hl hx=>by obtain⟨_,p,hp,c',hl2⟩:=hX x hx;exact hk ⟨p,hp,h.inj _ _ _ _ _ hl2 hl⟩
 have hle:Le st.objs (upds st.objs dead) loc loc':=by
  refine⟨rfl,fun k hk=>rfl,fun k hk=>?_,fun k o' hk hc hbx=>?_,fun k s' es' fz' hk hc=>?_⟩
  ·rw[hn];split
   ·simp
   ·exact hk
  ·rw[hn]at hc;split at hc
   ·rw[←hc]at hbx;simp[isBox]at hbx
   ·rename_i e;exact⟨by rw[hc];exact hbx,by simp only[loc'];rw[if_neg e]⟩
  ·rw[hn]at hc;split at hc
   ·simp at hc
   ·rename_i e;exact⟨⟨_,_,hc,rfl⟩,by simp only[loc'];rw[if_neg e]⟩
 have hbw:BelowX B w w':=⟨hbel.os,hbel.tape,hbel.output,hbel.size,fun j hj hjX=>hbel.block j (Nat.lt_of_lt_of_le hj h.hB) fun hx=>by
  rcases hown j (.inr hx)with h1|h1
  ·omega
  ·exact hjX h1⟩
 refine⟨F',loc',h.step hF1 hwF hle (h.below.trans hbw) (by have:=h.hB;omega) (fun k=>?_) ?_ ?_ (fun x hx=>(hF2 x hx).1) (fun x hx=>?_) (hv _ _).1 (hv loc' _).2⟩
 ·rw[hn];split
  ·rename_i e2;show loc' k=none;simp only[loc'];rw[if_pos e2]
  ·rename_i e2;refine CO.le hF1 hwF hle (by simp only[loc'];rw[if_neg e2]) rfl (fun x y hl=>?_) (h.objs k);have hf:=(h.fresh _ _ _ hl).2;have hx:=hnotX _ _ _ e2 hl;refine⟨hbel.block x hf hx,fun hnF hF'=>?_⟩;rcases(hF2 x hF').2 with h1|h1|h1
   ·exact hnF h1
   ·have h1:w.heap.size≤x:=h1;omega
   ·exact hx h1
 ·intro k k' x y y' q1 q2;exact h.inj _ _ _ _ _ (hl' _ _ _ q1).2 (hl' _ _ _ q2).2
 ·intro k x y q1;have:=h.fresh _ _ _ (hl' _ _ _ q1).2;exact⟨this.1,by omega⟩
 ·rcases(hF2 x hx).2 with h1|h1
  ·exact h.fsub x h1
  ·exact .inr (hown x h1)
end
def GivesT (C:Cx) (f:Nat) (al:List A) (s:Nat) (es:List (List D)) (as:List A):Prop:=
 ∀(w:World) (F:Nat→Prop) (vs:List Value),(∀b,F b→b<w.heap.size)→Inv C F w→All2 (CA w F) al vs→
  Calls C.P f vs.toArray w fun e w'=>BelowX ⟨w.heap.size,fun _=>False⟩ w w'∧
   ∃(F':Nat→Prop) (b c:Nat) (cs:Array Value) (t:TypeId) (ys:List Value),e= .returned (.tuple (.slice (some ⟨b,0,none⟩) es.length c::ys).toArray)∧(∀x,F x→F' x)∧(∀x,F' x→x<w'.heap.size∧(F x∨Own ⟨w.heap.size,fun _=>False⟩ x))∧
    Own ⟨w.heap.size,fun _=>False⟩ b∧LentOk C.P w' F' b c cs t s es∧All2 (CA w' F') as ys
def ownT (C:Cx) (st:St) (rs:List ResultVar):Option (Nat×List (List D)×List A):=
 match rs with
 | .tmp t::r::rr=>match nth .any st.tmps t with
  | .arr k=>match nth .none st.objs k with
   | .arr s es false=>match resD C st (r::rr)with
    |some as=>match flatAll as&&(notE2 es&&!as.isEmpty)with
     |true=>some (s,es,as)
     |false=>none
    |none=>none
   |_=>none
  |_=>none
 |_=>none
def runFt (tab:Nat→List A→Option (List A)) (C:Cx) (lim n f:Nat) (al:List A):Option (Nat×List (List D)×List A):=
 match C.P.funcs[f]? with
 |none=>none
 |some fn=>match fn.body with
  |none=>none
  |some c=>match runC (runF tab C lim n) C lim c (initSt fn.ntmps al)with
   |some (.normal,s)=>ownT C s fn.results.toList
   |some (.ret,s)=>ownT C s fn.results.toList
   |_=>none
def effOt (chk:List A→Bool) (mk:List A→Nat×List (List D)×List A) (dst:Option Nat) (vs:List V) (ob:List Obj):R:=
 match dst with
 |none=> .fail
 |some d=>match freeKey ob d,toAs ob vs with
  |true,some (al,us)=> .cond (chk al=true) (.tpo d (mk al).2.2) (us++[(d,.arr (mk al).1 (mk al).2.1 false)])
  |_,_=> .fail
def GivesD (C:Cx) (f s:Nat) (es:List (List D)) (post res:List A):Prop:=
 ∀(w:World) (F:Nat→Prop) (vs2:List Value) (g c0:Nat) (cs0:Array Value) (t0:TypeId),(∀b,F b→b<w.heap.size)→Inv C F w→All2 (CA w F) post vs2→LentOk C.P w F g c0 cs0 t0 s es→
  Calls C.P f (.slice (some ⟨g,0,none⟩) es.length c0::vs2).toArray w fun e w'=>BelowX ⟨w.heap.size,fun b=>b=g⟩ w w'∧∃v,e= .returned v∧CRes w' (After F ⟨w.heap.size,fun b=>b=g⟩ w') res v
def runFd (tab:Nat→List A→Option (List A)) (C:Cx) (lim n f s:Nat) (es:List (List D)) (post:List A):Option (List A):=
 match C.P.funcs[f]? with
 |none=>none
 |some fn=>match fn.body with
  |none=>none
  |some c=>match runC (runF tab C lim n) C lim c (initC fn.ntmps [] (some (s,es)) post)with
   |some (.normal,st)=>resD C st fn.results.toList
   |some (.ret,st)=>resD C st fn.results.toList
   |_=>none
def effCd (s:Nat) (chk:List (List D)→List A→Bool) (mk:List (List D)→List A→List A) (_:Option Nat) (vs:List V) (ob:List Obj):R:=
 match vs with
 | .arr k::r=>match nth .none ob k,toAs ob r with
  | .arr s0 es false,some (al,[])=>match Nat.beq s0 s&&notE2 es with
   |true=> .cond (chk es al=true) (resV (mk es al)) [(k,.dead)]
   |false=> .fail
  |_,_=> .fail
 |_=> .fail
section
variable {C:Cx}
theorem ownT_fin {fn:Func} {w:World} {B:Bd} {F:Nat→Prop} {s':St} {a':Act} {w':World} {s:Nat} {es:List (List D)} {as:List A} (hh:St.has C B F w s' a' w') (has:ownT C s' fn.results.toList=some (s,es,as)):
 a'.defers=[]∧∃v,(results fn a'.tmps).run C.P w'= .ok v w'∧BelowX B w w'∧∃(F':Nat→Prop) (b c:Nat) (cs:Array Value) (t:TypeId) (ys:List Value),Ending.returned v= .returned (.tuple (.slice (some ⟨b,0,none⟩) es.length c::ys).toArray)∧(∀x,F x→F' x)∧(∀x,F' x→x<w'.heap.size∧(F x∨Own B x))∧
  Own B b∧LentOk C.P w' F' b c cs t s es∧All2 (CA w' F') as ys:=by
 obtain⟨F',loc',h⟩:=hh;unfold ownT at has;split at has
 ·rename_i t r rr hrs;split at has
  ·rename_i k hk;split at has
   ·rename_i s0 es0 hob;split at has
    ·rename_i as0 hrd;split at has
     ·rename_i hck;simp only[Option.some.injEq,Prod.mk.injEq]at has;obtain⟨rfl,rfl,rfl⟩:=has;simp only[Bool.and_eq_true,Bool.not_eq_true',List.isEmpty_eq_false_iff]at hck;obtain⟨us,h1,h2⟩:=resD_ok h hrd;have h3:All2 (CA w' F') as0 us:=h2.mono_mem fun r hr v hv=>flat_CA hv (flatAll_ok hck.1 r hr)
      have hx:=(slot_ok h t).1;simp only[Act.eval]at hx;rw[hk]at hx;have hco:=h.objs k;rw[hob]at hco;obtain⟨hroom,hs0,hlen,hco⟩:=hco;rcases hco with⟨_,h5⟩|⟨b',c',cs,t',h4,h5,h6,h7,h8,h9,h10,h11⟩
      ·rw[h5]at hck;simp[notE2]at hck
      rcases hx _ _ _ hob with⟨b,c,hl,hv⟩|⟨hl,_,_⟩
      ·rw[h4]at hl;simp only[Option.some.injEq,Prod.mk.injEq]at hl;obtain⟨rfl,rfl⟩:=hl;have hfr:=h.fresh _ _ _ h4;have hl2:0<us.length:=by rw[←h2.length];exact List.length_pos_iff.2 hck.2.2
       refine⟨h.defers,.tuple (.slice (some ⟨b',0,none⟩) es0.length c'::us).toArray,?_,h.below,F',b',c',cs,t',us,rfl,h.fsup,fun x hx=>⟨h.bound x hx,h.fsub x hx⟩,hfr.1,⟨by simpa using h5,hfr.2,h6,h7,h8,hroom,hs0,hlen,by rw[←h.prog];exact h10,h9⟩,h3⟩;have h6:((fn.results.toList).mapM (getR a'.tmps)).run C.P w'= .ok (.slice (some ⟨b',0,none⟩) es0.length c'::us) w':=by
        rw[hrs,List.mapM_cons];have h7:(getR a'.tmps (.tmp t)).run C.P w'= .ok (.slice (some ⟨b',0,none⟩) es0.length c') w':=by show(pure (a'.tmps.getD t undef):Sem Value).run C.P w'=_;rw[hv];rfl
        simp only[Sem.run_bind,h7,Result.andThen,h1];rfl
       have h8:(results fn a'.tmps).run C.P w'= .ok (if h:(Value.slice (some ⟨b',0,none⟩) es0.length c'::us).toArray.size=1 then(Value.slice (some ⟨b',0,none⟩) es0.length c'::us).toArray[0]else .tuple (Value.slice (some ⟨b',0,none⟩) es0.length c'::us).toArray) w':=by
        unfold results;rw[Array.mapM_eq_mapM_toList];simp only[Sem.run_bind,map_eq_pure_bind];have h5:∀g:ResultVar→Sem Value,g=getR a'.tmps→(fn.results.toList.mapM g).run C.P w'= .ok (.slice (some ⟨b',0,none⟩) es0.length c'::us) w':=fun g hg=>by rw[hg];exact h6
        rw[h5 _ (by funext r;cases r<;>rfl)];rfl
       rw[h8,dif_neg (by simp only[List.size_toArray,List.length_cons];omega)]
      ·rw[h4]at hl;simp at hl
     ·simp at has
    ·simp at has
   ·simp at has
  ·simp at has
 ·simp at has
theorem runFt_ok [EffOk C] {tab:Nat→List A→Option (List A)} {lim:Nat} (hm:C.P.follows .mixedOrders=true) (htab:∀f as rs,tab f as=some rs→Gives C f as rs) {n f s:Nat} {al:List A} {es:List (List D)} {as:List A}
 (h:runFt tab C lim n f al=some (s,es,as)):GivesT C f al s es as:=by
 unfold runFt at h;split at h
 ·simp at h
 rename_i fn hf;split at h
 ·simp at h
 rename_i c hc;have key:∀(x:X) (s':St),(x= .normal∨x= .ret)→runC (runF tab C lim n) C lim c (initSt fn.ntmps al)=some (x,s')→ownT C s' fn.results.toList=some (s,es,as)→GivesT C f al s es as:=by
  intro x s' hx hr hres w F vs hb hinv h1;refine calls_of_wp hf hc (Code.wp_mono (fun e a' w' hp=>?_) (runC_ok hm (fun f as rs h=>runF_ok hm htab n f as rs h) lim c _ s' x _ w hr (init_has hb hinv h1)));obtain⟨he,hh⟩:=hp;have fin:=ownT_fin (fn:=fn) hh hres;rcases hx with rfl|rfl
  ·have he:e= .normal:=he;subst he;exact fin
  ·have he:e= .ret:=he;subst he;exact fin
 split at h
 ·rename_i s' hr;exact key _ _ (.inl rfl) hr h
 ·rename_i s' hr;exact key _ _ (.inr rfl) hr h
 ·simp at h
theorem res_finD {fn:Func} {w:World} {B:Bd} {F:Nat→Prop} {s':St} {a':Act} {w':World} {res:List A} (hh:St.has C B F w s' a' w') (has:resD C s' fn.results.toList=some res):
 a'.defers=[]∧∃v,(results fn a'.tmps).run C.P w'= .ok v w'∧BelowX B w w'∧∃u,Ending.returned v= .returned u∧CRes w' (After F B w') res u:=by
 obtain⟨F',loc',hcc⟩:=hh;obtain⟨us,h1,h2⟩:=resD_ok hcc has;refine⟨hcc.defers,if h:us.toArray.size=1 then us.toArray[0]else .tuple us.toArray,?_,hcc.below,_,rfl,?_⟩
 ·unfold results;rw[Array.mapM_eq_mapM_toList];simp only[Sem.run_bind,map_eq_pure_bind];have h5:∀g:ResultVar→Sem Value,g=getR a'.tmps→(fn.results.toList.mapM g).run C.P w'= .ok us w':=fun g hg=>by rw[hg];exact h1
  rw[h5 _ (by funext r;cases r<;>rfl)];rfl
 ·match res,us,h2 with
  |[a],[u],h2=>exact h2.1
  |[],[],h2=>exact⟨#[],rfl,trivial⟩
  |a::b::r,u::v::s,h2=>exact⟨(u::v::s).toArray,by simp,h2⟩
theorem runFd_ok [EffOk C] {tab:Nat→List A→Option (List A)} {lim:Nat} (hm:C.P.follows .mixedOrders=true) (htab:∀f as rs,tab f as=some rs→Gives C f as rs) {n f s:Nat} {es:List (List D)} {post res:List A}
 (h:runFd tab C lim n f s es post=some res):GivesD C f s es post res:=by
 unfold runFd at h;split at h
 ·simp at h
 rename_i fn hf;split at h
 ·simp at h
 rename_i c hc;have key:∀(x:X) (s':St),(x= .normal∨x= .ret)→runC (runF tab C lim n) C lim c (initC fn.ntmps [] (some (s,es)) post)=some (x,s')→resD C s' fn.results.toList=some res→GivesD C f s es post res:=by
  intro x s' hx hr hres w F vs2 g c0 cs0 t0 hb hinv h2 hL;refine calls_of_wp hf hc (Code.wp_mono (fun e a' w' hp=>?_) (runC_ok hm (fun f as rs h=>runF_ok hm htab n f as rs h) lim c _ s' x _ w hr (init_hasC (vs1:=[]) hb hinv trivial h2 (fun s0 es0 he=>by simp only[Option.some.injEq,Prod.mk.injEq]at he;obtain⟨rfl,rfl⟩:=he;exact hL))));obtain⟨he,hh⟩:=hp;have fin:=res_finD (fn:=fn) hh hres;rcases hx with rfl|rfl
  ·have he:e= .normal:=he;subst he;exact fin
  ·have he:e= .ret:=he;subst he;exact fin
 split at h
 ·rename_i s' hr;exact key _ _ (.inl rfl) hr h
 ·rename_i s' hr;exact key _ _ (.inr rfl) hr h
 ·simp at h
theorem effAt_ot {f:Nat} {fn:Func} {chk:List A→Bool} {mk:List A→Nat×List (List D)×List A} (hf:C.P.funcs[f]? =some fn) (hb:fn.body≠none) (hn:fn.name≠ "runtime.NumGoroutine") (hmk:∀al,chk al=true→GivesT C f al (mk al).1 (mk al).2.1 (mk al).2.2):EffAt C f (effOt chk mk):=by
 refine⟨fun{B F0 w0 F loc st a w dst args ts ty pos after g} hc=>?_,fun dst vs ob ob' hh hd=>?_,fun dst vs ob hv _=>?_⟩
 ·unfold effOt;split
  ·trivial
  ·rename_i d;split
   ·rename_i al us hd hto;obtain⟨hfz,hall⟩:=toAs_ok hc hto (all2_ev hc args.toList);obtain⟨F',hc',hF',hb'⟩:=hc.freezes hfz st.dirty;have hargs:=hall F' hF' hb';intro hck next Q hnx
    have hG:=hmk al hck;have hcall:=hG w F' (args.toList.map a.eval) hc'.bound hc'.inv hargs;have hargs':(args.toList.map a.eval).toArray=args.map a.eval:=by apply Array.ext';simp
    rw[hargs']at hcall;refine wp_entered hf hb hn hcall fun e w' he=>?_
    obtain⟨hbel,F2,b,c,cs,t,ys,rfl,h1,h2,h3,h4,h5⟩:=he;refine⟨_,rfl,hnx _ _ ?_⟩;have h6:=hc'.adoptG (dst:=some d) (d:=d) (dead:=[]) (rv:= .tpo d (mk al).2.2) (rx:= .tuple (.slice (some ⟨b,0,none⟩) (mk al).2.1.length c::ys).toArray) (freeKey_upds hfz hd) (fun p hp=>by simp at hp) (fun x hx=>hx.elim) hbel h1 h2 h3 h4
     (fun loc objs q1 q2=>⟨⟨_,_,rfl,fun s' es' fz' hc=>by
      rw[q1]at hc;simp only[Obj.arr.injEq]at hc;obtain⟨rfl,rfl,rfl⟩:=hc;exact⟨b,c,q2,rfl⟩,h5⟩,by
      show nth .none objs d≠ .none;rw[q1];simp⟩)
    refine has_same h6 rfl ?_;show upds (upds st.objs us) ([]++[(d,.arr (mk al).1 (mk al).2.1 false)])=upds st.objs (us++[(d,.arr (mk al).1 (mk al).2.1 false)]);rw[upds_append us];rfl
   ·trivial
 ·unfold effOt;cases dst with
  |none=>rfl
  |some d=>
   have h1:toAs ob vs=toAs ob' vs:=toAs_ag (c:=2) fun v hv k hk=> .inl (hh k (by
    rw[mem_deepB];exact⟨k,List.mem_flatMap.2 ⟨v,hv,hk⟩,.inl rfl⟩))
   simp only[h1];rw[hd d (.inl rfl)]
 ·unfold effOt;split
  ·trivial
  ·rename_i d;split
   ·rename_i al us hd hto;have hfz:=toAs_fz hto;refine⟨fun p hp=>?_,fun k hk=>?_⟩
    ·rcases List.mem_append.1 hp with hp|hp
     ·obtain⟨⟨v,hv1,hv2⟩,s',es',fz,h1,h2⟩:=hfz p hp;refine⟨.inr ⟨?_,by rw[h1];simp⟩,by rw[h2];simp,fun u hu=>by rw[h2]at hu;simp[objVs]at hu⟩;rw[mem_deepB];exact⟨p.1,List.mem_flatMap.2 ⟨v,hv1,hv2⟩,.inl rfl⟩
     ·simp only[List.mem_singleton]at hp;subst hp;exact⟨.inl ⟨.inl rfl,hd⟩,by simp,fun u hu=>by simp[objVs]at hu⟩
    ·simp only[keysV,List.mem_singleton]at hk;subst hk;exact .inr ⟨hd,_,List.mem_append_right _ (List.mem_singleton.2 rfl)⟩
   ·trivial
theorem effAt_cd {f s:Nat} {fn:Func} {chk:List (List D)→List A→Bool} {mk:List (List D)→List A→List A} (hf:C.P.funcs[f]? =some fn) (hb:fn.body≠none) (hn:fn.name≠ "runtime.NumGoroutine")
 (hmk:∀es al,chk es al=true→GivesD C f s es al (mk es al)):EffAt C f (effCd s chk mk):=by
 refine⟨fun{B F0 w0 F loc st a w dst args ts ty pos after g} hc=>?_,fun dst vs ob ob' hh hd=>?_,fun dst vs ob hv _=>?_⟩
 ·unfold effCd;split
  ·rename_i k r hvs;split
   ·rename_i s0 es al hk hto;split
    ·rename_i hsk;simp only[Bool.and_eq_true]at hsk;obtain rfl:=Nat.eq_of_beq_eq_true hsk.1;intro hck next Q hnx
     have hG:=hmk es al hck;obtain⟨x0,xs,hxs⟩:∃x0 xs,args.toList=x0::xs:=by
      cases h:args.toList with
      |nil=>rw[h]at hvs;simp at hvs
      |cons x0 xs=>exact⟨x0,xs,rfl⟩
     rw[hxs]at hvs;simp only[List.map_cons,List.cons.injEq]at hvs;obtain⟨hx0,rfl⟩:=hvs;obtain⟨hfz,hall⟩:=toAs_ok hc hto (all2_ev hc xs);have hargs:=hall F (fun _ h=>h) (fun p hp=>by simp at hp);obtain⟨gb,c0,cs0,t0,q1,q2,hL⟩:=own_arr hc hx0 hk (fun e=>by rw[e]at hsk;simp[notE2]at hsk);have hcall:=hG w F (xs.map a.eval) gb c0 cs0 t0 hc.bound hc.inv hargs hL;have hargs':(Value.slice (some ⟨gb,0,none⟩) es.length c0::xs.map a.eval).toArray=args.map a.eval:=by apply Array.ext';rw[Array.toList_map,hxs];simp[q2]
     rw[hargs']at hcall;refine wp_entered hf hb hn hcall fun e w' he=>?_
     obtain⟨hbel,v,rfl,hres⟩:=he;refine⟨_,rfl,hnx _ _ ?_⟩;exact hc.goneD (dead:=[(k,.dead)]) (rv:=resV (mk es al)) (fun p hp=>by
      simp only[List.mem_singleton]at hp;subst hp;exact⟨rfl,lt_of_nth (by rw[hk];simp),by rw[hk];simp⟩) (fun x hx=>by
      have hx:x=gb:=hx;rw[hx];exact⟨hL.nF,(k,.dead),by simp,c0,q1⟩) hbel (fun x hx=> .inl hx) (fun x hx=>by
      rcases hx with hx|hx
      ·exact⟨Nat.lt_of_lt_of_le (hc.bound x hx) hbel.size,.inl hx⟩
      ·exact⟨hx.2,.inr hx.1⟩) (fun loc objs=>res_CV hres)
    ·trivial
   ·trivial
  ·trivial
 ·unfold effCd;cases vs with
  |nil=>rfl
  |cons v r=>
   cases v with
   |arr k=>
    have h0:nth .none ob k=nth .none ob' k:=hh k (by
     rw[mem_deepB];exact⟨k,List.mem_flatMap.2 ⟨.arr k,by simp,by simp[keysV]⟩,.inl rfl⟩)
    have h1:toAs ob r=toAs ob' r:=toAs_ag (c:=2) fun v hv k hk=> .inl (hh k (by
     rw[mem_deepB];exact⟨k,List.mem_flatMap.2 ⟨v,by simp[hv],hk⟩,.inl rfl⟩))
    simp only[h0,h1]
   |_=>rfl
 ·unfold effCd;split
  ·rename_i k r;split
   ·rename_i s0 es al hk hto;split
    ·refine⟨fun p hp=>?_,fun j hj=>by rw[keys_resV]at hj;simp at hj⟩;simp only[List.mem_singleton]at hp;subst hp;refine⟨.inr ⟨?_,by rw[hk];simp⟩,by simp,fun u hu=>by simp[objVs]at hu⟩;rw[mem_deepB];exact⟨k,List.mem_flatMap.2 ⟨.arr k,by simp,by simp[keysV]⟩,.inl rfl⟩
    ·trivial
   ·trivial
  ·trivial
end
theorem givesT_cx {C C':Cx} (hP:C'.P=C.P) (hG:C'.G=C.G) {f s:Nat} {al as:List A} {es:List (List D)} (h:GivesT C f al s es as):GivesT C' f al s es as:=by
 intro w F vs hb hi h2;rw[hP];exact h w F vs hb (inv_cx hG.symm hi) h2
theorem givesD_cx {C C':Cx} (hP:C'.P=C.P) (hG:C'.G=C.G) {f s:Nat} {es:List (List D)} {post res:List A} (h:GivesD C f s es post res):GivesD C' f s es post res:=by
 intro w F vs2 g c0 cs0 t0 hb hi h2 hl;rw[hP]at hl ⊢;exact h w F vs2 g c0 cs0 t0 hb (inv_cx hG.symm hi) h2 hl
end Eng
end

section
namespace Eng
open Go Go.RowKit
variable [Env]
def isAt:V→Bool
 | .arrAt .. =>true
 | .boxAt .. =>true
 |_=>false
section
variable {g c t:Nat}
def S0 (g c t:Nat) (a b:V):Prop:=(a=b∧isAt a=false)∨∃k,(a= .arrAt k 0 0 0∧b= .arrAt k g c t)∨(a= .boxAt k 0∧b= .boxAt k g)
structure SmE (g c t:Nat) (st st':St):Prop where
 tm:∃a b r,st.tmps=a::r∧st'.tmps=b::r∧S0 g c t a b
 ob:st'.objs=st.objs
 dt:st'.dirty=st.dirty
omit [Env] in
theorem SmE.nth {st st':St} (h:SmE g c t st st') (i:Nat):nth .any st'.tmps i=nth .any st.tmps i∨S0 g c t (nth .any st.tmps i) (nth .any st'.tmps i):=by
 obtain⟨a,b,r,e1,e2,h0⟩:=h.tm;rw[e1,e2];cases i with
 |zero=>exact .inr h0
 |succ i=>exact .inl rfl
omit [Env] in
theorem S0.un {a b:V} (h:S0 g c t a b):un b=un a:=by
 rcases h with⟨rfl,_⟩|⟨k,⟨rfl,rfl⟩|⟨rfl,rfl⟩⟩<;>rfl
omit [Env] in
theorem SmE.ev {st st':St} (h:SmE g c t st st'):ev st'=ev st:=by
 funext x;cases x with
 |tmp i=>
  show Eng.un _=Eng.un _;rcases h.nth i with e|e
  ·rw[e]
  ·exact e.un
 |_=>rfl
omit [Env] in
theorem SmE.step {st st':St} {K:Nat→List A→Option (List A)} {C:Cx} {ops:Array Oper} {o:Oper} (h:SmE g c t st st'):stepB K C ops o st'=stepB K C ops o st:=by
 unfold stepB;rw[h.ev,h.ob];split
 ·rfl
 ·split
  ·rfl
  ·rename_i i _;rcases h.nth i with e|⟨e,_⟩|⟨k,⟨e1,e2⟩|⟨e1,e2⟩⟩
   ·rw[e]
   ·rw[e]
   ·rw[e1,e2]
   ·rw[e1,e2]
omit [Env] in
theorem SmE.put {st st':St} (h:SmE g c t st st') {d:Option Nat} (hd:d≠some 0) (v:V) (up:List (Nat×Obj)):SmE g c t (st.put d v up) (st'.put d v up):=by
 obtain⟨a,b,r,e1,e2,h0⟩:=h.tm;refine⟨?_,?_,?_⟩
 ·unfold St.put;simp only;cases d with
  |none=>exact⟨a,b,r,e1,e2,h0⟩
  |some i=>
   cases i with
   |zero=>exact absurd rfl hd
   |succ i=>exact⟨a,b,upd r i v,by rw[e1];rfl,by rw[e2];rfl,h0⟩
 ·unfold St.put;simp only;rw[h.ob]
 ·unfold St.put;simp only;rw[h.dt]
def OS {α:Type} (g c t:Nat):Option (α×St)→Option (α×St)→Prop
 |none,none=>True
 |some (x,s),some (y,s')=>x=y∧SmE g c t s s'
 |_,_=>False
def OS1 (g c t:Nat):Option St→Option St→Prop
 |none,none=>True
 |some s,some s'=>SmE g c t s s'
 |_,_=>False
omit [Env] in
theorem runL_sm {K:Nat→List A→Option (List A)} {C:Cx} {ops:Array Oper}:∀{l:List Oper} {st st':St},(∀o∈l,o.dst≠some 0)→SmE g c t st st'→OS1 g c t (runL K C ops l st) (runL K C ops l st')
 |[],_,_,_,h=>h
 |o::l,st,st',hl,h=>by
  simp only[runL];rw[h.step];cases stepB K C ops o st with
  |none=>trivial
  |some x=>exact runL_sm (fun o ho=>hl o (by simp[ho])) (h.put (hl o (by simp)) x.1 x.2)
omit [Env] in
theorem runLR_sm {K:Nat→List A→Option (List A)} {C:Cx} {ops:Array Oper}:∀{l:List Oper} {st st':St} {rs:List Rec},(∀o∈l,o.dst≠some 0)→SmE g c t st st'→
 (runLR K C ops l st rs=none∧runLR K C ops l st' rs=none)∨∃s s' r,runLR K C ops l st rs=some (s,r)∧runLR K C ops l st' rs=some (s',r)∧SmE g c t s s'
 |[],st,st',rs,_,h=> .inr ⟨st,st',rs,rfl,rfl,h⟩
 |o::l,st,st',rs,hl,h=>by
  simp only[runLR];rw[h.step,h.ev,h.ob];cases stepB K C ops o st with
  |none=>exact .inl ⟨rfl,rfl⟩
  |some x=>exact runLR_sm (fun o ho=>hl o (by simp[ho])) (h.put (hl o (by simp)) x.1 x.2)
omit [Env] in
theorem runR_sm {K:Nat→List A→Option (List A)} {C:Cx} {ops:Array Oper} {d:Bool} {st st':St} (hl:∀o∈ops.toList,o.dst≠some 0) (h:SmE g c t st st'):OS1 g c t (runR K C ops d st) (runR K C ops d st'):=by
 unfold runR;cases d with
 |false=>exact runL_sm hl h
 |true=>
  simp only;cases regionOk C ops.toList with
  |true=>exact runL_sm hl h
  |false=>
   simp only;rcases runLR_sm (K:=K) (C:=C) (ops:=ops) (rs:=[]) hl h with⟨e1,e2⟩|⟨s,s',r,e1,e2,h2⟩
   ·rw[e1,e2];trivial
   ·rw[e1,e2];simp only;cases regionOkR C ops.toList r with
    |true=>exact h2
    |false=>trivial
omit [Env] in
theorem SmE.map {st st':St} {f:V→V} {ob:List Obj} {dt:List Nat} (h:SmE g c t st st') (hf:∀a b,S0 g c t a b→S0 g c t (f a) (f b)):SmE g c t ⟨st.tmps.map f,ob,dt⟩ ⟨st'.tmps.map f,ob,dt⟩:=by
 obtain⟨a,b,r,e1,e2,h0⟩:=h.tm;exact⟨⟨f a,f b,r.map f,by rw[e1];rfl,by rw[e2];rfl,hf _ _ h0⟩,rfl,rfl⟩
omit [Env] in
theorem S0.ren {d m:Nat} {a b:V} (h:S0 g c t a b):S0 g c t (renV d m a) (renV d m b):=by
 rcases h with⟨rfl,h⟩|⟨k,⟨rfl,rfl⟩|⟨rfl,rfl⟩⟩
 ·refine .inl ⟨rfl,?_⟩;cases a<;>first|rfl|simp[isAt]at h
 ·exact .inl ⟨rfl,rfl⟩
 ·exact .inr ⟨_,.inr ⟨rfl,rfl⟩⟩
omit [Env] in
theorem S0.frz {k:Nat} {ds:List D} {a b:V} (h:S0 g c t a b):S0 g c t (frzV k ds a) (frzV k ds b):=by
 rcases h with⟨rfl,h⟩|⟨j,⟨rfl,rfl⟩|⟨rfl,rfl⟩⟩
 ·refine .inl ⟨rfl,?_⟩;cases a<;>first|(simp[isAt]at h;done)|skip
  all_goals first|rfl|(simp only[frzV];split<;>rfl)
 ·exact .inr ⟨_,.inl ⟨rfl,rfl⟩⟩
 ·simp only[frzV];cases Nat.beq j k with
  |true=>exact .inl ⟨rfl,rfl⟩
  |false=>exact .inr ⟨_,.inr ⟨rfl,rfl⟩⟩
omit [Env] in
theorem SmE.evict1 {d:Nat} {st st':St} (h:SmE g c t st st'):SmE g c t (evict1 d st) (evict1 d st'):=by
 unfold Eng.evict1;rw[h.ob];split
 ·exact h
 ·split
  ·rw[renVs_eq,renVs_eq];exact h.map fun _ _ h=>h.ren
  ·exact h
omit [Env] in
theorem SmE.evict:∀{l:List Nat} {st st':St},SmE g c t st st'→SmE g c t (evict l st) (evict l st')
 |[],_,_,h=>h
 |d::l,st,st',h=>SmE.evict (l:=l) (st:=Eng.evict1 d st) (st':=Eng.evict1 d st') (SmE.evict1 h)
omit [Env] in
theorem SmE.frz1 {k:Nat} {st st':St} (h:SmE g c t st st'):SmE g c t (frz1 k st) (frz1 k st'):=by
 unfold Eng.frz1;rw[h.ob];split
 ·split
  ·rw[frzVs_eq,frzVs_eq];exact h.map fun _ _ h=>h.frz
  ·exact h
 ·exact h
omit [Env] in
theorem SmE.settle1 {k i:Nat} {st st':St} (h:SmE g c t st st'):SmE g c t (settle1 k i st) (settle1 k i st'):=by
 unfold Eng.settle1;rw[h.ob,h.dt];split
 ·split
  ·split
   ·exact⟨h.tm,rfl,rfl⟩
   ·exact h
  ·exact h
 ·exact h
omit [Env] in
theorem SmE.settleN {k:Nat}:∀{n:Nat} {st st':St},SmE g c t st st'→SmE g c t (settleN k n st) (settleN k n st')
 |0,_,_,h=>h
 |n+1,st,st',h=>SmE.settleN (n:=n) (st:=Eng.settle1 k n st) (st':=Eng.settle1 k n st') h.settle1
omit [Env] in
theorem SmE.settle {k:Nat} {st st':St} (h:SmE g c t st st'):SmE g c t (settle k st) (settle k st'):=by
 unfold Eng.settle;rw[h.ob];split
 ·split
  ·exact h.settleN
  ·exact h
 ·exact h
omit [Env] in
theorem SmE.settleM:∀{l:List Operand} {st st':St},SmE g c t st st'→SmE g c t (settleM l st) (settleM l st')
 |[],_,_,h=>h
 |x::l,st,st',h=>by
  simp only[Eng.settleM];rw[h.ev];split
  ·exact SmE.settleM h.frz1
  ·exact SmE.settleM h
omit [Env] in
theorem SmE.settleO {C:Cx}:∀{l:List Oper} {st st':St},SmE g c t st st'→SmE g c t (settleO C l st) (settleO C l st')
 |[],_,_,h=>h
 |o::l,st,st',h=>by
  simp only[Eng.settleO];split
  ·split
   ·rw[h.ev];split
    ·exact SmE.settleO h.settle
    ·exact SmE.settleO h
   ·exact SmE.settleO h
  ·exact SmE.settleO h.settleM
  ·exact SmE.settleO h
omit [Env] in
theorem dsts_mem {o:Oper}:∀{l:List Oper},o∈l→∀i,o.dst=some i→i∈dsts l
 |p::l,h,i,hi=>by
  simp only[dsts];rcases List.mem_cons.1 h with rfl|h
  ·rw[hi];simp
  ·have:=dsts_mem h i hi;split
   ·exact List.mem_cons_of_mem _ this
   ·exact this
omit [Env] in
theorem runC_sm {K:Nat→List A→Option (List A)} {C:Cx}:∀{n:Nat} {b:Code} {st st':St},0∉mods b→SmE g c t st st'→OS g c t (runC K C n b st) (runC K C n b st')
 |0,_,_,_,_,_=>trivial
 |n+1,b,st,st',hb,h=>by
  cases b with
  |skip=>exact⟨rfl,h⟩
  |region id ops d=>
   simp only[runC];have:=runR_sm (K:=K) (C:=C) (ops:=ops) (d:=d) (fun o ho e=>hb (dsts_mem ho 0 e)) (SmE.settleO (C:=C) (l:=ops.toList) (SmE.evict (l:=dstsW C ops.toList) h));revert this;cases runR K C ops d (Eng.settleO C ops.toList (Eng.evict (dstsW C ops.toList) st))<;>cases runR K C ops d (Eng.settleO C ops.toList (Eng.evict (dstsW C ops.toList) st'))<;>intro this<;>first|trivial|exact this.elim|skip
   have this:SmE g c t _ _:=this;exact⟨rfl,this.tm,this.ob,rfl⟩
  |seq a b=>
   simp only[mods,List.mem_append,not_or]at hb;simp only[runC];have:=runC_sm (K:=K) (C:=C) (n:=n) hb.1 h;revert this;cases runC K C n a st with
   |none=>cases runC K C n a st' with
    |none=>exact fun h=>h
    |some x=>exact fun h=>h.elim
   |some x=>cases runC K C n a st' with
    |none=>exact fun h=>h.elim
    |some y=>
     obtain⟨x,s⟩:=x;obtain⟨y,s'⟩:=y;rintro⟨rfl,h2⟩;cases x with
     |normal=>exact runC_sm hb.2 h2
     |_=>exact⟨rfl,h2⟩
  |cond x a b=>
   simp only[mods,List.mem_append,not_or]at hb;simp only[runC];rw[h.ev];split
   ·exact runC_sm hb.1 h
   ·exact runC_sm hb.2 h
   ·trivial
  |block id a=>
   simp only[mods]at hb;simp only[runC];have:=runC_sm (K:=K) (C:=C) (n:=n) hb h;revert this;cases runC K C n a st with
   |none=>cases runC K C n a st' with
    |none=>exact fun h=>h
    |some x=>exact fun h=>h.elim
   |some x=>cases runC K C n a st' with
    |none=>exact fun h=>h.elim
    |some y=>
     obtain⟨x,s⟩:=x;obtain⟨y,s'⟩:=y;rintro⟨rfl,h2⟩;cases x with
     |exit i=>simp only;split<;>exact⟨rfl,h2⟩
     |_=>exact⟨rfl,h2⟩
  |exit id=>exact⟨rfl,h⟩
  |ret=>exact⟨rfl,h⟩
  |loop a=>
   have hb1:0∉mods a:=by simpa only[mods]using hb
   simp only[runC];have:=runC_sm (K:=K) (C:=C) (n:=n) hb1 h;revert this;cases runC K C n a st with
   |none=>cases runC K C n a st' with
    |none=>exact fun h=>h
    |some x=>exact fun h=>h.elim
   |some x=>cases runC K C n a st' with
    |none=>exact fun h=>h.elim
    |some y=>
     obtain⟨x,s⟩:=x;obtain⟨y,s'⟩:=y;rintro⟨rfl,h2⟩;cases x with
     |normal=>exact runC_sm hb h2
     |_=>exact⟨rfl,h2⟩
  |_=>trivial
omit [Env] in
theorem SmE.resD {C:Cx} {st st':St} (h:SmE g c t st st'):∀{rs:List ResultVar},resD C st' rs=resD C st rs
 |[]=>rfl
 | .tmp i::r=>by
  simp only[Eng.resD];rw[SmE.resD h,h.ob];rcases h.nth i with e|⟨e,_⟩|⟨k,⟨e1,e2⟩|⟨e1,e2⟩⟩
  ·rw[e]
  ·rw[e]
  ·rw[e1,e2];rfl
  ·rw[e1,e2];rfl
 | .cell i t'::r=>by
  simp only[Eng.resD];rw[SmE.resD h,h.ob];rcases h.nth i with e|⟨e,_⟩|⟨k,⟨e1,e2⟩|⟨e1,e2⟩⟩
  ·rw[e]
  ·rw[e]
  ·rw[e1,e2]
  ·rw[e1,e2]
end
omit [Env] in
theorem memN_no {n:Nat} {l:List Nat} (h:memN n l=false):n∉l:=fun e=>by rw[memN_iff.2 e]at h;cases h
def modsF (C:Cx) (f:Nat):List Nat:=
 match C.P.funcs[f]? with
 |some fn=>match fn.body with
  |some b=>mods b
  |none=>[]
 |none=>[]
def okI (C:Cx) (f s:Nat) (es:List (List D)) (o:Option (List A×List (List D)×Nat×Nat×Nat×Nat)):Bool:=
 match o with
 |some (as,es',s',0,0,0)=>flatAll as&&(Nat.beq es'.length es.length&&(Nat.beq s' s&&(!memN 0 (modsF C f))))
 |_=>false
omit [Env] in
theorem endB_sm {C:Cx} {fn:Func} {st st':St} {g c t s:Nat} {as:List A} {es:List (List D)} (h:SmE g c t st st') (he:endB C fn st=some (as,es,s,0,0,0)):endB C fn st'=some (as,es,s,g,c,t):=by
 unfold endB at he ⊢;rw[h.resD,h.ob];split at he
 ·simp at he
 rename_i as' has;obtain⟨a,b,r,e1,e2,h0⟩:=h.tm;have n1:nth .any st.tmps 0=a:=by rw[e1];rfl
 have n2:nth .any st'.tmps 0=b:=by rw[e2];rfl
 rw[n1]at he;rw[n2];rcases h0 with⟨rfl,ha⟩|⟨k,⟨rfl,rfl⟩|⟨rfl,rfl⟩⟩
 ·split at he
  ·simp[isAt]at ha
  ·simp at he
 ·simp only at he ⊢;split at he
  ·rename_i q1 q2;simp only[Option.some.injEq,Prod.mk.injEq]at he;obtain⟨rfl,rfl,rfl,_⟩:=he;rfl
  ·simp at he
 ·simp at he
omit [Env] in
theorem runFi_any {tab:Nat→List A→Option (List A)} {C:Cx} {lim n f s s':Nat} {es es':List (List D)} {post as:List A} (hm:memN 0 (modsF C f)=false) (h:runFi tab C lim n f s es post 0 0 0=some (as,es',s',0,0,0)) (g c t:Nat):runFi tab C lim n f s es post g c t=some (as,es',s',g,c,t):=by
 unfold runFi at h ⊢;unfold modsF at hm;split at h
 ·simp at h
 rename_i fn hf;rw[hf]at hm;simp only at hm;split at h
 ·simp at h
 rename_i b hbd;rw[hbd]at hm;simp only at hm;have h0:SmE g c t (initI fn.ntmps s es post 0 0 0) (initI fn.ntmps s es post g c t):=⟨⟨_,_,_,rfl,rfl,.inr ⟨_,.inl ⟨rfl,rfl⟩⟩⟩,rfl,rfl⟩;have:=runC_sm (K:=runF tab C lim n) (C:=C) (n:=lim) (b:=b) (memN_no hm) h0;revert this h;cases runC (runF tab C lim n) C lim b (initI fn.ntmps s es post 0 0 0)with
 |none=>intro h;simp at h
 |some x=>
  obtain⟨x,s1⟩:=x;cases runC (runF tab C lim n) C lim b (initI fn.ntmps s es post g c t)with
  |none=>intro _ h;exact h.elim
  |some y=>
   obtain⟨y,s2⟩:=y;intro h;rintro⟨rfl,h2⟩;cases x with
   |normal=>exact endB_sm h2 h
   |ret=>exact endB_sm h2 h
   |exit i=>simp at h
noncomputable def effRI (tab:Nat→List A→Option (List A)) (C:Cx) (f s:Nat):Option Nat→List V→List Obj→R:=
 effIn s (fun es al=>match es with|[]=>false|_=>okI C f s es (runFi tab C 1000 40 f s es al 0 0 0)) (fun es al=>match runFi tab C 1000 40 f s es al 0 0 0 with|some x=>x.2.1|none=>[])
  (fun es al=>match runFi tab C 1000 40 f s es al 0 0 0 with|some x=>x.1|none=>[])
theorem effAt_RI {C C':Cx} [EffOk C] {tab:Nat→List A→Option (List A)} (hm:C.P.follows .mixedOrders=true) (htab:∀f as rs,tab f as=some rs→Gives C f as rs) (hP:C'.P=C.P) (hG:C'.G=C.G) {f s:Nat} {fn:Func} (hf:C'.P.funcs[f]? =some fn) (hb:fn.body≠none) (hn:fn.name≠ "runtime.NumGoroutine"):EffAt C' f (effRI tab C f s):=by
 refine effAt_in hf hb hn fun es al hc=>?_
 cases hes:es with
 |nil=>rw[hes]at hc;cases hc
 |cons e r=>
  rw[hes]at hc;simp only at hc;refine⟨by simp,givesI_cx hP hG ?_⟩;unfold okI at hc;split at hc
  ·rename_i as es' s' hr;simp only[Bool.and_eq_true,Bool.not_eq_true']at hc;obtain⟨h1,h2,h3,h4⟩:=hc;obtain rfl:=Nat.eq_of_beq_eq_true h3;rw[hr];exact runFi_ok hm htab h1 h2 fun g c t=>runFi_any h4 hr g c t
  ·cases hc
end Eng
end

section
namespace Eng
open Go Go.RowKit
variable [Env]
structure LentP (w:World) (F:Nat→Prop) (g:Nat) (cs:Array Value) (ds:List D) (t:TypeId):Prop where
 nF:¬F g
 lt:g<w.heap.size
 blk:w.heap[g]? =some (.cells cs t (0,0))
 cd:All2 (CD w F) ds cs.toList
def OutP (w:World) (F:Nat→Prop) (g:Nat) (res:List A) (ds':List D) (v:Value) (w':World):Prop:=
 BelowX ⟨w.heap.size,fun b=>b=g⟩ w w'∧∃(F':Nat→Prop) (cs:Array Value) (t:TypeId),(∀x,F x→F' x)∧(∀x,F' x→x<w'.heap.size∧(F x∨Own ⟨w.heap.size,fun b=>b=g⟩ x))∧CRes w' F' res v∧LentP w' F' g cs ds' t
def GivesP (C:Cx) (f:Nat) (ds:List D) (post res:List A) (ds':List D):Prop:=
 ∀(w:World) (F:Nat→Prop) (vs2:List Value) (g:Nat) (cs:Array Value) (t:TypeId),(∀b,F b→b<w.heap.size)→Inv C F w→All2 (CA w F) post vs2→LentP w F g cs ds t→
  Calls C.P f (.pointer (some ⟨g,0,none⟩)::vs2).toArray w fun e w'=>∃v,e= .returned v∧OutP w F g res ds' v w'
theorem givesP_cx {C C':Cx} (hP:C'.P=C.P) (hG:C'.G=C.G) {f:Nat} {ds ds':List D} {post res:List A} (h:GivesP C f ds post res ds'):GivesP C' f ds post res ds':=by
 intro w F vs2 g cs t hb hi h2 hl;rw[hP];exact h w F vs2 g cs t hb (inv_cx hG.symm hi) h2 hl
def initP (n:Nat) (ds:List D) (post:List A) (g:Nat):St:=
 ⟨.boxAt (keyB n) g::(post.map argV++List.replicate (n-(1+post.length)) .any),upd (List.replicate (n+8) .none) (keyB n) (.box (ds.map V.c)),[]⟩
def endP (C:Cx) (fn:Func) (st:St):Option (List A×List D×Nat):=
 match resD C st fn.results.toList with
 |none=>none
 |some as=>match nth .any st.tmps 0 with
  | .boxAt k g=>match Nat.beq k (keyB fn.ntmps),nth .none st.objs (keyB fn.ntmps)with
   |true,.box cells=>match dataCells cells with
    |some ds=>some (as,ds,g)
    |none=>none
   |_,_=>none
  |_=>none
def runFp (tab:Nat→List A→Option (List A)) (C:Cx) (lim n f:Nat) (ds:List D) (post:List A) (g:Nat):Option (List A×List D×Nat):=
 match C.P.funcs[f]? with
 |none=>none
 |some fn=>match fn.body with
  |none=>none
  |some b=>match runC (runF tab C lim n) C lim b (initP fn.ntmps ds post g)with
   |some (.normal,st)=>endP C fn st
   |some (.ret,st)=>endP C fn st
   |_=>none
section
variable {C:Cx}
theorem init_hasP {n g:Nat} {ds:List D} {post:List A} {vs2:List Value} {w:World} {F:Nat→Prop} {cs:Array Value} {t:TypeId} (hb:∀b,F b→b<w.heap.size) (hinv:Inv C F w) (h2:All2 (CA w F) post vs2) (hL:LentP w F g cs ds t):
 St.has C ⟨w.heap.size,fun b=>b=g⟩ F w (initP n ds post g) {tmps:=(Value.pointer (some ⟨g,0,none⟩)::vs2).toArray++Array.replicate (n-(Value.pointer (some ⟨g,0,none⟩)::vs2).toArray.size) undef,defers:=[]} w:=by
 have hl2:=h2.length;have hkl:keyB n<(List.replicate (n+8) Obj.none).length:=by simp[keyB]
 have hn:∀k,nth .none (upd (List.replicate (n+8) Obj.none) (keyB n) (.box (ds.map V.c))) k=if k=keyB n then .box (ds.map V.c)else .none:=fun k=>by
  by_cases hk:keyB n=k
  ·subst hk;rw[nth_upd_same _ _ _ hkl,if_pos rfl]
  ·rw[nth_upd_ne _ _ _ hk,nth_rep,if_neg (Ne.symm hk)]
 have hcells:∀(ds:List D) (vs:List Value) (loc:Where) (objs:List Obj),All2 (CD w F) ds vs→All2 (fun v x=>CV loc objs w F v x∧x.oneCell'=true) (ds.map V.c) vs:=by
  intro ds
  induction ds with
  |nil=>intro vs loc objs hvs;cases vs with|nil=>trivial|cons _ _=>exact hvs.elim
  |cons d ds ih=>intro vs loc objs hvs;cases vs with|nil=>exact hvs.elim|cons y vs=>exact⟨⟨hvs.1,hvs.1.one⟩,ih vs loc objs hvs.2⟩
 refine⟨F,⟨C.P,fun k=>if k=keyB n then some (g,0)else none,fun _=>0⟩,⟨rfl,BelowX.refl _ _,Nat.le_refl _,rfl,?_,fun v hv=>?_,fun k=>?_,?_,?_,hb,fun b h=> .inl h,fun _ h=>h,hinv⟩⟩
 ·simp only[initP,Array.toList_append,Array.toList_replicate,List.size_toArray,List.cons_append];refine⟨?_,all2_app (argV_ok h2) ?_⟩
  ·intro o _ _;exact⟨⟨0,by simp⟩,rfl⟩
  ·have e:(Value.pointer (some ⟨g,0,none⟩)::vs2).length=1+post.length:=by simp only[List.length_cons];omega
   rw[e];exact all2_rep trivial _
 ·simp only[initP,List.mem_append,List.mem_cons,List.mem_map,List.mem_replicate]at hv;rcases hv with rfl|⟨x,_,rfl⟩|⟨_,rfl⟩
  ·intro hc;have hc:nth Obj.none (upd (List.replicate (n+8) Obj.none) (keyB n) (.box (ds.map V.c))) (keyB n)=Obj.none:=hc;rw[hn,if_pos rfl]at hc;simp at hc
  ·exact argV_ref x
  ·trivial
 ·simp only[initP];rw[hn];split
  ·rename_i e;exact⟨g,0,cs,t,by simp[e],hL.nF,hL.blk,hcells _ _ _ _ hL.cd,fun v hv=>by obtain⟨_,_,rfl⟩:=List.mem_map.1 hv;trivial⟩
  ·rename_i e;show(if k=keyB n then some (g,0)else none)=none;rw[if_neg e]
 ·intro k k' b c c' q1 q2;simp only at q1 q2;split at q1
  ·split at q2
   ·rename_i e1 e2;rw[e1,e2]
   ·simp at q2
  ·simp at q1
 ·intro k b c q1;simp only at q1;split at q1
  ·simp only[Option.some.injEq,Prod.mk.injEq]at q1;obtain⟨rfl,rfl⟩:=q1;exact⟨.inr rfl,hL.lt⟩
  ·simp at q1
theorem finP {fn:Func} {w:World} {F:Nat→Prop} {g:Nat} {st:St} {a':Act} {w':World} {res:List A} {ds':List D} {cells:List V} {k:Nat} (hh:St.has C ⟨w.heap.size,fun b=>b=g⟩ F w st a' w') (hfl:∀r∈res,flatA r=true) (has:resD C st fn.results.toList=some res)
 (h0:nth .any st.tmps 0= .boxAt k g) (hk:k=keyB fn.ntmps) (hob:nth .none st.objs (keyB fn.ntmps)= .box cells) (hds:dataCells cells=some ds'):
 a'.defers=[]∧∃v,(results fn a'.tmps).run C.P w'= .ok v w'∧∃v',Ending.returned v= .returned v'∧OutP w F g res ds' v' w':=by
 subst hk;obtain⟨F',loc',hcc⟩:=hh;obtain⟨hd,v,hv1,hv2⟩:=resD_okF hcc has hfl;have hc0:=(slot_ok hcc 0).1;rw[h0]at hc0;obtain⟨⟨cg,q1⟩,q2⟩:=hc0 _ hob rfl;have hco:=hcc.objs (keyB fn.ntmps);rw[hob]at hco;obtain⟨gb,cb,cs,t',p1,p2,p3,p4,p5⟩:=hco;rw[p1]at q1;simp only[Option.some.injEq,Prod.mk.injEq]at q1;obtain⟨rfl,rfl⟩:=q1;exact⟨hd,v,hv1,v,rfl,hcc.below,F',cs,t',hcc.fsup,fun x hx=>⟨hcc.bound x hx,hcc.fsub x hx⟩,hv2 F',p2,(hcc.fresh _ _ _ p1).2,p3,dataCells_ok (loc:=loc') (objs:=st.objs) hds (p4.mono fun _ _ h=>h.1)⟩
theorem runFp_ok [EffOk C] {tab:Nat→List A→Option (List A)} {lim:Nat} (hm:C.P.follows .mixedOrders=true) (htab:∀f as rs,tab f as=some rs→Gives C f as rs) {n f:Nat} {ds ds':List D} {post res:List A} (hfl:flatAll res=true)
 (h:∀g,runFp tab C lim n f ds post g=some (res,ds',g)):GivesP C f ds post res ds':=by
 intro w F vs2 g cs t hb hinv h2 hL;have h:=h g;unfold runFp at h;split at h
 ·simp at h
 rename_i fn hf;split at h
 ·simp at h
 rename_i b hbd;have key:∀(x:X) (s':St),(x= .normal∨x= .ret)→runC (runF tab C lim n) C lim b (initP fn.ntmps ds post g)=some (x,s')→endP C fn s'=some (res,ds',g)→Calls C.P f (.pointer (some ⟨g,0,none⟩)::vs2).toArray w fun e w'=>∃v,e= .returned v∧OutP w F g res ds' v w':=by
  intro x s' hx hr hend;refine calls_of_wp hf hbd (Code.wp_mono (fun e a' w' hp=>?_) (runC_ok hm (fun f as rs h=>runF_ok hm htab n f as rs h) lim b _ s' x _ w hr (init_hasP hb hinv h2 hL)));obtain⟨he,hh⟩:=hp;have fin:a'.defers=[]∧∃v,(results fn a'.tmps).run C.P w'= .ok v w'∧∃v',Ending.returned v= .returned v'∧OutP w F g res ds' v' w':=by
   unfold endP at hend;split at hend
   ·simp at hend
   rename_i as has;split at hend
   ·rename_i k g1 h0;split at hend
    ·rename_i cells hkb hob;split at hend
     ·rename_i ds1 hds;simp only[Option.some.injEq,Prod.mk.injEq]at hend;obtain⟨rfl,rfl,rfl⟩:=hend;exact finP hh (flatAll_ok hfl) has h0 (Nat.eq_of_beq_eq_true hkb) hob hds
     ·simp at hend
    ·simp at hend
   ·simp at hend
  rcases hx with rfl|rfl
  ·have he:e= .normal:=he;subst he;exact fin
  ·have he:e= .ret:=he;subst he;exact fin
 split at h
 ·rename_i s' hr;exact key _ _ (.inl rfl) hr h
 ·rename_i s' hr;exact key _ _ (.inr rfl) hr h
 ·simp at h
variable {B:Bd} {F0:Nat→Prop} {w0:World} {F:Nat→Prop} {loc:Where} {st:St} {a:Act} {w:World}
theorem Conc.turnedP {dst:Option Nat} {k g c0:Nat} {cells:List V} {ds':List D} {cs:Array Value} {t:TypeId} {w':World} {F':Nat→Prop} {v:V} {x:Value} {us:List (Nat×Obj)} (h:Conc C B F0 w0 F loc st a w) (hk:nth .none st.objs k= .box cells) (hl:loc k=some (g,c0)) (hnF:¬F g)
 (hbel:BelowX ⟨w.heap.size,fun b=>b=g⟩ w w') (hF1:∀x,F x→F' x) (hF2:∀x,F' x→x<w'.heap.size∧(F x∨Own ⟨w.heap.size,fun b=>b=g⟩ x)) (hL:LentP w' F' g cs ds' t) (hus:us=[(k,.box (ds'.map V.c))])
 (hv:∀(loc:Where) (objs:List Obj),CV loc objs w' F' v x∧Ref objs v):St.has C B F0 w0 (st.put dst v us) (a.put dst x) w':=by
 subst hus;have hkl:k<st.objs.length:=lt_of_nth (by rw[hk];simp);have hle:Le st.objs (upd st.objs k (.box (ds'.map V.c))) loc loc:=le_box hk;have hsize:=hbel.size;have hwF:∀x,F x→w'.heap[x]? =w.heap[x]? :=fun x hx=>hbel.block x (h.bound x hx) fun e=>by have e:x=g:=e;exact hnF (e▸hx)
 have hfr:=h.fresh _ _ _ hl;have hown:∀x,Own ⟨w.heap.size,fun b=>b=g⟩ x→Own B x:=fun x hx=>by
  rcases hx with hx|hx
  ·exact .inl (Nat.le_trans h.hB hx)
  ·have hx:x=g:=hx;rw[hx];exact hfr.1
 have hbw:BelowX B w w':=⟨hbel.os,hbel.tape,hbel.output,hbel.size,fun j hj hjX=>hbel.block j (Nat.lt_of_lt_of_le hj h.hB) fun hx=>by
  rcases hown j (.inr hx)with h1|h1
  ·omega
  ·exact hjX h1⟩
 have hcells:∀(ds:List D) (vs:List Value) (loc:Where) (objs:List Obj),All2 (CD w' F') ds vs→All2 (fun v x=>CV loc objs w' F' v x∧x.oneCell'=true) (ds.map V.c) vs:=by
  intro ds
  induction ds with
  |nil=>intro vs loc objs hvs;cases vs with|nil=>trivial|cons _ _=>exact hvs.elim
  |cons d ds ih=>intro vs loc objs hvs;cases vs with|nil=>exact hvs.elim|cons y vs=>exact⟨⟨hvs.1,hvs.1.one⟩,ih vs loc objs hvs.2⟩
 refine⟨F',loc,h.step (up:=[(k,.box (ds'.map V.c))]) hF1 hwF hle (h.below.trans hbw) (by have:=h.hB;omega) (fun j=>?_) h.inj (fun j x y hj=>⟨(h.fresh _ _ _ hj).1,Nat.lt_of_lt_of_le (h.fresh _ _ _ hj).2 hsize⟩) (fun x hx=>(hF2 x hx).1) (fun x hx=>?_) (hv _ _).1 (hv loc _).2⟩
 ·show CO _ (upd st.objs k (.box (ds'.map V.c))) _ _ _ (nth .none (upd st.objs k (.box (ds'.map V.c))) j);by_cases hkj:k=j
  ·subst hkj;rw[nth_upd_same _ _ _ hkl];exact⟨g,c0,cs,t,hl,hL.nF,hL.blk,hcells _ _ _ _ hL.cd,fun v hv=>by obtain⟨_,_,rfl⟩:=List.mem_map.1 hv;trivial⟩
  ·rw[nth_upd_ne _ _ _ hkj];refine CO.le hF1 hwF hle rfl rfl (fun x y hj=>?_) (h.objs j);have hx:x≠g:=fun e=>by subst e;exact hkj (h.inj _ _ _ _ _ hl hj)
   refine⟨hbel.block x (h.fresh _ _ _ hj).2 hx,fun hnF2 hF'=>?_⟩;rcases(hF2 x hF').2 with h1|h1|h1
   ·exact hnF2 h1
   ·have h1:w.heap.size≤x:=h1;have:=(h.fresh _ _ _ hj).2;omega
   ·exact hx h1
 ·rcases(hF2 x hx).2 with h1|h1
  ·exact h.fsub x h1
  ·exact .inr (hown x h1)
end
def effPt (chk:List D→List A→Bool) (mk:List D→List A→List D) (res:List D→List A→List A) (_:Option Nat) (vs:List V) (ob:List Obj):R:=
 match vs with
 | .box k off::r=>match nth .none ob k,toAs ob r with
  | .box cells,some (al,us)=>match Nat.beq off 0&&!memN k (keysU us),dataCells cells with
   |true,some ds=> .cond (chk ds al=true) (resV (res ds al)) (us++[(k,.box ((mk ds al).map V.c))])
   |_,_=> .fail
  |_,_=> .fail
 |_=> .fail
section
variable {C:Cx}
theorem effAt_pt {f:Nat} {fn:Func} {chk:List D→List A→Bool} {mk:List D→List A→List D} {res:List D→List A→List A} (hf:C.P.funcs[f]? =some fn) (hb:fn.body≠none) (hn:fn.name≠ "runtime.NumGoroutine")
 (hmk:∀ds al,chk ds al=true→GivesP C f ds al (res ds al) (mk ds al)):EffAt C f (effPt chk mk res):=by
 refine⟨fun{B F0 w0 F loc st a w dst args ts ty pos after g} hc=>?_,fun dst vs ob ob' hh hd=>?_,fun dst vs ob hv _=>?_⟩
 ·unfold effPt;split
  ·rename_i k off r hvs;split
   ·rename_i cells al us hk hto;split
    ·rename_i ds hsk hds;simp only[Bool.and_eq_true,Bool.not_eq_true']at hsk;obtain rfl:=Nat.eq_of_beq_eq_true hsk.1;have hku:¬∃p∈us,p.1=k:=fun h=>by have:=memN_iff.2 (mem_keysU.2 h);rw[this]at hsk;simp at hsk
     intro hck next Q hnx
     have hG:=hmk ds al hck;obtain⟨x0,xs,hxs⟩:∃x0 xs,args.toList=x0::xs:=by
      cases h:args.toList with
      |nil=>rw[h]at hvs;simp at hvs
      |cons x0 xs=>exact⟨x0,xs,rfl⟩
     rw[hxs]at hvs;simp only[List.map_cons,List.cons.injEq]at hvs;obtain⟨hx0,rfl⟩:=hvs;obtain⟨hfz,hall⟩:=toAs_ok hc hto (all2_ev hc xs);obtain⟨F',hc',hF',hb'⟩:=hc.freezes hfz st.dirty;have hargs:=hall F' hF' hb';have hv0:=(ev_ok hc x0).1;rw[hx0]at hv0;have hk':nth .none (upds st.objs us) k= .box cells:=by rw[nth_upds_out _ _ fun p hp e=>hku ⟨p,hp,e⟩];exact hk
     have hco:=hc'.objs k;simp only at hco;rw[hk']at hco;obtain⟨gb,c0,cs0,t0,q5,q6,q7,q8,q9⟩:=hco;obtain⟨b1,c1,r1,r2⟩:=hv0 _ hk rfl;have h6:loc k=some (gb,c0):=q5;rw[h6]at r1;simp only[Option.some.injEq,Prod.mk.injEq]at r1;obtain⟨rfl,rfl⟩:=r1;have hcall:=hG w F' (xs.map a.eval) gb cs0 t0 hc'.bound hc'.inv hargs ⟨q6,(hc'.fresh _ _ _ q5).2,q7,dataCells_ok (objs:=upds st.objs us) hds (q8.mono fun _ _ h=>h.1)⟩;have hargs':(Value.pointer (some ⟨gb,0,none⟩)::xs.map a.eval).toArray=args.map a.eval:=by apply Array.ext';rw[Array.toList_map,hxs];simp[r2]
     rw[hargs']at hcall;refine wp_entered hf hb hn hcall fun e w' he=>?_
     obtain⟨v,rfl,hbel,F2,cs,t,h1,h2,h3,h4⟩:=he;refine⟨_,rfl,hnx _ _ ?_⟩;have h6:=hc'.turnedP (dst:=dst) (k:=k) (ds':=mk ds al) (v:=resV (res ds al)) (x:=v) hk' q5 q6 hbel h1 h2 h4 rfl (fun loc objs=>res_CV h3);refine has_same h6 rfl ?_;show upds (upds st.objs us) [(k,.box ((mk ds al).map V.c))]=upds st.objs (us++[(k,.box ((mk ds al).map V.c))]);rw[upds_append us]
    ·trivial
   ·trivial
  ·trivial
 ·unfold effPt;cases vs with
  |nil=>rfl
  |cons v r=>
   cases v with
   |box k off=>
    have h0:nth .none ob k=nth .none ob' k:=hh k (by
     rw[mem_deepB];exact⟨k,List.mem_flatMap.2 ⟨.box k off,by simp,by simp[keysV]⟩,.inl rfl⟩)
    have h1:toAs ob r=toAs ob' r:=toAs_ag (c:=2) fun v hv k hk=> .inl (hh k (by
     rw[mem_deepB];exact⟨k,List.mem_flatMap.2 ⟨v,by simp[hv],hk⟩,.inl rfl⟩))
    simp only[h0,h1]
   |_=>rfl
 ·unfold effPt;split
  ·rename_i k off r;split
   ·rename_i cells al us hk hto;split
    ·have hfz:=toAs_fz hto;refine⟨fun p hp=>?_,fun j hj=>by rw[keys_resV]at hj;simp at hj⟩;rcases List.mem_append.1 hp with hp|hp
     ·obtain⟨⟨v,hv1,hv2⟩,s',es',fz,h1,h2⟩:=hfz p hp;refine⟨.inr ⟨?_,by rw[h1];simp⟩,by rw[h2];simp,fun u hu=>by rw[h2]at hu;simp[objVs]at hu⟩;rw[mem_deepB];exact⟨p.1,List.mem_flatMap.2 ⟨v,by simp[hv1],hv2⟩,.inl rfl⟩
     ·simp only[List.mem_singleton]at hp;subst hp;refine⟨.inr ⟨?_,by rw[hk];simp⟩,by simp,fun u hu=>?_⟩
      ·rw[mem_deepB];exact⟨k,List.mem_flatMap.2 ⟨.box k off,by simp,by simp[keysV]⟩,.inl rfl⟩
      ·obtain⟨_,_,rfl⟩:=List.mem_map.1 (show u∈List.map V.c _ from hu);intro j hj;simp[keysV]at hj
    ·trivial
   ·trivial
  ·trivial
end
end Eng
end

section
namespace Eng
open Go Go.RowKit
variable [Env]
abbrev EffG:=Option Nat→List V→List Obj→R
def emptyHd:List V→Bool
 | .c (.sl [])::_=>true
 | .nilS::_=>true
 |_=>false
def effIf (e1 e2:EffG) (dst:Option Nat) (vs:List V) (ob:List Obj):R:=
 match emptyHd vs with
 |true=>e1 dst vs ob
 |false=>e2 dst vs ob
def effPl (C:Cx) (f:Nat) (chk:List A→Bool) (res:List A→List A) (_:Option Nat) (vs:List V) (ob:List Obj):R:=
 match callV C ob f vs with
 | .call _ as sh up=>match hasSlice sh||flatAll (res as)with
  |true=> .cond (chk as=true) (resV (res as)) up
  |false=> .fail
 |_=> .fail
section
variable {C:Cx}
theorem effAt_if {f:Nat} {e1 e2:EffG} (h1:EffAt C f e1) (h2:EffAt C f e2):EffAt C f (effIf e1 e2):=by
 refine⟨fun{B F0 w0 F loc st a w dst args ts ty pos after g} hc=>?_,fun dst vs ob ob' hh hd=>?_,fun dst vs ob hv hb=>?_⟩
 ·unfold effIf;split
  ·exact h1.rs hc
  ·exact h2.rs hc
 ·unfold effIf;split
  ·exact h1.ag dst vs ob ob' hh hd
  ·exact h2.ag dst vs ob ob' hh hd
 ·unfold effIf;split
  ·exact h1.good dst vs ob hv hb
  ·exact h2.good dst vs ob hv hb
omit [Env] in
theorem callV_inv {ob:List Obj} {f f':Nat} {vs:List V} {as:List A} {sh:List (Bool×List Value)} {up:List (Nat×Obj)} (h:callV C ob f vs= .call f' as sh up):f'=f∧∃us,toAs ob vs=some (as,us)∧(up=us∨up=[]):=by
 unfold callV at h;split at h
 ·simp at h
 split at h
 ·simp at h
 split at h
 ·rename_i as' us sh' h1 _;split at h
  ·simp only[R.call.injEq]at h;obtain⟨rfl,rfl,rfl,rfl⟩:=h;exact⟨rfl,_,h1,.inl rfl⟩
  ·simp only[R.call.injEq]at h;obtain⟨rfl,rfl,rfl,rfl⟩:=h;exact⟨rfl,_,h1,.inr rfl⟩
 ·simp at h
theorem effAt_pl {f:Nat} {chk:List A→Bool} {res:List A→List A} (hmk:∀al,chk al=true→Gives C f al (res al)):EffAt C f (effPl C f chk res):=by
 refine⟨fun{B F0 w0 F loc st a w dst args ts ty pos after g} hc=>?_,fun dst vs ob ob' hh hd=>?_,fun dst vs ob hv hb=>?_⟩
 ·have h1:=rs_call (dst:=dst) (ty:=ty) (pos:=pos) (after:=after) (g:=g) (f:=f) (cal:= .func f) (args:=args) (ts:=ts) hc rfl;unfold effPl;revert h1;cases hr:callV C st.objs f (args.toList.map (ev st))with
  |call f' as sh up=>
   intro h1;simp only;obtain⟨rfl,_⟩:=callV_inv hr;cases hs:(hasSlice sh||flatAll (res as))with
   |false=>trivial
   |true=>
    intro hck next Q hn
    refine h1 (res as) (hmk as hck) (fun h0=>flatAll_ok ?_) next Q hn
    simpa [h0]using hs
  |_=>intro _;trivial
 ·unfold effPl;have h1:toAs ob vs=toAs ob' vs:=toAs_ag (c:=2) fun v hv k hk=> .inl (hh k (by
   rw[mem_deepB];exact⟨k,List.mem_flatMap.2 ⟨v,hv,hk⟩,.inl rfl⟩))
  have h2:callV C ob f vs=callV C ob' f vs:=by unfold callV;rw[h1]
  rw[h2]
 ·unfold effPl;split
  ·rename_i f' as sh up hr;split
   ·obtain⟨_,us,hto,hup⟩:=callV_inv hr;have hfz:=toAs_fz hto;refine⟨fun p hp=>?_,fun j hj=>by rw[keys_resV]at hj;simp at hj⟩;rcases hup with rfl|rfl
    ·obtain⟨⟨v,hv1,hv2⟩,s',es',fz,h1,h2⟩:=hfz p hp;refine⟨.inr ⟨?_,by rw[h1];simp⟩,by rw[h2];simp,fun u hu=>by rw[h2]at hu;simp[objVs]at hu⟩;rw[mem_deepB];exact⟨p.1,List.mem_flatMap.2 ⟨v,hv1,hv2⟩,.inl rfl⟩
    ·simp at hp
   ·trivial
  ·trivial
end
variable (tab:Nat→List A→Option (List A)) (C:Cx)
def okF:Option (List A)→Bool
 |some _=>true
 |none=>false
noncomputable def effRG (C':Cx) (f:Nat):EffG:=effPl C' f (fun al=>okF (runF tab C 1000 40 f al)) (fun al=>match runF tab C 1000 40 f al with|some r=>r|none=>[])
noncomputable def effRC1 (f s:Nat):EffG:=effCl (fun al=>match runFc tab C 1000 40 f al none []with|some (k,es)=>Nat.beq k s&&notE2 es|none=>false) s (fun al=>match runFc tab C 1000 40 f al none []with|some x=>x.2|none=>[])
noncomputable def effRC2 (f s:Nat):EffG:=effCo s (fun es al=>notE2 es&&match runFc tab C 1000 40 f [] (some (s,es)) al with|some (k,es)=>Nat.beq k s&&notE2 es|none=>false) (fun es al=>match runFc tab C 1000 40 f [] (some (s,es)) al with|some x=>x.2|none=>[])
noncomputable def effRD (f s:Nat):EffG:=effCd s (fun es al=>okF (runFd tab C 1000 40 f s es al)) (fun es al=>match runFd tab C 1000 40 f s es al with|some r=>r|none=>[])
noncomputable def effRT (f:Nat):EffG:=effOt (fun al=>match runFt tab C 1000 40 f al with|some _=>true|none=>false) (fun al=>match runFt tab C 1000 40 f al with|some r=>r|none=>(0,[],[]))
omit [Env] in
theorem notE2_ne {es:List (List D)} (h:notE2 es=true):es≠[]:=by cases es<;>simp_all[notE2]
section
variable {tab} {C} {C':Cx} [EffOk C] (hm:C.P.follows .mixedOrders=true) (htab:∀f as rs,tab f as=some rs→Gives C f as rs) (hP:C'.P=C.P) (hG:C'.G=C.G)
include hm htab hP hG
theorem effAt_RG {f:Nat}:EffAt C' f (effRG tab C C' f):=by
 refine effAt_pl fun al hc=>?_
 revert hc;cases hr:runF tab C 1000 40 f al with
 |none=>intro h;cases h
 |some r=>intro _;exact gives_cx hP hG (runF_ok hm htab 40 f al r hr)
theorem effAt_RC1 {f s:Nat} {fn:Func} (hf:C'.P.funcs[f]? =some fn) (hb:fn.body≠none) (hn:fn.name≠ "runtime.NumGoroutine"):EffAt C' f (effRC1 tab C f s):=by
 refine effAt_cl hf hb hn fun al hc=>?_
 revert hc;cases hr:runFc tab C 1000 40 f al none []with
 |none=>intro h;cases h
 |some x=>obtain⟨k,es⟩:=x;intro h;simp only[Bool.and_eq_true]at h;obtain⟨h1,h2⟩:=h;obtain rfl:=Nat.eq_of_beq_eq_true h1;exact⟨notE2_ne h2,givesC_cx hP hG (runFc_ok hm htab (notE2_ne h2) hr)⟩
theorem effAt_RC2 {f s:Nat} {fn:Func} (hf:C'.P.funcs[f]? =some fn) (hb:fn.body≠none) (hn:fn.name≠ "runtime.NumGoroutine"):EffAt C' f (effRC2 tab C f s):=by
 refine effAt_co hf hb hn fun es al hc=>?_
 rw[Bool.and_eq_true]at hc;obtain⟨h0,hc⟩:=hc;revert hc;cases hr:runFc tab C 1000 40 f [] (some (s,es)) al with
 |none=>intro h;cases h
 |some x=>obtain⟨k,es'⟩:=x;intro h;simp only[Bool.and_eq_true]at h;obtain⟨h1,h2⟩:=h;obtain rfl:=Nat.eq_of_beq_eq_true h1;exact⟨notE2_ne h0,notE2_ne h2,givesC_cx hP hG (runFc_ok hm htab (notE2_ne h2) hr)⟩
theorem effAt_RD {f s:Nat} {fn:Func} (hf:C'.P.funcs[f]? =some fn) (hb:fn.body≠none) (hn:fn.name≠ "runtime.NumGoroutine"):EffAt C' f (effRD tab C f s):=by
 refine effAt_cd hf hb hn fun es al hc=>?_
 revert hc;cases hr:runFd tab C 1000 40 f s es al with
 |none=>intro h;cases h
 |some r=>intro _;exact givesD_cx hP hG (runFd_ok hm htab hr)
theorem effAt_RT {f:Nat} {fn:Func} (hf:C'.P.funcs[f]? =some fn) (hb:fn.body≠none) (hn:fn.name≠ "runtime.NumGoroutine"):EffAt C' f (effRT tab C f):=by
 refine effAt_ot hf hb hn fun al hc=>?_
 revert hc;cases hr:runFt tab C 1000 40 f al with
 |none=>intro h;cases h
 |some r=>obtain⟨s,es,as⟩:=r;intro _;exact givesT_cx hP hG (runFt_ok hm htab hr)
end
end Eng
end
