/- The engine, part 31: calls that hand back an array that is the caller's own from then on. -/
import Derived.Test.YtfipmjpmflmbbaaGreatDEngD
open Array renaming ext'→Aw, mapM_eq_mapM_toList→Bx, toList_map→Dd, toList_replicate→Hu, toList_append→Hv, replicate→Hx
open Bool renaming and_eq_true→Hy, not_eq_true'→I0
open Eng renaming settleO→I1, settle1→I2, evict1→I3, evict→J3, resD→J4
open Eng.Obj renaming none→J7
open Eng.Obj.arr renaming injEq→J8
open Eng.St renaming has→J9, put→Lm
open Go.Code renaming wp_mono→Lr
open Go.Ending renaming returned→Ls
open Go.Sem renaming run_bind→Lv
open Go.Value renaming slice→M0, pointer→M1
open List renaming mem_flatMap→M2, mem_singleton→M3, replicate→No, mem_append→Pl, mem_append_right→P1, mem_cons→Ts, mem_map→T1, size_toArray→U0, length_cons→U3, map_cons→V1, mem_replicate→W0, cons_append→W1, mem_of_mem_take→W2, mem_cons_of_mem→ba
open List.cons renaming injEq→bb
open Nat renaming eq_of_beq_eq_true→bc, lt_of_lt_of_le→bd, beq→be, le_trans→bh, le_refl→bm
open Ne renaming symm→bs
open Option.some renaming injEq→bv
open Prod.mk renaming injEq→bw
section
namespace Eng
open Go Go.RowKit
def G7 (a b:Ann):Nat→Ann
 |0=>a
 |_=>b
def eO (a b c:Ann):Nat→Ann
 |0=>a
 |1=>b
 |_=>c
def yn:List (List D)→Bool
 |[]=>true
 |e::r=>e.all JK&&yn r
theorem Hq:∀{es:List (List D)},yn es=true→∀d∈es.flatten,JK d=true
 |[],_,d,hd=>by simp at hd
 |e::r,h,d,hd=>by
  simp only[yn,Hy]at h;simp only[List.flatten_cons,Pl]at hd;rcases hd with hd|hd
  ·exact List.all_eq_true.1 h.1 d hd
  ·exact Hq h.2 d hd
def eP (st:St) (rs:List ResultVar):Option (Nat×List (List D)):=
 match rs with
 |[.tmp t]=>match nth .any st.tmps t with
  | .arr k=>match nth .none st.objs k with
   | .arr s es false=>some (s,es)
   |_=>none
  |_=>none
 |_=>none
def eQ (st:St) (rs:List ResultVar):Option (Nat×List (List D)):=
 match eP st rs with
 |some (s,es)=>match es with
  |[]=>none
  |_::_=>match yn es with
   |true=>some (s,es)
   |false=>none
 |none=>none
theorem bf {st:St} {rs:List ResultVar} {s:Nat} {es:List (List D)} (h:eP st rs=some (s,es)) (h1:es≠[]) (h2:yn es=true):eQ st rs=some (s,es):=by
 unfold eQ;rw[h];cases es with
 |nil=>exact absurd rfl h1
 |cons e r=>simp only[h2]
def wk (C:Cx) (f:Nat) (args:List A) (s:Nat) (es:List (List D)):Prop:=
 ∀(w:World) (F:Nat→Prop) (vs:List Value),(∀b,F b→b<w.heap.size)→Inv C F w→All2 (CA w F) args vs→
  Calls C.P f vs.toArray w fun e w'=>Below w.heap.size w w'∧∃b c cs t,e= .returned (.slice (some ⟨b,0,none⟩) es.length c)∧w.heap.size≤b∧b<w'.heap.size∧w'.heap[b]? =some (.cells cs t (0,0))∧cs.size=c*s∧(es.length≤c∧c≤9223372036854775807)∧
   roomS s es.length∧0<s∧(∀e∈es,e.length=s)∧C.P.cellsOf t=s∧∀j,j<es.length*s→∃v,cs[j]? =some v∧∀(w:World) (F:Nat→Prop),CD w F (nth .undef es.flatten j) v
theorem Ku {C C':Cx} (hG:C'.G=C.G) {F:Nat→Prop} {w:World} (h:Inv C F w):Inv C' F w:=fun g cs hg=>h g cs (hG▸hg)
theorem wl {C C':Cx} (hP:C'.P=C.P) (hG:C'.G=C.G) {f:Nat} {as rs:List A} (h:qc C f as rs):qc C' f as rs:=by
 intro w F vs hb hi ha;rw[hP];exact h w F vs hb (Ku hG.symm hi) ha
theorem Kv {C C':Cx} (hP:C'.P=C.P) (hG:C'.G=C.G) {f s:Nat} {as:List A} {es:List (List D)} (h:wk C f as s es):wk C' f as s es:=by
 intro w F vs hb hi ha;rw[hP];exact h w F vs hb (Ku hG.symm hi) ha
section
variable {C:Cx}
theorem bi {fn:Func} {w:World} {F:Nat→Prop} {s':St} {a':Act} {w':World} {s:Nat} {es:List (List D)} (hh:J9 C ⟨w.heap.size,fun _=>False⟩ F w s' a' w') (has:eQ s' fn.results.toList=some (s,es)):
 a'.defers=[]∧∃v,(results fn a'.tmps).run C.P w'= .ok v w'∧Below w.heap.size w w'∧∃b c cs t,Ls v= .returned (.slice (some ⟨b,0,none⟩) es.length c)∧w.heap.size≤b∧b<w'.heap.size∧w'.heap[b]? =some (.cells cs t (0,0))∧cs.size=c*s∧(es.length≤c∧c≤9223372036854775807)∧
  roomS s es.length∧0<s∧(∀e∈es,e.length=s)∧C.P.cellsOf t=s∧∀j,j<es.length*s→∃v,cs[j]? =some v∧∀(w:World) (F:Nat→Prop),CD w F (nth .undef es.flatten j) v:=by
 obtain⟨F',loc',h⟩:=hh;have a6:∃e r,es=e::r∧yn es=true∧eP s' fn.results.toList=some (s,es):=by
  unfold eQ at has;split at has
  ·rename_i s1 es1 h1;split at has
   ·simp at has
   ·split at has
    ·rename_i a7;simp only[bv,bw]at has;obtain⟨rfl,rfl⟩:=has;exact⟨_,_,rfl,a7,h1⟩
    ·simp at has
  ·simp at has
 obtain⟨e,r,rfl,a7,has⟩:=a6;unfold eP at has;split at has
 ·rename_i t hrs;split at has
  ·rename_i k hk;split at has
   ·rename_i s0 es0 ad
    ··simp only[bv,bw]at has;obtain⟨rfl,rfl⟩:=has;have hx:=(Qv h t).1;simp only[Act.eval]at hx;rw[hk]at hx;have a5:=h.objs k;rw[ad]at a5;obtain⟨a4,hs0,a3,a5⟩:=a5;rcases hx _ _ _ ad with⟨b,c,hl,hv⟩|⟨_,h0,_⟩
      ·rcases a5 with⟨h4,_⟩|⟨b',c',cs,t',h4,h5,h6,h7,h8,h9,h10,h11⟩
       ·rw[h4]at hl;simp at hl
       ·rw[h4]at hl;simp only[bv,bw]at hl;obtain⟨rfl,rfl⟩:=hl;have a8:=h.fresh _ _ _ h4;refine⟨h.defers,.slice (some ⟨b',0,none⟩) (e::r).length c',?_,h.below.toBelow,b',c',cs,t',rfl,a8.1.elim id False.elim,a8.2,h6,h7,h8,a4,hs0,a3,by rw[←h.prog];exact h10,fun j hj=>?_⟩
        ·have hr:fn.results= #[.tmp t]:=by apply Aw;simpa using hrs
         unfold results;rw[hr];have hv':a'.tmps[t]?.getD undef= .slice (some ⟨b',0,none⟩) (e::r).length c':=by rw[←hv];simp
         simp[hv']
        ·obtain⟨v,q1,q2⟩:=h9 j hj;refine⟨v,q1,fun w F=>TC q2 (Hq a7 _ ?_)⟩;rw[qo _ (by rw[qp a3];exact hj)];exact List.getElem_mem _
      ·simp at h0
   ·simp at has
  ·simp at has
 ·simp at has
def runFo (tab:Nat→List A→Option (List A)) (C:Cx) (lim n f:Nat) (args:List A):Option (Nat×List (List D)):=
 match C.P.funcs[f]? with
 |none=>none
 |some fn=>match fn.body with
  |none=>none
  |some c=>match jM (XO tab C lim n) C lim c (vS fn.ntmps args)with
   |some (.normal,s)=>eQ s fn.results.toList
   |some (.ret,s)=>eQ s fn.results.toList
   |_=>none
def tA (C:Cx) (Gv:Nat→List A→List A→Prop) (anns:Nat→Ann) (fn:Func) (args:List A) (Q:Nat→List (List D)→Prop):Prop:=
 match fn.body with
 |none=>False
 |some c=>wpC C Gv anns 0 c (fun e s=>match e with
  | .normal| .ret=>match eP s fn.results.toList with
   |some (k,es)=>(es≠[]∧yn es=true)∧Q k es
   |none=>False
  | .exit _=>False) (vS fn.ntmps args)
theorem bj [EffOk C] {anns:Nat→Ann} {f:Nat} {fn:Func} {args:List A} {s:Nat} {es:List (List D)} (hm:C.P.follows .mixedOrders=true) (hf:C.P.funcs[f]? =some fn) (h:tA C (qc C) anns fn args (fun k r=>k=s∧r=es)):wk C f args s es:=by
 intro w F vs hb a5 a3;unfold tA at h;split at h
 ·exact h.elim
 rename_i c hc;refine calls_of_wp hf hc ?_;refine Lr (fun e a' w' hp=>?_) (Ik hm c 0 _ _ _ _ h (Xh hb a5 a3));obtain⟨x,s',hx,hq,_,hh⟩:=hp;have a6:∀k as,eP s' fn.results.toList=some (k,as)→((as≠[]∧yn as=true)∧k=s∧as=es)→_:=fun k as a4 he=>bi (fn:=fn) hh (by rw[bf a4 he.1.1 he.1.2,he.2.1,he.2.2])
 cases x with
 |normal=>
  have hx:e= .normal:=hx;subst hx;simp only at hq;split at hq
  ·rename_i k as a4;exact a6 k as a4 hq
  ·exact hq.elim
 |ret=>
  have hx:e= .ret:=hx;subst hx;simp only at hq;split at hq
  ·rename_i k as a4;exact a6 k as a4 hq
  ·exact hq.elim
 |exit i=>exact hq.elim
def Vk (own:List A→Option (Nat×List (List D))) (dst:Option Nat) (vs:List V) (ob:List Obj):R:=
 match dst with
 |none=> .fail
 |some d=>match qA ob d,wa ob vs with
  |true,some (as,us)=>match own as with
   |some (s,es)=> .ok (.arr d) (us++[(d,.arr s es false)])
   |none=> .fail
  |_,_=> .fail
variable {B:Bd} {F0:Nat→Prop} {w0:World} {F:Nat→Prop} {loc:Where} {st:St} {a:Act} {w:World}
theorem Conc.adoptNew {dst:Option Nat} {d s b c:Nat} {es:List (List D)} {cs:Array Value} {t:TypeId} {w':World} (h:Conc C B F0 w0 F loc st a w) (hd:qA st.objs d=true) (hbel:Below w.heap.size w w')
 (hb1:w.heap.size≤b) (hb2:b<w'.heap.size) (hblk:w'.heap[b]? =some (.cells cs t (0,0))) (hsz:cs.size=c*s) (hlc:es.length≤c∧c≤9223372036854775807) (hroom:roomS s es.length) (hs0:0<s) (hlen:∀e∈es,e.length=s) (ht:C.P.cellsOf t=s)
 (hcd:∀j,j<es.length*s→∃v,cs[j]? =some v∧∀(w:World) (F:Nat→Prop),CD w F (nth .undef es.flatten j) v):
 Conc C B F0 w0 F (at_ loc d (b,c) t) (st.put dst (.arr d) [(d,.arr s es false)]) (a.put dst (.slice (some ⟨b,0,none⟩) es.length c)) w':=by
 obtain⟨a3,a4⟩:=qN hd;have hw:∀b,F b→w'.heap[b]? =w.heap[b]? :=fun b hb=>hbel.block b (h.bound b hb)
 have a8:=hbel.size;have a7:Le st.objs (upd st.objs d (.arr s es false)) loc (at_ loc d (b,c) t):=by
  refine⟨rfl,fun k hk=>by
   have:k≠d:=fun e=>by subst e;exact absurd a3 hk
   simp[at_,this],fun k hk=>?_,fun k o' hk hc hbx=>?_,fun k s a5 a6 hk hc=>?_⟩
  ·by_cases hkd:d=k
   ·subst hkd;exact absurd a3 hk
   ·rw[qe _ _ _ hkd];exact hk
  ·by_cases hkd:d=k
   ·subst hkd;exact absurd a3 hk
   ·rw[qe _ _ _ hkd]at hc;exact⟨by rw[hc];exact hbx,by simp[at_,bs hkd]⟩
  ·by_cases hkd:d=k
   ·subst hkd;exact absurd a3 hk
   ·rw[qe _ _ _ hkd]at hc;exact⟨⟨_,_,hc,rfl⟩,by simp[at_,bs hkd]⟩
 refine h.step (up:=[(d,.arr s es false)]) (fun _ h=>h) hw a7 (h.below.trans (.of hbel h.hB)) (by have:=h.hB;omega) (fun k=>?_) ?_ ?_ (fun b hb=>by have:=h.bound b hb;omega) h.fsub ?_ ?_
 ·show CO _ (upd st.objs d (.arr s es false)) _ _ _ (nth .none (upd st.objs d (.arr s es false)) k);by_cases hk:d=k
  ·subst hk;rw[qg _ _ _ a4];refine⟨hroom,hs0,hlen,.inr ⟨b,c,cs,t,by simp[at_],fun hF=>?_,hblk,hsz,hlc,fun j hj=>?_,?_,by simp[at_]⟩⟩
   ·have:=h.bound b hF;omega
   ·obtain⟨v,q1,q2⟩:=hcd j hj;exact⟨v,q1,q2 _ _⟩
   ·show loc.P.cellsOf t=s;rw[h.prog];exact ht
  ·rw[qe _ _ _ hk];refine CO.le (fun _ h=>h) hw a7 (by simp[at_,bs hk]) (by simp[at_,bs hk]) (fun b c hb=>⟨hbel.block b (h.fresh _ _ _ hb).2,fun h=>h⟩) (h.objs k)
 ·intro k k' b' c1 c2 h1 h2;have hf:=h.fresh;simp only[at_]at h1 h2;split at h1<;>split at h2
  ·rw[‹k=d›,‹k'=d›]
  ·simp only[bv,bw]at h1;have:=hf _ _ _ h2;omega
  ·simp only[bv,bw]at h2;have:=hf _ _ _ h1;omega
  ·exact h.inj _ _ _ _ _ h1 h2
 ·intro k b' c1 h1;simp only[at_]at h1;split at h1
  ·simp only[bv,bw]at h1;have:=h.hB;exact⟨.inl (by omega),by omega⟩
  ·have:=h.fresh _ _ _ h1;exact⟨this.1,by omega⟩
 ·intro s' a5 a6 hc;have hc:nth .none (upd st.objs d (.arr s es false)) d= .arr s' a5 a6:=hc;rw[qg _ _ _ a4]at hc;simp only[J8]at hc;obtain⟨rfl,rfl,rfl⟩:=hc;exact .inl ⟨b,c,by simp[at_],rfl⟩
 ·show nth .none (upd st.objs d (.arr s es false)) d≠ .none;rw[qg _ _ _ a4];simp
theorem Sv {f:Nat} {fn:Func} {own:List A→Option (Nat×List (List D))} (hf:C.P.funcs[f]? =some fn) (hb:fn.body≠none) (hn:fn.name≠ "runtime.NumGoroutine") (h:∀as s es,own as=some (s,es)→wk C f as s es):EffAt C f (Vk own):=by
 refine⟨fun{B F0 w0 F loc st a w dst args ts ty pos after g} hc=>?_,fun dst vs ob ob' hh hd=>?_,fun dst vs ob hv _=>?_⟩
 ·unfold Vk;split
  ·trivial
  ·rename_i d;split
   ·rename_i as us hd al;split
    ·rename_i s es ag;obtain⟨a6,a7⟩:=vj hc al (ku hc args.toList);obtain⟨F',ad,hF',hb'⟩:=hc.freezes a6 st.dirty;have a5:=a7 F' hF' hb';have a4:(args.toList.map a.eval).toArray=args.map a.eval:=by apply Aw;simp
     intro next Q hnx
     have a3:=h as s es ag w F' (args.toList.map a.eval) ad.bound ad.inv a5;rw[a4]at a3;refine zZ hf hb hn a3 fun e w' he=>?_
     obtain⟨a8,b,c,cs,t,rfl,h1,h2,h3,h4,h5,h6,h7,h8,h9,h10⟩:=he;refine⟨_,rfl,hnx _ _ ⟨F',at_ loc d (b,c) t,?_⟩⟩;have h11:=ad.adoptNew (dst:=some d) (zW a6 hd) a8 h1 h2 h3 h4 h5 h6 h7 h8 h9 h10;have:upds st.objs (us++[(d,.arr s es false)])=upds (upds st.objs us) [(d,.arr s es false)]:=xQ _ _ _;have hst:(st.put (some d) (.arr d) (us++[(d,.arr s es false)])).objs=upds (upds st.objs us) [(d,.arr s es false)]:=this;have h12:=h11.redirty (dt:=(st.put (some d) (.arr d) (us++[(d,.arr s es false)])).dirty);have e:(st.put (some d) (.arr d) (us++[(d,.arr s es false)]))=⟨upd st.tmps d (.arr d),upds (upds st.objs us) [(d,.arr s es false)],(st.put (some d) (.arr d) (us++[(d,.arr s es false)])).dirty⟩:=by rw[←hst];rfl
     rw[e];exact h12
    ·trivial
   ·trivial
 ·unfold Vk;cases dst with
  |none=>rfl
  |some d=>
   have h1:wa ob vs=wa ob' vs:=j9 (c:=2) fun v hv k hk=> .inl (hh k (by
    rw[qE];exact⟨k,M2.2 ⟨v,hv,hk⟩,.inl rfl⟩))
   simp only[h1];rw[hd d (.inl rfl)]
 ·unfold Vk;split
  ·trivial
  ·rename_i d;split
   ·rename_i as us hd al;split
    ·rename_i s es _;have a6:=ww al;refine⟨fun p hp=>?_,fun k hk=>?_⟩
     ·rcases Pl.1 hp with hp|hp
      ·obtain⟨⟨v,hv1,hv2⟩,s',es',fz,h1,h2⟩:=a6 p hp;refine⟨.inr ⟨?_,by rw[h1];simp⟩,by rw[h2];simp,fun u hu=>by rw[h2]at hu;simp[qW]at hu⟩;rw[qE];exact⟨p.1,M2.2 ⟨v,hv1,hv2⟩,.inl rfl⟩
      ·simp only[M3]at hp;subst hp;exact⟨.inl ⟨.inl rfl,hd⟩,by simp,fun u hu=>by simp[qW]at hu⟩
     ·simp only[qn,M3]at hk;subst hk;exact .inr ⟨hd,_,P1 _ (M3.2 rfl)⟩
    ·trivial
   ·trivial
end
end Eng
end
section
namespace Eng
open Go Go.RowKit
structure LentOk (P:Program) (w:World) (F:Nat→Prop) (g c:Nat) (cs:Array Value) (t:TypeId) (s:Nat) (es:List (List D)):Prop where
 nF:¬F g
 lt:g<w.heap.size
 blk:w.heap[g]? =some (.cells cs t (0,0))
 sz:cs.size=c*s
 lc:es.length≤c∧c≤9223372036854775807
 room:Eng.roomS s es.length
 s0:0<s
 lens:∀e∈es,e.length=s
 ct:P.cellsOf t=s
 cd:∀j,j<es.length*s→∃v,cs[j]? =some v∧CD w F (nth .undef es.flatten j) v
def Hr (g c:Nat):Option (Nat×List (List D))→List Value
 |none=>[]
 |some (_,es)=>[.slice (some ⟨g,0,none⟩) es.length c]
def E8 (g:Nat):Option (Nat×List (List D))→Nat→Prop
 |none,_=>False
 |some _,b=>b=g
def Vl (C:Cx) (f:Nat) (pre:List A) (lent:Option (Nat×List (List D))) (post:List A) (s:Nat) (es:List (List D)):Prop:=
 ∀(w:World) (F:Nat→Prop) (vs1 vs2:List Value) (g c0:Nat) (cs0:Array Value) (t0:TypeId),(∀b,F b→b<w.heap.size)→Inv C F w→All2 (CA w F) pre vs1→All2 (CA w F) post vs2→
  (∀s0 es0,lent=some (s0,es0)→LentOk C.P w F g c0 cs0 t0 s0 es0)→
  Calls C.P f (vs1++(Hr g c0 lent++vs2)).toArray w fun e w'=>BelowX ⟨w.heap.size,E8 g lent⟩ w w'∧
   ∃(F':Nat→Prop) (b c:Nat) (cs:Array Value) (t:TypeId),e= .returned (.slice (some ⟨b,0,none⟩) es.length c)∧(∀x,F x→F' x)∧(∀x,F' x→x<w'.heap.size∧(F x∨Own ⟨w.heap.size,E8 g lent⟩ x))∧
    Own ⟨w.heap.size,E8 g lent⟩ b∧LentOk C.P w' F' b c cs t s es
def ZZ (n:Nat):Nat:=n+7
def Hs (n:Nat) (pre:List A) (lent:Option (Nat×List (List D))) (post:List A):St:=
 match lent with
 |none=>vS n (pre++post)
 |some (s,es)=>⟨pre.map Ie++(.arr (ZZ n)::(post.map Ie++No (n-(pre.length+(1+post.length))) .any)),upd (No (n+8) .none) (ZZ n) (.arr s es false),[]⟩
section
variable {C:Cx}
theorem Ht {n:Nat} {pre post:List A} {lent:Option (Nat×List (List D))} {vs1 vs2:List Value} {w:World} {F:Nat→Prop} {g c0:Nat} {cs0:Array Value} {t0:TypeId} (hb:∀b,F b→b<w.heap.size) (hinv:Inv C F w) (h1:All2 (CA w F) pre vs1) (h2:All2 (CA w F) post vs2)
 (hl:∀s0 es0,lent=some (s0,es0)→LentOk C.P w F g c0 cs0 t0 s0 es0):
 J9 C ⟨w.heap.size,E8 g lent⟩ F w (Hs n pre lent post) {tmps:=(vs1++(Hr g c0 lent++vs2)).toArray++Hx (n-(vs1++(Hr g c0 lent++vs2)).toArray.size) undef,defers:=[]} w:=by
 cases lent with
 |none=>have h:=Xh (n:=n) hb hinv (All2.append h1 h2);exact h
 |some se=>
  obtain⟨s,es⟩:=se;have hL:=hl s es rfl;have hl1:=h1.length;have hl2:=h2.length;have hkl:ZZ n<(No (n+8) J7).length:=by simp[ZZ]
  have hn:∀k,nth .none (upd (No (n+8) J7) (ZZ n) (.arr s es false)) k=if k=ZZ n then .arr s es false else .none:=fun k=>by
   by_cases hk:ZZ n=k
   ·subst hk;rw[qg _ _ _ hkl,if_pos rfl]
   ·rw[qe _ _ _ hk,Kn,if_neg (bs hk)]
  refine⟨F,⟨C.P,fun k=>if k=ZZ n then some (g,c0)else none,fun _=>t0⟩,⟨rfl,BelowX.refl _ _,bm _,rfl,?_,fun v hv=>?_,fun k=>?_,?_,?_,hb,fun b h=> .inl h,fun _ h=>h,hinv⟩⟩
  ·simp only[Hs,Hr,Hv,Hu,U0,List.append_assoc,W1,List.nil_append];refine yQ (XZ h1) ⟨?_,yQ (XZ h2) ?_⟩
   ·intro s' es' fz' hc;rw[hn,if_pos rfl]at hc;simp only[J8]at hc;obtain⟨rfl,rfl,rfl⟩:=hc;exact .inl ⟨g,c0,by simp,rfl⟩
   ·have e:(vs1++M0 (some ⟨g,0,none⟩) es.length c0::vs2).length=pre.length+(1+post.length):=by simp only[List.length_append,U3];omega
    rw[e];exact Xg trivial _
  ·simp only[Hs,Pl,Ts,T1,W0]at hv;rcases hv with⟨x,_,rfl⟩|rfl|⟨x,_,rfl⟩|⟨_,rfl⟩
   ·exact Xf x
   ·intro hc;have hc:nth J7 (upd (No (n+8) J7) (ZZ n) (.arr s es false)) (ZZ n)=J7:=hc;rw[hn,if_pos rfl]at hc;simp at hc
   ·exact Xf x
   ·trivial
  ·simp only[Hs];rw[hn];split
   ·rename_i e;exact⟨hL.room,hL.s0,hL.lens,.inr ⟨g,c0,cs0,t0,by simp[e],hL.nF,hL.blk,hL.sz,hL.lc,hL.cd,hL.ct,rfl⟩⟩
   ·rename_i e;show(if k=ZZ n then some (g,c0)else none)=none;rw[if_neg e]
  ·intro k k' b c c' q1 q2;simp only at q1 q2;split at q1
   ·split at q2
    ·rename_i e1 e2;rw[e1,e2]
    ·simp at q2
   ·simp at q1
  ·intro k b c q1;simp only at q1;split at q1
   ·simp only[bv,bw]at q1;obtain⟨rfl,rfl⟩:=q1;exact⟨.inr rfl,hL.lt⟩
   ·simp at q1
def iD (st:St) (rs:List ResultVar):Option (Nat×List (List D)):=
 match rs with
 |[.tmp t]=>match nth .any st.tmps t with
  | .arr k=>match nth .none st.objs k with
   | .arr s es false=>some (s,es)
   |_=>none
  | .sub k 0 n=>match nth .none st.objs k with
   | .arr s es false=>some (s,es.take n)
   |_=>none
  |_=>none
 |_=>none
theorem E9 {fn:Func} {w:World} {B:Bd} {F:Nat→Prop} {s':St} {a':Act} {w':World} {s:Nat} {es:List (List D)} (hh:J9 C B F w s' a' w') (has:iD s' fn.results.toList=some (s,es)) (hne:es≠[]):
 a'.defers=[]∧∃v,(results fn a'.tmps).run C.P w'= .ok v w'∧BelowX B w w'∧∃(F':Nat→Prop) (b c:Nat) (cs:Array Value) (t:TypeId),Ls v= .returned (.slice (some ⟨b,0,none⟩) es.length c)∧(∀x,F x→F' x)∧(∀x,F' x→x<w'.heap.size∧(F x∨Own B x))∧
  Own B b∧LentOk C.P w' F' b c cs t s es:=by
 obtain⟨F',loc',h⟩:=hh;have a7:∀(t:Nat) (x:Value),fn.results.toList=[.tmp t]→nth undef a'.tmps.toList t=x→(results fn a'.tmps).run C.P w'= .ok x w':=fun t x ag hx=>by
  have hr:fn.results= #[.tmp t]:=by apply Aw;simpa using ag
  unfold results;rw[hr];have hv':a'.tmps[t]?.getD undef=x:=by rw[←hx,qI];simp
  simp[hv']
 unfold iD at has;split at has
 ·rename_i t ag;have hx:=(Qv h t).1;simp only[Act.eval]at hx;have b1:∀x,a'.tmps.getD t undef=x→nth undef a'.tmps.toList t=x:=fun x e=>by rw[←e,qI];simp
  split at has
  ·rename_i k hk;split at has
   ·rename_i s0 a4 ad;simp only[bv,bw]at has;obtain⟨rfl,rfl⟩:=has;rw[hk]at hx;have a5:=h.objs k;rw[ad]at a5;obtain⟨a3,ap,a6,a5⟩:=a5;rcases hx _ _ _ ad with⟨b,c,hl,hv⟩|⟨_,h0,_⟩
    ·rcases a5 with⟨h4,_⟩|⟨b',c',cs,t',h4,h5,h6,h7,h8,h9,al,h11⟩
     ·rw[h4]at hl;simp at hl
     ·rw[h4]at hl;simp only[bv,bw]at hl;obtain⟨rfl,rfl⟩:=hl;have a8:=h.fresh _ _ _ h4;refine⟨h.defers,_,a7 t _ ag (b1 _ (by simpa using hv)),h.below,F',b',c',cs,t',rfl,h.fsup,fun x hx=>⟨h.bound x hx,h.fsub x hx⟩,a8.1,⟨by simpa using h5,a8.2,h6,h7,h8,a3,ap,a6,by rw[←h.prog];exact al,h9⟩⟩
    ·exact absurd h0 hne
   ·simp at has
  ·rename_i k n hk;split at has
   ·rename_i s0 a4 ad;simp only[bv,bw]at has;obtain⟨rfl,rfl⟩:=has;rw[hk]at hx;have a5:=h.objs k;rw[ad]at a5;obtain⟨a3,ap,a6,a5⟩:=a5;obtain⟨b,c,hl,hnl,hv⟩:=(hx _ _ _ ad).resolve_right (by
     rintro(⟨_,_,h0,_⟩|⟨_,h0,_⟩)
     ·rw[h0]at hne;simp at hne
     ·omega)
    rcases a5 with⟨h4,_⟩|⟨b',c',cs,t',h4,h5,h6,h7,h8,h9,al,h11⟩
    ·rw[h4]at hl;simp at hl
    ·rw[h4]at hl;simp only[bv,bw]at hl;obtain⟨rfl,rfl⟩:=hl;have a8:=h.fresh _ _ _ h4;have an:(a4.take n).length=n:=by rw[List.length_take];omega
     refine⟨h.defers,_,a7 t _ ag (b1 _ (by simpa using hv)),h.below,F',b',c',cs,t',by rw[an],h.fsup,fun x hx=>⟨h.bound x hx,h.fsub x hx⟩,a8.1,
      ⟨by simpa using h5,a8.2,h6,h7,by omega,a3.le (by omega),ap,fun e he=>a6 e (W2 he),by rw[←h.prog];exact al,fun j hj=>?_⟩⟩
     rw[an]at hj;have hj2:j<a4.length*s0:=bd hj (Nat.mul_le_mul_right s0 (by omega));obtain⟨v,r1,r2⟩:=h9 j hj2;refine⟨v,r1,?_⟩;have hfl:(a4.take n).flatten.length=n*s0:=by rw[qp (fun e' he'=>a6 e' (W2 he')),an]
     have hsp:a4.flatten=(a4.take n).flatten++(a4.drop n).flatten:=by rw[←List.flatten_append,List.take_append_drop]
     have:nth .undef (a4.take n).flatten j=nth .undef a4.flatten j:=by rw[hsp,qI,qI,List.getElem?_append_left (by omega)]
     rw[this];exact r2
   ·simp at has
  ·simp at has
 ·simp at has
variable {B:Bd} {F0:Nat→Prop} {w0:World} {F:Nat→Prop} {loc:Where} {st:St} {a:Act} {w:World}
theorem Conc.adoptC {dst:Option Nat} {d s b c:Nat} {es:List (List D)} {cs:Array Value} {t:TypeId} {w':World} {F' X:Nat→Prop} {dead:List (Nat×Obj)} (h:Conc C B F0 w0 F loc st a w) (hd:qA st.objs d=true)
 (hdead:∀p∈dead,p.2= .dead∧p.1<st.objs.length∧nth .none st.objs p.1≠ .none) (hX:∀x,X x→¬F x∧∃p∈dead,∃c,loc p.1=some (x,c))
 (hbel:BelowX ⟨w.heap.size,X⟩ w w') (hF1:∀x,F x→F' x) (hF2:∀x,F' x→x<w'.heap.size∧(F x∨Own ⟨w.heap.size,X⟩ x)) (hb1:Own ⟨w.heap.size,X⟩ b) (hL:LentOk C.P w' F' b c cs t s es) (_hne:es≠[]):
 J9 C B F0 w0 (st.put dst (.arr d) (dead++[(d,.arr s es false)])) (a.put dst (.slice (some ⟨b,0,none⟩) es.length c)) w':=by
 obtain⟨a3,hlt⟩:=qN hd;have a8:=hbel.size;have hnd:=fun k=>jd dead st.objs k fun p hp=>⟨(hdead p hp).1,(hdead p hp).2.1⟩
 have hdd:¬∃p∈dead,p.1=d:=fun⟨p,hp,e⟩=>(hdead p hp).2.2 (by rw[e];exact a3)
 have hn:∀k,nth .none (upds st.objs (dead++[(d,.arr s es false)])) k=if k=d then .arr s es false else if(∃p∈dead,p.1=k)then .dead else nth .none st.objs k:=fun k=>by
  rw[xQ];show nth .none (upd (upds st.objs dead) d (.arr s es false)) k=_;by_cases hk:d=k
  ·subst hk;rw[qg _ _ _ (by rw[kv];exact hlt),if_pos rfl]
  ·rw[qe _ _ _ hk,if_neg (bs hk),hnd]
 have a5:∀x,Own ⟨w.heap.size,X⟩ x→Own B x:=fun x hx=>by
  rcases hx with hx|hx
  ·exact .inl (bh h.hB hx)
  ·obtain⟨_,p,_,c,hl⟩:=hX x hx;exact(h.fresh _ _ _ hl).1
 have ad:∀x,F x→w'.heap[x]? =w.heap[x]? :=fun x hx=>hbel.block x (h.bound x hx) fun hX'=>(hX x hX').1 hx
 open Classical in
 let loc':Where:=⟨loc.P,fun k=>if k=d then some (b,c)else if(∃p∈dead,p.1=k)then none else loc k,fun k=>if k=d then t else loc.ty k⟩
 have a6:∀k x y,loc' k=some (x,y)→(k=d∧x=b∧y=c)∨(k≠d∧(¬∃p∈dead,p.1=k)∧loc k=some (x,y)):=fun k x y hl=>by
  simp only[loc']at hl;split at hl
  ·simp only[bv,bw]at hl;exact .inl ⟨‹_›,hl.1.symm,hl.2.symm⟩
  ·split at hl
   ·simp at hl
   ·exact .inr ⟨‹_›,‹_›,hl⟩
 have a4:∀k x y,(¬∃p∈dead,p.1=k)→loc k=some (x,y)→¬X x:=fun k x y hk hl hx=>by obtain⟨_,p,hp,c',hl2⟩:=hX x hx;exact hk ⟨p,hp,h.inj _ _ _ _ _ hl2 hl⟩
 have a7:Le st.objs (upds st.objs (dead++[(d,.arr s es false)])) loc loc':=by
  refine⟨rfl,fun k hk=>by
   have:k≠d:=fun e=>by subst e;exact absurd a3 hk
   simp[loc',this],fun k hk=>?_,fun k o' hk hc hbx=>?_,fun k s' es' fz' hk hc=>?_⟩
  ·have:k≠d:=fun e=>by subst e;exact absurd a3 hk
   rw[hn,if_neg this];split
   ·simp
   ·exact hk
  ·have:k≠d:=fun e=>by subst e;exact absurd a3 hk
   rw[hn,if_neg this]at hc;split at hc
   ·rw[←hc]at hbx;simp[zx]at hbx
   ·rename_i e;exact⟨by rw[hc];exact hbx,by simp only[loc'];rw[if_neg this,if_neg e]⟩
  ·have:k≠d:=fun e=>by subst e;exact absurd a3 hk
   rw[hn,if_neg this]at hc;split at hc
   ·simp at hc
   ·rename_i e;exact⟨⟨_,_,hc,rfl⟩,by simp only[loc'];rw[if_neg this,if_neg e]⟩
 have hbw:BelowX B w w':=⟨hbel.os,hbel.tape,hbel.output,hbel.size,fun j hj hjX=>hbel.block j (bd hj h.hB) fun hx=>by
  rcases a5 j (.inr hx)with h1|h1
  ·omega
  ·exact hjX h1⟩
 refine⟨F',loc',h.step hF1 ad a7 (h.below.trans hbw) (by have:=h.hB;omega) (fun k=>?_) ?_ ?_ (fun x hx=>(hF2 x hx).1) (fun x hx=>?_) ?_ ?_⟩
 ·rw[hn];split
  ·rename_i e;exact⟨hL.room,hL.s0,hL.lens,.inr ⟨b,c,cs,t,by simp[loc',e],hL.nF,hL.blk,hL.sz,hL.lc,hL.cd,by show loc.P.cellsOf t=s;rw[h.prog];exact hL.ct,by simp[loc',e]⟩⟩
  ·rename_i e1;split
   ·rename_i e2;show loc' k=none;simp only[loc'];rw[if_neg e1,if_pos e2]
   ·rename_i e2;refine CO.le hF1 ad a7 (by simp only[loc'];rw[if_neg e1,if_neg e2]) (by simp only[loc'];rw[if_neg e1]) (fun x y hl=>?_) (h.objs k);have hf:=(h.fresh _ _ _ hl).2;have hx:=a4 _ _ _ e2 hl;refine⟨hbel.block x hf hx,fun hnF hF'=>?_⟩;rcases(hF2 x hF').2 with h1|h1|h1
    ·exact hnF h1
    ·have h1:w.heap.size≤x:=h1;omega
    ·exact hx h1
 ·intro k k' x y y' q1 q2;rcases a6 _ _ _ q1 with⟨r1,r2,r3⟩|⟨r1,r2,r3⟩<;>rcases a6 _ _ _ q2 with⟨u1,u2,u3⟩|⟨u1,u2,u3⟩
  ·rw[r1,u1]
  ·subst r2;exfalso;rcases hb1 with hb1|hb1
   ·have hb1:w.heap.size≤x:=hb1;have:=(h.fresh _ _ _ u3).2;omega
   ·exact a4 _ _ _ u2 u3 hb1
  ·subst u2;exfalso;rcases hb1 with hb1|hb1
   ·have hb1:w.heap.size≤x:=hb1;have:=(h.fresh _ _ _ r3).2;omega
   ·exact a4 _ _ _ r2 r3 hb1
  ·exact h.inj _ _ _ _ _ r3 u3
 ·intro k x y q1;rcases a6 _ _ _ q1 with⟨r1,r2,r3⟩|⟨r1,r2,r3⟩
  ·subst r2;exact⟨a5 _ hb1,hL.lt⟩
  ·have:=h.fresh _ _ _ r3;exact⟨this.1,by omega⟩
 ·rcases(hF2 x hx).2 with h1|h1
  ·exact h.fsub x h1
  ·exact .inr (a5 x h1)
 ·intro s' es' fz' hc;rw[hn,if_pos rfl]at hc;simp only[J8]at hc;obtain⟨rfl,rfl,rfl⟩:=hc;exact .inl ⟨b,c,by simp[loc'],rfl⟩
 ·show nth .none (upds st.objs _) d≠ .none;rw[hn,if_pos rfl];simp
end
end Eng
end
section
namespace Eng
open Go Go.RowKit
def Sw (chk:List A→Bool) (s:Nat) (mk:List A→List (List D)) (dst:Option Nat) (vs:List V) (ob:List Obj):R:=
 match dst with
 |none=> .fail
 |some d=>match qA ob d,wa ob vs with
  |true,some (al,us)=> .cond (chk al=true) (.arr d) (us++[(d,.arr s (mk al) false)])
  |_,_=> .fail
def TN:List (Nat×Obj)→List Nat
 |[]=>[]
 |p::r=>p.1::TN r
def Sx (s:Nat) (chk:List (List D)→List A→Bool) (mk:List (List D)→List A→List (List D)) (dst:Option Nat) (vs:List V) (ob:List Obj):R:=
 match dst with
 |none=> .fail
 |some d=>match vs with
  | .arr k::r=>match qA ob d,nth .none ob k,wa ob r with
   |true,.arr s0 es false,some (al,us)=>match be s0 s&&!XR k (TN us)with
    |true=> .cond (chk es al=true) (.arr d) (us++[(k,.dead),(d,.arr s (mk es al) false)])
    |false=> .fail
   |_,_,_=> .fail
  |_=> .fail
theorem Xi {k:Nat}:∀{us:List (Nat×Obj)},k∈TN us↔∃p∈us,p.1=k
 |[]=>by simp[TN]
 |p::r=>by
  simp only[TN,Ts];rw[Xi];constructor
  ·rintro(rfl|⟨q,hq,rfl⟩)
   ·exact⟨p,.inl rfl,rfl⟩
   ·exact⟨q,.inr hq,rfl⟩
  ·rintro⟨q,rfl|hq,rfl⟩
   ·exact .inl rfl
   ·exact .inr ⟨q,hq,rfl⟩
section
variable {C:Cx}
theorem EA {f s:Nat} {fn:Func} {chk:List A→Bool} {mk:List A→List (List D)} (hf:C.P.funcs[f]? =some fn) (hb:fn.body≠none) (hn:fn.name≠ "runtime.NumGoroutine") (hmk:∀al,chk al=true→mk al≠[]∧Vl C f al none [] s (mk al)):EffAt C f (Sw chk s mk):=by
 refine⟨fun{B F0 w0 F loc st a w dst args ts ty pos after g} hc=>?_,fun dst vs ob ob' hh hd=>?_,fun dst vs ob hv _=>?_⟩
 ·unfold Sw;split
  ·trivial
  ·rename_i d;split
   ·rename_i al us hd ag;obtain⟨a6,a7⟩:=vj hc ag (ku hc args.toList);obtain⟨F',ad,hF',hb'⟩:=hc.freezes a6 st.dirty;have a5:=a7 F' hF' hb';intro hck next Q hnx
    obtain⟨hne,hG⟩:=hmk al hck;have a3:=hG w F' (args.toList.map a.eval) [] 0 0 #[] 0 ad.bound ad.inv a5 trivial (fun s0 es0 h=>by simp at h);have a4:(args.toList.map a.eval++(Hr 0 0 none++[])).toArray=args.map a.eval:=by apply Aw;simp[Hr]
    rw[a4]at a3;refine zZ hf hb hn a3 fun e w' he=>?_
    obtain⟨a8,F2,b,c,cs,t,rfl,h1,h2,h3,h4⟩:=he;refine⟨_,rfl,hnx _ _ ?_⟩;have h5:=ad.adoptC (dst:=some d) (d:=d) (dead:=[]) (zW a6 hd) (fun p hp=>by simp at hp) (fun x hx=>hx.elim) a8 h1 h2 h3 h4 hne;refine xt h5 rfl ?_;show upds (upds st.objs us) ([]++[(d,.arr s (mk al) false)])=upds st.objs (us++[(d,.arr s (mk al) false)]);rw[xQ us];rfl
   ·trivial
 ·unfold Sw;cases dst with
  |none=>rfl
  |some d=>
   have h1:wa ob vs=wa ob' vs:=j9 (c:=2) fun v hv k hk=> .inl (hh k (by
    rw[qE];exact⟨k,M2.2 ⟨v,hv,hk⟩,.inl rfl⟩))
   simp only[h1];rw[hd d (.inl rfl)]
 ·unfold Sw;split
  ·trivial
  ·rename_i d;split
   ·rename_i al us hd ag;have a6:=ww ag;refine⟨fun p hp=>?_,fun k hk=>?_⟩
    ·rcases Pl.1 hp with hp|hp
     ·obtain⟨⟨v,hv1,hv2⟩,s',es',fz,h1,h2⟩:=a6 p hp;refine⟨.inr ⟨?_,by rw[h1];simp⟩,by rw[h2];simp,fun u hu=>by rw[h2]at hu;simp[qW]at hu⟩;rw[qE];exact⟨p.1,M2.2 ⟨v,hv1,hv2⟩,.inl rfl⟩
     ·simp only[M3]at hp;subst hp;exact⟨.inl ⟨.inl rfl,hd⟩,by simp,fun u hu=>by simp[qW]at hu⟩
    ·simp only[qn,M3]at hk;subst hk;exact .inr ⟨hd,_,P1 _ (M3.2 rfl)⟩
   ·trivial
theorem EB {f s:Nat} {fn:Func} {chk:List (List D)→List A→Bool} {mk:List (List D)→List A→List (List D)} (hf:C.P.funcs[f]? =some fn) (hb:fn.body≠none) (hn:fn.name≠ "runtime.NumGoroutine")
 (hmk:∀es al,chk es al=true→es≠[]∧mk es al≠[]∧Vl C f [] (some (s,es)) al s (mk es al)):EffAt C f (Sx s chk mk):=by
 refine⟨fun{B F0 w0 F loc st a w dst args ts ty pos after g} hc=>?_,fun dst vs ob ob' hh hd=>?_,fun dst vs ob hv _=>?_⟩
 ·unfold Sx;split
  ·trivial
  ·rename_i d;split
   ·rename_i k r a7;split
    ·rename_i s0 es al us hd hk b4;split
     ·rename_i ad;simp only[Hy,I0]at ad;obtain rfl:=bc ad.1;have hku:¬∃p∈us,p.1=k:=fun h=>by have:=ze.2 (Xi.2 h);rw[this]at ad;simp at ad
      intro hck next Q hnx
      obtain⟨hne,b3,hG⟩:=hmk es al hck;obtain⟨x0,xs,b6⟩:∃x0 xs,args.toList=x0::xs:=by
       cases h:args.toList with
       |nil=>rw[h]at a7;simp at a7
       |cons x0 xs=>exact⟨x0,xs,rfl⟩
      rw[b6]at a7;simp only[V1,bb]at a7;obtain⟨hx0,rfl⟩:=a7;obtain⟨a8,ag⟩:=vj hc b4 (ku hc xs);obtain⟨F',a6,hF',hb'⟩:=hc.freezes a8 st.dirty;have a5:=ag F' hF' hb';have b5:=(qZ hc x0).1;rw[hx0]at b5;have b2:nth .none (upds st.objs us) k= .arr s0 es false:=by rw[zX _ _ fun p hp e=>hku ⟨p,hp,e⟩];exact hk
      have ap:=a6.objs k;simp only at ap;rw[b2]at ap;obtain⟨q1,q2,q3,q4⟩:=ap;rcases q4 with⟨_,q5⟩|⟨gb,c0,cs0,t0,q5,q6,q7,q8,q9,q10,q11,q12⟩
      ·exact absurd q5 hne
      ·rcases b5 _ _ _ hk with⟨b1,c1,r1,r2⟩|⟨r1,_⟩
       ·rw[q5]at r1;simp only[bv,bw]at r1;obtain⟨rfl,rfl⟩:=r1;have a3:=hG w F' [] (xs.map a.eval) gb c0 cs0 t0 a6.bound a6.inv trivial a5 (fun s1 es1 he=>by
         simp only[bv,bw]at he;obtain⟨rfl,rfl⟩:=he;exact⟨by simpa using q6,(a6.fresh _ _ _ q5).2,q7,q8,q9,q1,q2,q3,by rw[←hc.prog];exact q11,q10⟩)
        have a4:([]++(Hr gb c0 (some (s0,es))++xs.map a.eval)).toArray=args.map a.eval:=by apply Aw;rw[Dd,b6];simp[Hr,r2]
        rw[a4]at a3;refine zZ hf hb hn a3 fun e w' he=>?_
        obtain⟨an,F2,b,c,cs,t,rfl,h1,h2,h3,h4⟩:=he;refine⟨_,rfl,hnx _ _ ?_⟩;have hkl:k<(upds st.objs us).length:=xn (by rw[b2];simp);have h5:=a6.adoptC (dst:=some d) (d:=d) (dead:=[(k,.dead)]) (zW a8 hd) (fun p hp=>by
         simp only[M3]at hp;subst hp;exact⟨rfl,hkl,by rw[b2];simp⟩) (fun x hx=>by
         have hx:x=gb:=hx;subst hx;exact⟨by simpa using q6,(k,.dead),by simp,c0,q5⟩) an h1 h2 h3 h4 b3
        refine xt h5 rfl ?_;show upds (upds st.objs us) ([(k,.dead)]++[(d,.arr s0 (mk es al) false)])=upds st.objs (us++[(k,.dead),(d,.arr s0 (mk es al) false)]);rw[xQ us];rfl
       ·have h6:loc k=some (gb,c0):=q5;rw[h6]at r1;simp at r1
     ·trivial
    ·trivial
   ·trivial
 ·unfold Sx;cases dst with
  |none=>rfl
  |some d=>
   dsimp only
   cases vs with
   |nil=>rfl
   |cons v r=>
    cases v with
    |arr k=>
     have h0:nth .none ob k=nth .none ob' k:=hh k (by
      rw[qE];exact⟨k,M2.2 ⟨.arr k,by simp,by simp[qn]⟩,.inl rfl⟩)
     have h1:wa ob r=wa ob' r:=j9 (c:=2) fun v hv k hk=> .inl (hh k (by
      rw[qE];exact⟨k,M2.2 ⟨v,by simp[hv],hk⟩,.inl rfl⟩))
     simp only[h0,h1];rw[hd d (.inl rfl)]
    |_=>rfl
 ·unfold Sx;split
  ·trivial
  ·rename_i d;split
   ·rename_i k r;split
    ·rename_i s0 es al us hd hk b4;split
     ·have a8:=ww b4;refine⟨fun p hp=>?_,fun j hj=>?_⟩
      ·rcases Pl.1 hp with hp|hp
       ·obtain⟨⟨v,hv1,hv2⟩,s',es',fz,h1,h2⟩:=a8 p hp;refine⟨.inr ⟨?_,by rw[h1];simp⟩,by rw[h2];simp,fun u hu=>by rw[h2]at hu;simp[qW]at hu⟩;rw[qE];exact⟨p.1,M2.2 ⟨v,by simp[hv1],hv2⟩,.inl rfl⟩
       ·simp only[Ts,List.not_mem_nil,or_false]at hp;rcases hp with rfl|rfl
        ·refine⟨.inr ⟨?_,by rw[hk];simp⟩,by simp,fun u hu=>by simp[qW]at hu⟩;rw[qE];exact⟨k,M2.2 ⟨.arr k,by simp,by simp[qn]⟩,.inl rfl⟩
        ·exact⟨.inl ⟨.inl rfl,hd⟩,by simp,fun u hu=>by simp[qW]at hu⟩
      ·simp only[qn,M3]at hj;subst hj;exact .inr ⟨hd,_,P1 _ (ba _ (M3.2 rfl))⟩
     ·trivial
    ·trivial
   ·trivial
end
end Eng
end
section
namespace Eng
open Go Go.RowKit
def Nb (C:Cx) (f:Nat) (s:Nat) (es:List (List D)) (post:List A) (res:List A) (es':List (List D)):Prop:=
 ∀(w:World) (F:Nat→Prop) (vs2:List Value) (g c0:Nat) (cs0:Array Value) (t0:TypeId),(∀b,F b→b<w.heap.size)→Inv C F w→All2 (CA w F) post vs2→LentOk C.P w F g c0 cs0 t0 s es→
  Calls C.P f (.slice (some ⟨g,0,none⟩) es.length c0::vs2).toArray w fun e w'=>BelowX ⟨w.heap.size,fun b=>b=g⟩ w w'∧
   ∃(F':Nat→Prop) (cs:Array Value) (v:Value),e= .returned v∧(∀x,F x→F' x)∧(∀x,F' x→x<w'.heap.size∧(F x∨Own ⟨w.heap.size,fun b=>b=g⟩ x))∧Tg w' F' res v∧LentOk C.P w' F' g c0 cs t0 s es'∧es'.length=es.length
def WE (n s:Nat) (es:List (List D)) (post:List A) (g c t:Nat):St:=
 ⟨.arrAt (ZZ n) g c t::(post.map Ie++No (n-(1+post.length)) .any),upd (No (n+8) .none) (ZZ n) (.arr s es false),[]⟩
section
variable {C:Cx}
theorem Sy {n s g c0:Nat} {es:List (List D)} {post:List A} {vs2:List Value} {w:World} {F:Nat→Prop} {cs0:Array Value} {t0:TypeId} (hb:∀b,F b→b<w.heap.size) (hinv:Inv C F w) (h2:All2 (CA w F) post vs2) (hL:LentOk C.P w F g c0 cs0 t0 s es):
 J9 C ⟨w.heap.size,fun b=>b=g⟩ F w (WE n s es post g c0 t0) {tmps:=(M0 (some ⟨g,0,none⟩) es.length c0::vs2).toArray++Hx (n-(M0 (some ⟨g,0,none⟩) es.length c0::vs2).toArray.size) undef,defers:=[]} w:=by
 have hl2:=h2.length;have hkl:ZZ n<(No (n+8) J7).length:=by simp[ZZ]
 have hn:∀k,nth .none (upd (No (n+8) J7) (ZZ n) (.arr s es false)) k=if k=ZZ n then .arr s es false else .none:=fun k=>by
  by_cases hk:ZZ n=k
  ·subst hk;rw[qg _ _ _ hkl,if_pos rfl]
  ·rw[qe _ _ _ hk,Kn,if_neg (bs hk)]
 refine⟨F,⟨C.P,fun k=>if k=ZZ n then some (g,c0)else none,fun _=>t0⟩,⟨rfl,BelowX.refl _ _,bm _,rfl,?_,fun v hv=>?_,fun k=>?_,?_,?_,hb,fun b h=> .inl h,fun _ h=>h,hinv⟩⟩
 ·simp only[WE,Hv,Hu,U0,W1];refine⟨?_,yQ (XZ h2) ?_⟩
  ·intro s' es' fz' hc;rw[hn,if_pos rfl]at hc;simp only[J8]at hc;obtain⟨rfl,rfl,rfl⟩:=hc;exact⟨⟨by simp,rfl⟩,rfl⟩
  ·have e:(M0 (some ⟨g,0,none⟩) es.length c0::vs2).length=1+post.length:=by simp only[U3];omega
   rw[e];exact Xg trivial _
 ·simp only[WE,Pl,Ts,T1,W0]at hv;rcases hv with rfl|⟨x,_,rfl⟩|⟨_,rfl⟩
  ·intro hc;have hc:nth J7 (upd (No (n+8) J7) (ZZ n) (.arr s es false)) (ZZ n)=J7:=hc;rw[hn,if_pos rfl]at hc;simp at hc
  ·exact Xf x
  ·trivial
 ·simp only[WE];rw[hn];split
  ·rename_i e;exact⟨hL.room,hL.s0,hL.lens,.inr ⟨g,c0,cs0,t0,by simp[e],hL.nF,hL.blk,hL.sz,hL.lc,hL.cd,hL.ct,rfl⟩⟩
  ·rename_i e;show(if k=ZZ n then some (g,c0)else none)=none;rw[if_neg e]
 ·intro k k' b c c' q1 q2;simp only at q1 q2;split at q1
  ·split at q2
   ·rename_i e1 e2;rw[e1,e2]
   ·simp at q2
  ·simp at q1
 ·intro k b c q1;simp only at q1;split at q1
  ·simp only[bv,bw]at q1;obtain⟨rfl,rfl⟩:=q1;exact⟨.inr rfl,hL.lt⟩
  ·simp at q1
theorem Nc {F0:Nat→Prop} {w0:World} {B:Bd} {F:Nat→Prop} {loc:Where} {st:St} {a:Act} {w:World} (h:Conc C B F0 w0 F loc st a w) {fn:Func} {as:List A} (hr:resD C st fn.results.toList=some as) (hfl:∀r∈as,W7 r=true):
 a.defers=[]∧∃v,(results fn a.tmps).run C.P w= .ok v w∧∀F':Nat→Prop,Tg w F' as v:=by
 obtain⟨us,h1,h2⟩:=XY h hr;refine⟨h.defers,if h:us.toArray.size=1 then us.toArray[0]else .tuple us.toArray,?_,fun F'=>?_⟩
 ·unfold results;rw[Bx];simp only[Lv,map_eq_pure_bind];have h5:∀g:ResultVar→Sem Value,g=DI a.tmps→(fn.results.toList.mapM g).run C.P w= .ok us w:=fun g hg=>by rw[hg];exact h1
  rw[h5 _ (by funext r;cases r<;>rfl)];rfl
 ·match as,us,h2 with
  |[a],[u],h2=>exact JX h2.1 (hfl _ (by simp))
  |[],[],h2=>exact⟨#[],rfl,trivial⟩
  |a::b::r,u::v::s,h2=>exact⟨(u::v::s).toArray,by simp,h2.mono_mem fun r hr v hv=>JX hv (hfl r hr)⟩
variable {B:Bd} {F0:Nat→Prop} {w0:World} {F:Nat→Prop} {loc:Where} {st:St} {a:Act} {w:World}
theorem Conc.turned {dst:Option Nat} {k s g c0:Nat} {es es':List (List D)} {cs:Array Value} {t:TypeId} {w':World} {F':Nat→Prop} {v:V} {x:Value} {us:List (Nat×Obj)} (h:Conc C B F0 w0 F loc st a w) (hk:nth .none st.objs k= .arr s es false) (hl:loc k=some (g,c0)) (hnF:¬F g) (htk:loc.ty k=t)
 (hbel:BelowX ⟨w.heap.size,fun b=>b=g⟩ w w') (hF1:∀x,F x→F' x) (hF2:∀x,F' x→x<w'.heap.size∧(F x∨Own ⟨w.heap.size,fun b=>b=g⟩ x)) (hL:LentOk C.P w' F' g c0 cs t s es') (hlen:es'.length=es.length) (hus:us=[(k,.arr s es' false)])
 (hv:∀(loc:Where) (objs:List Obj),CV loc objs w' F' v x∧Ref objs v):J9 C B F0 w0 (st.put dst v us) (a.put dst x) w':=by
 subst hus;have hkl:k<st.objs.length:=xn (by rw[hk];simp);have a5:Le st.objs (upd st.objs k (.arr s es' false)) loc loc:=RO hk hlen;have a4:=hbel.size;have a6:∀x,F x→w'.heap[x]? =w.heap[x]? :=fun x hx=>hbel.block x (h.bound x hx) fun e=>by have e:x=g:=e;exact hnF (e▸hx)
 have hfr:=h.fresh _ _ _ hl;have a3:∀x,Own ⟨w.heap.size,fun b=>b=g⟩ x→Own B x:=fun x hx=>by
  rcases hx with hx|hx
  ·exact .inl (bh h.hB hx)
  ·have hx:x=g:=hx;rw[hx];exact hfr.1
 have hbw:BelowX B w w':=⟨hbel.os,hbel.tape,hbel.output,hbel.size,fun j hj hjX=>hbel.block j (bd hj h.hB) fun hx=>by
  rcases a3 j (.inr hx)with h1|h1
  ·omega
  ·exact hjX h1⟩
 refine⟨F',loc,h.step (up:=[(k,.arr s es' false)]) hF1 a6 a5 (h.below.trans hbw) (by have:=h.hB;omega) (fun j=>?_) h.inj (fun j x y hj=>⟨(h.fresh _ _ _ hj).1,bd (h.fresh _ _ _ hj).2 a4⟩) (fun x hx=>(hF2 x hx).1) (fun x hx=>?_) (hv _ _).1 (hv loc _).2⟩
 ·show CO _ (upd st.objs k (.arr s es' false)) _ _ _ (nth .none (upd st.objs k (.arr s es' false)) j);by_cases hkj:k=j
  ·subst hkj;rw[qg _ _ _ hkl];exact⟨hL.room,hL.s0,hL.lens,.inr ⟨g,c0,cs,t,hl,hL.nF,hL.blk,hL.sz,hL.lc,hL.cd,by rw[h.prog];exact hL.ct,htk⟩⟩
  ·rw[qe _ _ _ hkj];refine CO.le hF1 a6 a5 rfl rfl (fun x y hj=>?_) (h.objs j);have hx:x≠g:=fun e=>by subst e;exact hkj (h.inj _ _ _ _ _ hl hj)
   refine⟨hbel.block x (h.fresh _ _ _ hj).2 hx,fun hnF2 hF'=>?_⟩;rcases(hF2 x hF').2 with h1|h1|h1
   ·exact hnF2 h1
   ·have h1:w.heap.size≤x:=h1;have:=(h.fresh _ _ _ hj).2;omega
   ·exact hx h1
 ·rcases(hF2 x hx).2 with h1|h1
  ·exact h.fsub x h1
  ·exact .inr (a3 x h1)
end
end Eng
end
section
namespace Eng
open Go Go.RowKit
def S1 (s:Nat) (chk:List (List D)→List A→Bool) (mk:List (List D)→List A→List (List D)) (res:List (List D)→List A→List A) (_:Option Nat) (vs:List V) (ob:List Obj):R:=
 match vs with
 | .arr k::r=>match nth .none ob k,wa ob r with
  | .arr s0 es false,some (al,us)=>match be s0 s&&!XR k (TN us)with
   |true=> .cond (chk es al=true) (VX (res es al)) (us++[(k,.arr s (mk es al) false)])
   |false=> .fail
  |_,_=> .fail
 |_=> .fail
section
variable {C:Cx}
theorem EC {f s:Nat} {fn:Func} {chk:List (List D)→List A→Bool} {mk:List (List D)→List A→List (List D)} {res:List (List D)→List A→List A} (hf:C.P.funcs[f]? =some fn) (hb:fn.body≠none) (hn:fn.name≠ "runtime.NumGoroutine")
 (hmk:∀es al,chk es al=true→es≠[]∧Nb C f s es al (res es al) (mk es al)):EffAt C f (S1 s chk mk res):=by
 refine⟨fun{B F0 w0 F loc st a w dst args ts ty pos after g} hc=>?_,fun dst vs ob ob' hh hd=>?_,fun dst vs ob hv _=>?_⟩
 ·unfold S1;split
  ·rename_i k r a7;split
   ·rename_i s0 es al us hk b2;split
    ·rename_i a8;simp only[Hy,I0]at a8;obtain rfl:=bc a8.1;have hku:¬∃p∈us,p.1=k:=fun h=>by have:=ze.2 (Xi.2 h);rw[this]at a8;simp at a8
     intro hck next Q hnx
     obtain⟨hne,hG⟩:=hmk es al hck;obtain⟨x0,xs,b5⟩:∃x0 xs,args.toList=x0::xs:=by
      cases h:args.toList with
      |nil=>rw[h]at a7;simp at a7
      |cons x0 xs=>exact⟨x0,xs,rfl⟩
     rw[b5]at a7;simp only[V1,bb]at a7;obtain⟨hx0,rfl⟩:=a7;obtain⟨ap,ad⟩:=vj hc b2 (ku hc xs);obtain⟨F',a6,hF',hb'⟩:=hc.freezes ap st.dirty;have a5:=ad F' hF' hb';have b4:=(qZ hc x0).1;rw[hx0]at b4;have b3:nth .none (upds st.objs us) k= .arr s0 es false:=by rw[zX _ _ fun p hp e=>hku ⟨p,hp,e⟩];exact hk
     have an:=a6.objs k;simp only at an;rw[b3]at an;obtain⟨q1,q2,q3,q4⟩:=an;rcases q4 with⟨_,q5⟩|⟨gb,c0,cs0,t0,q5,q6,q7,q8,q9,q10,q11,q12⟩
     ·exact absurd q5 hne
     ·rcases b4 _ _ _ hk with⟨b1,c1,r1,r2⟩|⟨r1,_⟩
      ·rw[q5]at r1;simp only[bv,bw]at r1;obtain⟨rfl,rfl⟩:=r1;have a3:=hG w F' (xs.map a.eval) gb c0 cs0 t0 a6.bound a6.inv a5 ⟨by simpa using q6,(a6.fresh _ _ _ q5).2,q7,q8,q9,q1,q2,q3,by rw[←hc.prog];exact q11,q10⟩;have a4:(M0 (some ⟨gb,0,none⟩) es.length c0::xs.map a.eval).toArray=args.map a.eval:=by apply Aw;rw[Dd,b5];simp[r2]
       rw[a4]at a3;refine zZ hf hb hn a3 fun e w' he=>?_
       obtain⟨ag,F2,cs,v,rfl,h1,h2,h3,h4,h5⟩:=he;refine⟨_,rfl,hnx _ _ ?_⟩;have h6:=a6.turned (dst:=dst) (k:=k) (es':=mk es al) (v:=VX (res es al)) (x:=v) b3 q5 (by simpa using q6) q12 ag h1 h2 h4 h5 rfl (fun loc objs=>GZ h3);refine xt h6 rfl ?_;show upds (upds st.objs us) [(k,.arr s0 (mk es al) false)]=upds st.objs (us++[(k,.arr s0 (mk es al) false)]);rw[xQ us]
      ·have h6:loc k=some (gb,c0):=q5;rw[h6]at r1;simp at r1
    ·trivial
   ·trivial
  ·trivial
 ·unfold S1;cases vs with
  |nil=>rfl
  |cons v r=>
   cases v with
   |arr k=>
    have h0:nth .none ob k=nth .none ob' k:=hh k (by
     rw[qE];exact⟨k,M2.2 ⟨.arr k,by simp,by simp[qn]⟩,.inl rfl⟩)
    have h1:wa ob r=wa ob' r:=j9 (c:=2) fun v hv k hk=> .inl (hh k (by
     rw[qE];exact⟨k,M2.2 ⟨v,by simp[hv],hk⟩,.inl rfl⟩))
    simp only[h0,h1]
   |_=>rfl
 ·unfold S1;split
  ·rename_i k r;split
   ·rename_i s0 es al us hk b2;split
    ·have ap:=ww b2;refine⟨fun p hp=>?_,fun j hj=>by rw[yj]at hj;simp at hj⟩;rcases Pl.1 hp with hp|hp
     ·obtain⟨⟨v,hv1,hv2⟩,s',es',fz,h1,h2⟩:=ap p hp;refine⟨.inr ⟨?_,by rw[h1];simp⟩,by rw[h2];simp,fun u hu=>by rw[h2]at hu;simp[qW]at hu⟩;rw[qE];exact⟨p.1,M2.2 ⟨v,by simp[hv1],hv2⟩,.inl rfl⟩
     ·simp only[M3]at hp;subst hp;refine⟨.inr ⟨?_,by rw[hk];simp⟩,by simp,fun u hu=>by simp[qW]at hu⟩;rw[qE];exact⟨k,M2.2 ⟨.arr k,by simp,by simp[qn]⟩,.inl rfl⟩
    ·trivial
   ·trivial
  ·trivial
end
end Eng
end
section
namespace Eng
open Go Go.RowKit
def Hw (tab:Nat→List A→Option (List A)) (C:Cx) (lim n f:Nat) (pre:List A) (lent:Option (Nat×List (List D))) (post:List A):Option (Nat×List (List D)):=
 match C.P.funcs[f]? with
 |none=>none
 |some fn=>match fn.body with
  |none=>none
  |some c=>match jM (XO tab C lim n) C lim c (Hs fn.ntmps pre lent post)with
   |some (.normal,s)=>iD s fn.results.toList
   |some (.ret,s)=>iD s fn.results.toList
   |_=>none
def bk (C:Cx) (fn:Func) (st:St):Option (List A×List (List D)×Nat×Nat×Nat×Nat):=
 match resD C st fn.results.toList with
 |none=>none
 |some as=>match nth .any st.tmps 0 with
  | .arrAt k g c t=>match be k (ZZ fn.ntmps),nth .none st.objs (ZZ fn.ntmps)with
   |true,.arr s es false=>some (as,es,s,g,c,t)
   |_,_=>none
  |_=>none
def H0 (tab:Nat→List A→Option (List A)) (C:Cx) (lim n f s:Nat) (es:List (List D)) (post:List A) (g c t:Nat):Option (List A×List (List D)×Nat×Nat×Nat×Nat):=
 match C.P.funcs[f]? with
 |none=>none
 |some fn=>match fn.body with
  |none=>none
  |some b=>match jM (XO tab C lim n) C lim b (WE fn.ntmps s es post g c t)with
   |some (.normal,st)=>bk C fn st
   |some (.ret,st)=>bk C fn st
   |_=>none
section
variable {C:Cx}
theorem Nd [EffOk C] {tab:Nat→List A→Option (List A)} {lim:Nat} (hm:C.P.follows .mixedOrders=true) (htab:∀f as rs,tab f as=some rs→qc C f as rs) {n f s:Nat} {pre post:List A} {lent:Option (Nat×List (List D))} {es:List (List D)} (hne:es≠[])
 (h:Hw tab C lim n f pre lent post=some (s,es)):Vl C f pre lent post s es:=by
 unfold Hw at h;split at h
 ·simp at h
 rename_i fn hf;split at h
 ·simp at h
 rename_i c hc;have a6:∀(x:X) (s':St),(x= .normal∨x= .ret)→jM (XO tab C lim n) C lim c (Hs fn.ntmps pre lent post)=some (x,s')→iD s' fn.results.toList=some (s,es)→Vl C f pre lent post s es:=by
  intro x s' hx hr a4 w F vs1 vs2 g c0 cs0 t0 hb a3 h1 h2 hl;refine calls_of_wp hf hc (Lr (fun e a' w' hp=>?_) (Zb hm (fun f as rs h=>v3 hm htab n f as rs h) lim c _ s' x _ w hr (Ht hb a3 h1 h2 hl)));obtain⟨he,hh⟩:=hp;have a5:=E9 (fn:=fn) hh a4 hne;rcases hx with rfl|rfl
  ·have he:e= .normal:=he;subst he;exact a5
  ·have he:e= .ret:=he;subst he;exact a5
 split at h
 ·rename_i s' hr;exact a6 _ _ (.inl rfl) hr h
 ·rename_i s' hr;exact a6 _ _ (.inr rfl) hr h
 ·simp at h
theorem ED [EffOk C] {tab:Nat→List A→Option (List A)} {lim:Nat} (hm:C.P.follows .mixedOrders=true) (htab:∀f as rs,tab f as=some rs→qc C f as rs) {n f s:Nat} {es es':List (List D)} {post res:List A} (hfl:kz res=true) (hlen:be es'.length es.length=true)
 (h:∀g c t,H0 tab C lim n f s es post g c t=some (res,es',s,g,c,t)):Nb C f s es post res es':=by
 intro w F vs2 g c0 cs0 t0 hb a5 h2 hL;have h:=h g c0 t0;have hlen:=bc hlen;unfold H0 at h;split at h
 ·simp at h
 rename_i fn hf;split at h
 ·simp at h
 rename_i b hbd;have ag:∀(x:X) (s':St),(x= .normal∨x= .ret)→jM (XO tab C lim n) C lim b (WE fn.ntmps s es post g c0 t0)=some (x,s')→bk C fn s'=some (res,es',s,g,c0,t0)→
  Calls C.P f (.slice (some ⟨g,0,none⟩) es.length c0::vs2).toArray w fun e w'=>BelowX ⟨w.heap.size,fun b=>b=g⟩ w w'∧
  ∃(F':Nat→Prop) (cs:Array Value) (v:Value),e= .returned v∧(∀x,F x→F' x)∧(∀x,F' x→x<w'.heap.size∧(F x∨Own ⟨w.heap.size,fun b=>b=g⟩ x))∧Tg w' F' res v∧LentOk C.P w' F' g c0 cs t0 s es'∧es'.length=es.length:=by
  intro x s' hx hr a3;refine calls_of_wp hf hbd (Lr (fun e a' w' hp=>?_) (Zb hm (fun f as rs h=>v3 hm htab n f as rs h) lim b _ s' x _ w hr (Sy hb a5 h2 hL)));obtain⟨he,hh⟩:=hp;have a6:a'.defers=[]∧∃v,(results fn a'.tmps).run C.P w'= .ok v w'∧BelowX ⟨w.heap.size,fun b=>b=g⟩ w w'∧
   ∃(F':Nat→Prop) (cs:Array Value) (u:Value),Ls v= .returned u∧(∀x,F x→F' x)∧(∀x,F' x→x<w'.heap.size∧(F x∨Own ⟨w.heap.size,fun b=>b=g⟩ x))∧Tg w' F' res u∧LentOk C.P w' F' g c0 cs t0 s es'∧es'.length=es.length:=by
   obtain⟨F',loc',a4⟩:=hh;unfold bk at a3;split at a3
   ·simp at a3
   rename_i as has;split at a3
   ·rename_i k g1 c1 t1 h0;split at a3
    ·rename_i s1 es1 hkb ad;simp only[bv,bw]at a3;obtain⟨rfl,rfl,rfl,rfl,rfl,rfl⟩:=a3;obtain⟨hd,v,hv1,hv2⟩:=Nc a4 has (wR hfl);have hk:=bc hkb;subst hk;have a7:=(Qv a4 0).1;rw[h0]at a7;obtain⟨⟨q1,q3⟩,q2⟩:=a7 _ _ _ ad;have a8:=a4.objs (ZZ fn.ntmps);rw[ad]at a8;obtain⟨p1,p2,p3,p4⟩:=a8;rcases p4 with⟨p4,_⟩|⟨b,c,cs,t,p4,p5,p6,p7,p8,p9,p10,p11⟩
     ·rw[p4]at q1;simp at q1
     ·rw[p4]at q1;simp only[bv,bw]at q1;obtain⟨rfl,rfl⟩:=q1;obtain rfl:t=t1:=by rw[←p11];exact q3
      exact⟨hd,v,hv1,a4.below,F',cs,v,rfl,a4.fsup,fun x hx=>⟨a4.bound x hx,a4.fsub x hx⟩,hv2 F',⟨by simpa using p5,(a4.fresh _ _ _ p4).2,p6,p7,p8,p1,p2,p3,by rw[←a4.prog];exact p10,p9⟩,hlen⟩
    ·simp at a3
   ·simp at a3
  rcases hx with rfl|rfl
  ·have he:e= .normal:=he;subst he;exact a6
  ·have he:e= .ret:=he;subst he;exact a6
 split at h
 ·rename_i s' hr;exact ag _ _ (.inl rfl) hr h
 ·rename_i s' hr;exact ag _ _ (.inr rfl) hr h
 ·simp at h
theorem H1 {C C':Cx} (hP:C'.P=C.P) (hG:C'.G=C.G) {f s:Nat} {pre post:List A} {lent:Option (Nat×List (List D))} {es:List (List D)} (h:Vl C f pre lent post s es):Vl C' f pre lent post s es:=by
 intro w F vs1 vs2 g c0 cs0 t0 hb hi h1 h2 hl;rw[hP]at hl ⊢;exact h w F vs1 vs2 g c0 cs0 t0 hb (Ku hG.symm hi) h1 h2 hl
theorem S2 {C C':Cx} (hP:C'.P=C.P) (hG:C'.G=C.G) {f s:Nat} {es es':List (List D)} {post res:List A} (h:Nb C f s es post res es'):Nb C' f s es post res es':=by
 intro w F vs2 g c0 cs0 t0 hb hi h2 hl;rw[hP]at hl ⊢;exact h w F vs2 g c0 cs0 t0 hb (Ku hG.symm hi) h2 hl
end
end Eng
end
section
namespace Eng
open Go Go.RowKit
section
variable {C:Cx}
theorem bn {B:Bd} {F0:Nat→Prop} {w0:World} {F:Nat→Prop} {loc:Where} {st:St} {a:Act} {w:World} (hc:Conc C B F0 w0 F loc st a w) {x:Operand} {k s:Nat} {es:List (List D)} (hv:ev st x= .arr k) (hk:nth .none st.objs k= .arr s es false) (hne:es≠[]):
 ∃(g c0:Nat) (cs0:Array Value) (t0:TypeId),loc k=some (g,c0)∧a.eval x= .slice (some ⟨g,0,none⟩) es.length c0∧LentOk C.P w F g c0 cs0 t0 s es:=by
 have a4:=(qZ hc x).1;rw[hv]at a4;have a3:=hc.objs k;rw[hk]at a3;obtain⟨q1,q2,q3,q4⟩:=a3;rcases q4 with⟨_,q5⟩|⟨gb,c0,cs0,t0,q5,q6,q7,q8,q9,q10,q11,q12⟩
 ·exact absurd q5 hne
 ·rcases a4 _ _ _ hk with⟨b1,c1,r1,r2⟩|⟨r1,_⟩
  ·rw[q5]at r1;simp only[bv,bw]at r1;obtain⟨rfl,rfl⟩:=r1;exact⟨gb,c0,cs0,t0,q5,r2,⟨by simpa using q6,(hc.fresh _ _ _ q5).2,q7,q8,q9,q1,q2,q3,by rw[←hc.prog];exact q11,q10⟩⟩
  ·rw[q5]at r1;simp at r1
end
end Eng
end
section
namespace Eng
open Go Go.RowKit
def Ti (n:Nat):Nat:=n
def vOfB (k:Nat) (es:List (List D)):V:=match es with
 |[]=> .nilS
 |_::_=> .arr k
def Yx:List (List D)→Bool
 |[]=>false
 |_::_=>true
section
variable {C:Cx}
end
end Eng
end
section
namespace Eng
open Go Go.RowKit
section
variable {C:Cx} {B:Bd} {F0:Nat→Prop} {w0:World} {F:Nat→Prop} {loc:Where} {st:St} {a:Act} {w:World}
end
section
variable {C:Cx}
end
end Eng
end
section
namespace Eng
open Go Go.RowKit
section
variable {C:Cx} {B:Bd} {F0:Nat→Prop} {w0:World} {F:Nat→Prop} {loc:Where} {st:St} {a:Act} {w:World}
theorem Conc.adoptG {dst:Option Nat} {d s b c:Nat} {es:List (List D)} {cs:Array Value} {t:TypeId} {w':World} {F' X:Nat→Prop} {dead:List (Nat×Obj)} {rv:V} {rx:Value} (h:Conc C B F0 w0 F loc st a w) (hd:qA st.objs d=true)
 (hdead:∀p∈dead,p.2= .dead∧p.1<st.objs.length∧nth .none st.objs p.1≠ .none) (hX:∀x,X x→¬F x∧∃p∈dead,∃c,loc p.1=some (x,c))
 (hbel:BelowX ⟨w.heap.size,X⟩ w w') (hF1:∀x,F x→F' x) (hF2:∀x,F' x→x<w'.heap.size∧(F x∨Own ⟨w.heap.size,X⟩ x)) (hb1:Own ⟨w.heap.size,X⟩ b) (hL:LentOk C.P w' F' b c cs t s es) (hv:∀(loc:Where) (objs:List Obj),nth .none objs d= .arr s es false→loc d=some (b,c)→CV loc objs w' F' rv rx∧Ref objs rv):
 J9 C B F0 w0 (st.put dst rv (dead++[(d,.arr s es false)])) (a.put dst rx) w':=by
 obtain⟨a3,hlt⟩:=qN hd;have a8:=hbel.size;have hnd:=fun k=>jd dead st.objs k fun p hp=>⟨(hdead p hp).1,(hdead p hp).2.1⟩
 have hdd:¬∃p∈dead,p.1=d:=fun⟨p,hp,e⟩=>(hdead p hp).2.2 (by rw[e];exact a3)
 have hn:∀k,nth .none (upds st.objs (dead++[(d,.arr s es false)])) k=if k=d then .arr s es false else if(∃p∈dead,p.1=k)then .dead else nth .none st.objs k:=fun k=>by
  rw[xQ];show nth .none (upd (upds st.objs dead) d (.arr s es false)) k=_;by_cases hk:d=k
  ·subst hk;rw[qg _ _ _ (by rw[kv];exact hlt),if_pos rfl]
  ·rw[qe _ _ _ hk,if_neg (bs hk),hnd]
 have a5:∀x,Own ⟨w.heap.size,X⟩ x→Own B x:=fun x hx=>by
  rcases hx with hx|hx
  ·exact .inl (bh h.hB hx)
  ·obtain⟨_,p,_,c,hl⟩:=hX x hx;exact(h.fresh _ _ _ hl).1
 have ad:∀x,F x→w'.heap[x]? =w.heap[x]? :=fun x hx=>hbel.block x (h.bound x hx) fun hX'=>(hX x hX').1 hx
 open Classical in
 let loc':Where:=⟨loc.P,fun k=>if k=d then some (b,c)else if(∃p∈dead,p.1=k)then none else loc k,fun k=>if k=d then t else loc.ty k⟩
 have a6:∀k x y,loc' k=some (x,y)→(k=d∧x=b∧y=c)∨(k≠d∧(¬∃p∈dead,p.1=k)∧loc k=some (x,y)):=fun k x y hl=>by
  simp only[loc']at hl;split at hl
  ·simp only[bv,bw]at hl;exact .inl ⟨‹_›,hl.1.symm,hl.2.symm⟩
  ·split at hl
   ·simp at hl
   ·exact .inr ⟨‹_›,‹_›,hl⟩
 have a4:∀k x y,(¬∃p∈dead,p.1=k)→loc k=some (x,y)→¬X x:=fun k x y hk hl hx=>by obtain⟨_,p,hp,c',hl2⟩:=hX x hx;exact hk ⟨p,hp,h.inj _ _ _ _ _ hl2 hl⟩
 have a7:Le st.objs (upds st.objs (dead++[(d,.arr s es false)])) loc loc':=by
  refine⟨rfl,fun k hk=>by
   have:k≠d:=fun e=>by subst e;exact absurd a3 hk
   simp[loc',this],fun k hk=>?_,fun k o' hk hc hbx=>?_,fun k s' es' fz' hk hc=>?_⟩
  ·have:k≠d:=fun e=>by subst e;exact absurd a3 hk
   rw[hn,if_neg this];split
   ·simp
   ·exact hk
  ·have:k≠d:=fun e=>by subst e;exact absurd a3 hk
   rw[hn,if_neg this]at hc;split at hc
   ·rw[←hc]at hbx;simp[zx]at hbx
   ·rename_i e;exact⟨by rw[hc];exact hbx,by simp only[loc'];rw[if_neg this,if_neg e]⟩
  ·have:k≠d:=fun e=>by subst e;exact absurd a3 hk
   rw[hn,if_neg this]at hc;split at hc
   ·simp at hc
   ·rename_i e;exact⟨⟨_,_,hc,rfl⟩,by simp only[loc'];rw[if_neg this,if_neg e]⟩
 have hbw:BelowX B w w':=⟨hbel.os,hbel.tape,hbel.output,hbel.size,fun j hj hjX=>hbel.block j (bd hj h.hB) fun hx=>by
  rcases a5 j (.inr hx)with h1|h1
  ·omega
  ·exact hjX h1⟩
 refine⟨F',loc',h.step hF1 ad a7 (h.below.trans hbw) (by have:=h.hB;omega) (fun k=>?_) ?_ ?_ (fun x hx=>(hF2 x hx).1) (fun x hx=>?_) (hv _ _ (by rw[hn,if_pos rfl]) (by simp[loc'])).1 (hv loc' _ (by rw[hn,if_pos rfl]) (by simp[loc'])).2⟩
 ·rw[hn];split
  ·rename_i e;exact⟨hL.room,hL.s0,hL.lens,.inr ⟨b,c,cs,t,by simp[loc',e],hL.nF,hL.blk,hL.sz,hL.lc,hL.cd,by show loc.P.cellsOf t=s;rw[h.prog];exact hL.ct,by simp[loc',e]⟩⟩
  ·rename_i e1;split
   ·rename_i e2;show loc' k=none;simp only[loc'];rw[if_neg e1,if_pos e2]
   ·rename_i e2;refine CO.le hF1 ad a7 (by simp only[loc'];rw[if_neg e1,if_neg e2]) (by simp only[loc'];rw[if_neg e1]) (fun x y hl=>?_) (h.objs k);have hf:=(h.fresh _ _ _ hl).2;have hx:=a4 _ _ _ e2 hl;refine⟨hbel.block x hf hx,fun hnF hF'=>?_⟩;rcases(hF2 x hF').2 with h1|h1|h1
    ·exact hnF h1
    ·have h1:w.heap.size≤x:=h1;omega
    ·exact hx h1
 ·intro k k' x y y' q1 q2;rcases a6 _ _ _ q1 with⟨r1,r2,r3⟩|⟨r1,r2,r3⟩<;>rcases a6 _ _ _ q2 with⟨u1,u2,u3⟩|⟨u1,u2,u3⟩
  ·rw[r1,u1]
  ·subst r2;exfalso;rcases hb1 with hb1|hb1
   ·have hb1:w.heap.size≤x:=hb1;have:=(h.fresh _ _ _ u3).2;omega
   ·exact a4 _ _ _ u2 u3 hb1
  ·subst u2;exfalso;rcases hb1 with hb1|hb1
   ·have hb1:w.heap.size≤x:=hb1;have:=(h.fresh _ _ _ r3).2;omega
   ·exact a4 _ _ _ r2 r3 hb1
  ·exact h.inj _ _ _ _ _ r3 u3
 ·intro k x y q1;rcases a6 _ _ _ q1 with⟨r1,r2,r3⟩|⟨r1,r2,r3⟩
  ·subst r2;exact⟨a5 _ hb1,hL.lt⟩
  ·have:=h.fresh _ _ _ r3;exact⟨this.1,by omega⟩
 ·rcases(hF2 x hx).2 with h1|h1
  ·exact h.fsub x h1
  ·exact .inr (a5 x h1)
theorem Conc.goneD {dst:Option Nat} {w':World} {F' X:Nat→Prop} {dead:List (Nat×Obj)} {rv:V} {rx:Value} (h:Conc C B F0 w0 F loc st a w)
 (hdead:∀p∈dead,p.2= .dead∧p.1<st.objs.length∧nth .none st.objs p.1≠ .none) (hX:∀x,X x→¬F x∧∃p∈dead,∃c,loc p.1=some (x,c))
 (hbel:BelowX ⟨w.heap.size,X⟩ w w') (hF1:∀x,F x→F' x) (hF2:∀x,F' x→x<w'.heap.size∧(F x∨Own ⟨w.heap.size,X⟩ x))
 (hv:∀(loc:Where) (objs:List Obj),CV loc objs w' F' rv rx∧Ref objs rv):J9 C B F0 w0 (st.put dst rv dead) (a.put dst rx) w':=by
 have a7:=hbel.size;have hn:=fun k=>jd dead st.objs k fun p hp=>⟨(hdead p hp).1,(hdead p hp).2.1⟩
 have a4:∀x,Own ⟨w.heap.size,X⟩ x→Own B x:=fun x hx=>by
  rcases hx with hx|hx
  ·exact .inl (bh h.hB hx)
  ·obtain⟨_,p,_,c,hl⟩:=hX x hx;exact(h.fresh _ _ _ hl).1
 have a8:∀x,F x→w'.heap[x]? =w.heap[x]? :=fun x hx=>hbel.block x (h.bound x hx) fun hX'=>(hX x hX').1 hx
 open Classical in
 let loc':Where:=⟨loc.P,fun k=>if(∃p∈dead,p.1=k)then none else loc k,loc.ty⟩
 have a5:∀k x y,loc' k=some (x,y)→(¬∃p∈dead,p.1=k)∧loc k=some (x,y):=fun k x y hl=>by
  simp only[loc']at hl;split at hl
  ·simp at hl
  ·exact⟨‹_›,hl⟩
 have a3:∀k x y,(¬∃p∈dead,p.1=k)→loc k=some (x,y)→¬X x:=fun k x y hk hl hx=>by obtain⟨_,p,hp,c',hl2⟩:=hX x hx;exact hk ⟨p,hp,h.inj _ _ _ _ _ hl2 hl⟩
 have a6:Le st.objs (upds st.objs dead) loc loc':=by
  refine⟨rfl,fun k hk=>rfl,fun k hk=>?_,fun k o' hk hc hbx=>?_,fun k s' es' fz' hk hc=>?_⟩
  ·rw[hn];split
   ·simp
   ·exact hk
  ·rw[hn]at hc;split at hc
   ·rw[←hc]at hbx;simp[zx]at hbx
   ·rename_i e;exact⟨by rw[hc];exact hbx,by simp only[loc'];rw[if_neg e]⟩
  ·rw[hn]at hc;split at hc
   ·simp at hc
   ·rename_i e;exact⟨⟨_,_,hc,rfl⟩,by simp only[loc'];rw[if_neg e]⟩
 have hbw:BelowX B w w':=⟨hbel.os,hbel.tape,hbel.output,hbel.size,fun j hj hjX=>hbel.block j (bd hj h.hB) fun hx=>by
  rcases a4 j (.inr hx)with h1|h1
  ·omega
  ·exact hjX h1⟩
 refine⟨F',loc',h.step hF1 a8 a6 (h.below.trans hbw) (by have:=h.hB;omega) (fun k=>?_) ?_ ?_ (fun x hx=>(hF2 x hx).1) (fun x hx=>?_) (hv _ _).1 (hv loc' _).2⟩
 ·rw[hn];split
  ·rename_i e2;show loc' k=none;simp only[loc'];rw[if_pos e2]
  ·rename_i e2;refine CO.le hF1 a8 a6 (by simp only[loc'];rw[if_neg e2]) rfl (fun x y hl=>?_) (h.objs k);have hf:=(h.fresh _ _ _ hl).2;have hx:=a3 _ _ _ e2 hl;refine⟨hbel.block x hf hx,fun hnF hF'=>?_⟩;rcases(hF2 x hF').2 with h1|h1|h1
   ·exact hnF h1
   ·have h1:w.heap.size≤x:=h1;omega
   ·exact hx h1
 ·intro k k' x y y' q1 q2;exact h.inj _ _ _ _ _ (a5 _ _ _ q1).2 (a5 _ _ _ q2).2
 ·intro k x y q1;have:=h.fresh _ _ _ (a5 _ _ _ q1).2;exact⟨this.1,by omega⟩
 ·rcases(hF2 x hx).2 with h1|h1
  ·exact h.fsub x h1
  ·exact .inr (a4 x h1)
end
def H2 (C:Cx) (f:Nat) (al:List A) (s:Nat) (es:List (List D)) (as:List A):Prop:=
 ∀(w:World) (F:Nat→Prop) (vs:List Value),(∀b,F b→b<w.heap.size)→Inv C F w→All2 (CA w F) al vs→
  Calls C.P f vs.toArray w fun e w'=>BelowX ⟨w.heap.size,fun _=>False⟩ w w'∧
   ∃(F':Nat→Prop) (b c:Nat) (cs:Array Value) (t:TypeId) (ys:List Value),e= .returned (.tuple (.slice (some ⟨b,0,none⟩) es.length c::ys).toArray)∧(∀x,F x→F' x)∧(∀x,F' x→x<w'.heap.size∧(F x∨Own ⟨w.heap.size,fun _=>False⟩ x))∧
    Own ⟨w.heap.size,fun _=>False⟩ b∧LentOk C.P w' F' b c cs t s es∧All2 (CA w' F') as ys
def iE (C:Cx) (st:St) (rs:List ResultVar):Option (Nat×List (List D)×List A):=
 match rs with
 | .tmp t::r::rr=>match nth .any st.tmps t with
  | .arr k=>match nth .none st.objs k with
   | .arr s es false=>match resD C st (r::rr)with
    |some as=>match kz as&&(Yx es&&!as.isEmpty)with
     |true=>some (s,es,as)
     |false=>none
    |none=>none
   |_=>none
  |_=>none
 |_=>none
def S3 (tab:Nat→List A→Option (List A)) (C:Cx) (lim n f:Nat) (al:List A):Option (Nat×List (List D)×List A):=
 match C.P.funcs[f]? with
 |none=>none
 |some fn=>match fn.body with
  |none=>none
  |some c=>match jM (XO tab C lim n) C lim c (vS fn.ntmps al)with
   |some (.normal,s)=>iE C s fn.results.toList
   |some (.ret,s)=>iE C s fn.results.toList
   |_=>none
def S4 (chk:List A→Bool) (mk:List A→Nat×List (List D)×List A) (dst:Option Nat) (vs:List V) (ob:List Obj):R:=
 match dst with
 |none=> .fail
 |some d=>match qA ob d,wa ob vs with
  |true,some (al,us)=> .cond (chk al=true) (.tpo d (mk al).2.2) (us++[(d,.arr (mk al).1 (mk al).2.1 false)])
  |_,_=> .fail
def H3 (C:Cx) (f s:Nat) (es:List (List D)) (post res:List A):Prop:=
 ∀(w:World) (F:Nat→Prop) (vs2:List Value) (g c0:Nat) (cs0:Array Value) (t0:TypeId),(∀b,F b→b<w.heap.size)→Inv C F w→All2 (CA w F) post vs2→LentOk C.P w F g c0 cs0 t0 s es→
  Calls C.P f (.slice (some ⟨g,0,none⟩) es.length c0::vs2).toArray w fun e w'=>BelowX ⟨w.heap.size,fun b=>b=g⟩ w w'∧∃v,e= .returned v∧Tg w' (Km F ⟨w.heap.size,fun b=>b=g⟩ w') res v
def S5 (tab:Nat→List A→Option (List A)) (C:Cx) (lim n f s:Nat) (es:List (List D)) (post:List A):Option (List A):=
 match C.P.funcs[f]? with
 |none=>none
 |some fn=>match fn.body with
  |none=>none
  |some c=>match jM (XO tab C lim n) C lim c (Hs fn.ntmps [] (some (s,es)) post)with
   |some (.normal,st)=>resD C st fn.results.toList
   |some (.ret,st)=>resD C st fn.results.toList
   |_=>none
def S6 (s:Nat) (chk:List (List D)→List A→Bool) (mk:List (List D)→List A→List A) (_:Option Nat) (vs:List V) (ob:List Obj):R:=
 match vs with
 | .arr k::r=>match nth .none ob k,wa ob r with
  | .arr s0 es false,some (al,[])=>match be s0 s&&Yx es with
   |true=> .cond (chk es al=true) (VX (mk es al)) [(k,.dead)]
   |false=> .fail
  |_,_=> .fail
 |_=> .fail
section
variable {C:Cx}
theorem EE {fn:Func} {w:World} {B:Bd} {F:Nat→Prop} {s':St} {a':Act} {w':World} {s:Nat} {es:List (List D)} {as:List A} (hh:J9 C B F w s' a' w') (has:iE C s' fn.results.toList=some (s,es,as)):
 a'.defers=[]∧∃v,(results fn a'.tmps).run C.P w'= .ok v w'∧BelowX B w w'∧∃(F':Nat→Prop) (b c:Nat) (cs:Array Value) (t:TypeId) (ys:List Value),Ls v= .returned (.tuple (.slice (some ⟨b,0,none⟩) es.length c::ys).toArray)∧(∀x,F x→F' x)∧(∀x,F' x→x<w'.heap.size∧(F x∨Own B x))∧
  Own B b∧LentOk C.P w' F' b c cs t s es∧All2 (CA w' F') as ys:=by
 obtain⟨F',loc',h⟩:=hh;unfold iE at has;split at has
 ·rename_i t r rr hrs;split at has
  ·rename_i k hk;split at has
   ·rename_i s0 a3 ad;split at has
    ·rename_i as0 hrd;split at has
     ·rename_i a4;simp only[bv,bw]at has;obtain⟨rfl,rfl,rfl⟩:=has;simp only[Hy,I0,List.isEmpty_eq_false_iff]at a4;obtain⟨us,h1,h2⟩:=XY h hrd;have h3:All2 (CA w' F') as0 us:=h2.mono_mem fun r hr v hv=>JX hv (wR a4.1 r hr)
      have hx:=(Qv h t).1;simp only[Act.eval]at hx;rw[hk]at hx;have a6:=h.objs k;rw[ad]at a6;obtain⟨a5,hs0,a7,a6⟩:=a6;rcases a6 with⟨_,h5⟩|⟨b',c',cs,t',h4,h5,h6,h7,h8,h9,h10,h11⟩
      ·rw[h5]at a4;simp[Yx]at a4
      rcases hx _ _ _ ad with⟨b,c,hl,hv⟩|⟨hl,_,_⟩
      ·rw[h4]at hl;simp only[bv,bw]at hl;obtain⟨rfl,rfl⟩:=hl;have a8:=h.fresh _ _ _ h4;have hl2:0<us.length:=by rw[←h2.length];exact List.length_pos_iff.2 a4.2.2
       refine⟨h.defers,.tuple (.slice (some ⟨b',0,none⟩) a3.length c'::us).toArray,?_,h.below,F',b',c',cs,t',us,rfl,h.fsup,fun x hx=>⟨h.bound x hx,h.fsub x hx⟩,a8.1,⟨by simpa using h5,a8.2,h6,h7,h8,a5,hs0,a7,by rw[←h.prog];exact h10,h9⟩,h3⟩;have h6:((fn.results.toList).mapM (DI a'.tmps)).run C.P w'= .ok (.slice (some ⟨b',0,none⟩) a3.length c'::us) w':=by
        rw[hrs,List.mapM_cons];have h7:(DI a'.tmps (.tmp t)).run C.P w'= .ok (.slice (some ⟨b',0,none⟩) a3.length c') w':=by show(pure (a'.tmps.getD t undef):Sem Value).run C.P w'=_;rw[hv];rfl
        simp only[Lv,h7,Result.andThen,h1];rfl
       have h8:(results fn a'.tmps).run C.P w'= .ok (if h:(M0 (some ⟨b',0,none⟩) a3.length c'::us).toArray.size=1 then(M0 (some ⟨b',0,none⟩) a3.length c'::us).toArray[0]else .tuple (M0 (some ⟨b',0,none⟩) a3.length c'::us).toArray) w':=by
        unfold results;rw[Bx];simp only[Lv,map_eq_pure_bind];have h5:∀g:ResultVar→Sem Value,g=DI a'.tmps→(fn.results.toList.mapM g).run C.P w'= .ok (.slice (some ⟨b',0,none⟩) a3.length c'::us) w':=fun g hg=>by rw[hg];exact h6
        rw[h5 _ (by funext r;cases r<;>rfl)];rfl
       rw[h8,dif_neg (by simp only[U0,U3];omega)]
      ·rw[h4]at hl;simp at hl
     ·simp at has
    ·simp at has
   ·simp at has
  ·simp at has
 ·simp at has
theorem EF [EffOk C] {tab:Nat→List A→Option (List A)} {lim:Nat} (hm:C.P.follows .mixedOrders=true) (htab:∀f as rs,tab f as=some rs→qc C f as rs) {n f s:Nat} {al:List A} {es:List (List D)} {as:List A}
 (h:S3 tab C lim n f al=some (s,es,as)):H2 C f al s es as:=by
 unfold S3 at h;split at h
 ·simp at h
 rename_i fn hf;split at h
 ·simp at h
 rename_i c hc;have a6:∀(x:X) (s':St),(x= .normal∨x= .ret)→jM (XO tab C lim n) C lim c (vS fn.ntmps al)=some (x,s')→iE C s' fn.results.toList=some (s,es,as)→H2 C f al s es as:=by
  intro x s' hx hr a4 w F vs hb a3 h1;refine calls_of_wp hf hc (Lr (fun e a' w' hp=>?_) (Zb hm (fun f as rs h=>v3 hm htab n f as rs h) lim c _ s' x _ w hr (Xh hb a3 h1)));obtain⟨he,hh⟩:=hp;have a5:=EE (fn:=fn) hh a4;rcases hx with rfl|rfl
  ·have he:e= .normal:=he;subst he;exact a5
  ·have he:e= .ret:=he;subst he;exact a5
 split at h
 ·rename_i s' hr;exact a6 _ _ (.inl rfl) hr h
 ·rename_i s' hr;exact a6 _ _ (.inr rfl) hr h
 ·simp at h
theorem EG {fn:Func} {w:World} {B:Bd} {F:Nat→Prop} {s':St} {a':Act} {w':World} {res:List A} (hh:J9 C B F w s' a' w') (has:resD C s' fn.results.toList=some res):
 a'.defers=[]∧∃v,(results fn a'.tmps).run C.P w'= .ok v w'∧BelowX B w w'∧∃u,Ls v= .returned u∧Tg w' (Km F B w') res u:=by
 obtain⟨F',loc',a3⟩:=hh;obtain⟨us,h1,h2⟩:=XY a3 has;refine⟨a3.defers,if h:us.toArray.size=1 then us.toArray[0]else .tuple us.toArray,?_,a3.below,_,rfl,?_⟩
 ·unfold results;rw[Bx];simp only[Lv,map_eq_pure_bind];have h5:∀g:ResultVar→Sem Value,g=DI a'.tmps→(fn.results.toList.mapM g).run C.P w'= .ok us w':=fun g hg=>by rw[hg];exact h1
  rw[h5 _ (by funext r;cases r<;>rfl)];rfl
 ·match res,us,h2 with
  |[a],[u],h2=>exact h2.1
  |[],[],h2=>exact⟨#[],rfl,trivial⟩
  |a::b::r,u::v::s,h2=>exact⟨(u::v::s).toArray,by simp,h2⟩
theorem EH [EffOk C] {tab:Nat→List A→Option (List A)} {lim:Nat} (hm:C.P.follows .mixedOrders=true) (htab:∀f as rs,tab f as=some rs→qc C f as rs) {n f s:Nat} {es:List (List D)} {post res:List A}
 (h:S5 tab C lim n f s es post=some res):H3 C f s es post res:=by
 unfold S5 at h;split at h
 ·simp at h
 rename_i fn hf;split at h
 ·simp at h
 rename_i c hc;have a6:∀(x:X) (s':St),(x= .normal∨x= .ret)→jM (XO tab C lim n) C lim c (Hs fn.ntmps [] (some (s,es)) post)=some (x,s')→resD C s' fn.results.toList=some res→H3 C f s es post res:=by
  intro x s' hx hr a4 w F vs2 g c0 cs0 t0 hb a3 h2 hL;refine calls_of_wp hf hc (Lr (fun e a' w' hp=>?_) (Zb hm (fun f as rs h=>v3 hm htab n f as rs h) lim c _ s' x _ w hr (Ht (vs1:=[]) hb a3 trivial h2 (fun s0 es0 he=>by simp only[bv,bw]at he;obtain⟨rfl,rfl⟩:=he;exact hL))));obtain⟨he,hh⟩:=hp;have a5:=EG (fn:=fn) hh a4;rcases hx with rfl|rfl
  ·have he:e= .normal:=he;subst he;exact a5
  ·have he:e= .ret:=he;subst he;exact a5
 split at h
 ·rename_i s' hr;exact a6 _ _ (.inl rfl) hr h
 ·rename_i s' hr;exact a6 _ _ (.inr rfl) hr h
 ·simp at h
theorem EI {f:Nat} {fn:Func} {chk:List A→Bool} {mk:List A→Nat×List (List D)×List A} (hf:C.P.funcs[f]? =some fn) (hb:fn.body≠none) (hn:fn.name≠ "runtime.NumGoroutine") (hmk:∀al,chk al=true→H2 C f al (mk al).1 (mk al).2.1 (mk al).2.2):EffAt C f (S4 chk mk):=by
 refine⟨fun{B F0 w0 F loc st a w dst args ts ty pos after g} hc=>?_,fun dst vs ob ob' hh hd=>?_,fun dst vs ob hv _=>?_⟩
 ·unfold S4;split
  ·trivial
  ·rename_i d;split
   ·rename_i al us hd ag;obtain⟨a6,a7⟩:=vj hc ag (ku hc args.toList);obtain⟨F',ad,hF',hb'⟩:=hc.freezes a6 st.dirty;have a5:=a7 F' hF' hb';intro hck next Q hnx
    have hG:=hmk al hck;have a3:=hG w F' (args.toList.map a.eval) ad.bound ad.inv a5;have a4:(args.toList.map a.eval).toArray=args.map a.eval:=by apply Aw;simp
    rw[a4]at a3;refine zZ hf hb hn a3 fun e w' he=>?_
    obtain⟨a8,F2,b,c,cs,t,ys,rfl,h1,h2,h3,h4,h5⟩:=he;refine⟨_,rfl,hnx _ _ ?_⟩;have h6:=ad.adoptG (dst:=some d) (d:=d) (dead:=[]) (rv:= .tpo d (mk al).2.2) (rx:= .tuple (.slice (some ⟨b,0,none⟩) (mk al).2.1.length c::ys).toArray) (zW a6 hd) (fun p hp=>by simp at hp) (fun x hx=>hx.elim) a8 h1 h2 h3 h4
     (fun loc objs q1 q2=>⟨⟨_,_,rfl,fun s' es' fz' hc=>by
      rw[q1]at hc;simp only[J8]at hc;obtain⟨rfl,rfl,rfl⟩:=hc;exact⟨b,c,q2,rfl⟩,h5⟩,by
      show nth .none objs d≠ .none;rw[q1];simp⟩)
    refine xt h6 rfl ?_;show upds (upds st.objs us) ([]++[(d,.arr (mk al).1 (mk al).2.1 false)])=upds st.objs (us++[(d,.arr (mk al).1 (mk al).2.1 false)]);rw[xQ us];rfl
   ·trivial
 ·unfold S4;cases dst with
  |none=>rfl
  |some d=>
   have h1:wa ob vs=wa ob' vs:=j9 (c:=2) fun v hv k hk=> .inl (hh k (by
    rw[qE];exact⟨k,M2.2 ⟨v,hv,hk⟩,.inl rfl⟩))
   simp only[h1];rw[hd d (.inl rfl)]
 ·unfold S4;split
  ·trivial
  ·rename_i d;split
   ·rename_i al us hd ag;have a6:=ww ag;refine⟨fun p hp=>?_,fun k hk=>?_⟩
    ·rcases Pl.1 hp with hp|hp
     ·obtain⟨⟨v,hv1,hv2⟩,s',es',fz,h1,h2⟩:=a6 p hp;refine⟨.inr ⟨?_,by rw[h1];simp⟩,by rw[h2];simp,fun u hu=>by rw[h2]at hu;simp[qW]at hu⟩;rw[qE];exact⟨p.1,M2.2 ⟨v,hv1,hv2⟩,.inl rfl⟩
     ·simp only[M3]at hp;subst hp;exact⟨.inl ⟨.inl rfl,hd⟩,by simp,fun u hu=>by simp[qW]at hu⟩
    ·simp only[qn,M3]at hk;subst hk;exact .inr ⟨hd,_,P1 _ (M3.2 rfl)⟩
   ·trivial
theorem EJ {f s:Nat} {fn:Func} {chk:List (List D)→List A→Bool} {mk:List (List D)→List A→List A} (hf:C.P.funcs[f]? =some fn) (hb:fn.body≠none) (hn:fn.name≠ "runtime.NumGoroutine")
 (hmk:∀es al,chk es al=true→H3 C f s es al (mk es al)):EffAt C f (S6 s chk mk):=by
 refine⟨fun{B F0 w0 F loc st a w dst args ts ty pos after g} hc=>?_,fun dst vs ob ob' hh hd=>?_,fun dst vs ob hv _=>?_⟩
 ·unfold S6;split
  ·rename_i k r a7;split
   ·rename_i s0 es al hk an;split
    ·rename_i a8;simp only[Hy]at a8;obtain rfl:=bc a8.1;intro hck next Q hnx
     have hG:=hmk es al hck;obtain⟨x0,xs,ap⟩:∃x0 xs,args.toList=x0::xs:=by
      cases h:args.toList with
      |nil=>rw[h]at a7;simp at a7
      |cons x0 xs=>exact⟨x0,xs,rfl⟩
     rw[ap]at a7;simp only[V1,bb]at a7;obtain⟨hx0,rfl⟩:=a7;obtain⟨hfz,ad⟩:=vj hc an (ku hc xs);have a5:=ad F (fun _ h=>h) (fun p hp=>by simp at hp);obtain⟨gb,c0,cs0,t0,q1,q2,hL⟩:=bn hc hx0 hk (fun e=>by rw[e]at a8;simp[Yx]at a8);have a3:=hG w F (xs.map a.eval) gb c0 cs0 t0 hc.bound hc.inv a5 hL;have a4:(M0 (some ⟨gb,0,none⟩) es.length c0::xs.map a.eval).toArray=args.map a.eval:=by apply Aw;rw[Dd,ap];simp[q2]
     rw[a4]at a3;refine zZ hf hb hn a3 fun e w' he=>?_
     obtain⟨a6,v,rfl,ag⟩:=he;refine⟨_,rfl,hnx _ _ ?_⟩;exact hc.goneD (dead:=[(k,.dead)]) (rv:=VX (mk es al)) (fun p hp=>by
      simp only[M3]at hp;subst hp;exact⟨rfl,xn (by rw[hk];simp),by rw[hk];simp⟩) (fun x hx=>by
      have hx:x=gb:=hx;rw[hx];exact⟨hL.nF,(k,.dead),by simp,c0,q1⟩) a6 (fun x hx=> .inl hx) (fun x hx=>by
      rcases hx with hx|hx
      ·exact⟨bd (hc.bound x hx) a6.size,.inl hx⟩
      ·exact⟨hx.2,.inr hx.1⟩) (fun loc objs=>GZ ag)
    ·trivial
   ·trivial
  ·trivial
 ·unfold S6;cases vs with
  |nil=>rfl
  |cons v r=>
   cases v with
   |arr k=>
    have h0:nth .none ob k=nth .none ob' k:=hh k (by
     rw[qE];exact⟨k,M2.2 ⟨.arr k,by simp,by simp[qn]⟩,.inl rfl⟩)
    have h1:wa ob r=wa ob' r:=j9 (c:=2) fun v hv k hk=> .inl (hh k (by
     rw[qE];exact⟨k,M2.2 ⟨v,by simp[hv],hk⟩,.inl rfl⟩))
    simp only[h0,h1]
   |_=>rfl
 ·unfold S6;split
  ·rename_i k r;split
   ·rename_i s0 es al hk an;split
    ·refine⟨fun p hp=>?_,fun j hj=>by rw[yj]at hj;simp at hj⟩;simp only[M3]at hp;subst hp;refine⟨.inr ⟨?_,by rw[hk];simp⟩,by simp,fun u hu=>by simp[qW]at hu⟩;rw[qE];exact⟨k,M2.2 ⟨.arr k,by simp,by simp[qn]⟩,.inl rfl⟩
    ·trivial
   ·trivial
  ·trivial
end
theorem S7 {C C':Cx} (hP:C'.P=C.P) (hG:C'.G=C.G) {f s:Nat} {al as:List A} {es:List (List D)} (h:H2 C f al s es as):H2 C' f al s es as:=by
 intro w F vs hb hi h2;rw[hP];exact h w F vs hb (Ku hG.symm hi) h2
theorem S8 {C C':Cx} (hP:C'.P=C.P) (hG:C'.G=C.G) {f s:Nat} {es:List (List D)} {post res:List A} (h:H3 C f s es post res):H3 C' f s es post res:=by
 intro w F vs2 g c0 cs0 t0 hb hi h2 hl;rw[hP]at hl ⊢;exact h w F vs2 g c0 cs0 t0 hb (Ku hG.symm hi) h2 hl
end Eng
end
section
namespace Eng
open Go Go.RowKit
def iF:V→Bool
 | .arrAt .. =>true
 | .boxAt .. =>true
 |_=>false
section
variable {g c t:Nat}
def S0 (g c t:Nat) (a b:V):Prop:=(a=b∧iF a=false)∨∃k,(a= .arrAt k 0 0 0∧b= .arrAt k g c t)∨(a= .boxAt k 0∧b= .boxAt k g)
structure SmE (g c t:Nat) (st st':St):Prop where
 tm:∃a b r,st.tmps=a::r∧st'.tmps=b::r∧S0 g c t a b
 ob:st'.objs=st.objs
 dt:st'.dirty=st.dirty
theorem SmE.nth {st st':St} (h:SmE g c t st st') (i:Nat):nth .any st'.tmps i=nth .any st.tmps i∨S0 g c t (nth .any st.tmps i) (nth .any st'.tmps i):=by
 obtain⟨a,b,r,e1,e2,h0⟩:=h.tm;rw[e1,e2];cases i with
 |zero=>exact .inr h0
 |succ i=>exact .inl rfl
theorem S0.un {a b:V} (h:S0 g c t a b):un b=un a:=by
 rcases h with⟨rfl,_⟩|⟨k,⟨rfl,rfl⟩|⟨rfl,rfl⟩⟩<;>rfl
theorem SmE.ev {st st':St} (h:SmE g c t st st'):ev st'=ev st:=by
 funext x;cases x with
 |tmp i=>
  show Eng.un _=Eng.un _;rcases h.nth i with e|e
  ·rw[e]
  ·exact e.un
 |_=>rfl
theorem SmE.step {st st':St} {K:Nat→List A→Option (List A)} {C:Cx} {ops:Array Oper} {o:Oper} (h:SmE g c t st st'):Yv K C ops o st'=Yv K C ops o st:=by
 unfold Yv;rw[h.ev,h.ob];split
 ·rfl
 ·split
  ·rfl
  ·rename_i i _;rcases h.nth i with e|⟨e,_⟩|⟨k,⟨e1,e2⟩|⟨e1,e2⟩⟩
   ·rw[e]
   ·rw[e]
   ·rw[e1,e2]
   ·rw[e1,e2]
theorem SmE.put {st st':St} (h:SmE g c t st st') {d:Option Nat} (hd:d≠some 0) (v:V) (up:List (Nat×Obj)):SmE g c t (st.put d v up) (st'.put d v up):=by
 obtain⟨a,b,r,e1,e2,h0⟩:=h.tm;refine⟨?_,?_,?_⟩
 ·unfold Lm;simp only;cases d with
  |none=>exact⟨a,b,r,e1,e2,h0⟩
  |some i=>
   cases i with
   |zero=>exact absurd rfl hd
   |succ i=>exact⟨a,b,upd r i v,by rw[e1];rfl,by rw[e2];rfl,h0⟩
 ·unfold Lm;simp only;rw[h.ob]
 ·unfold Lm;simp only;rw[h.dt]
def OS {α:Type} (g c t:Nat):Option (α×St)→Option (α×St)→Prop
 |none,none=>True
 |some (x,s),some (y,s')=>x=y∧SmE g c t s s'
 |_,_=>False
def OS1 (g c t:Nat):Option St→Option St→Prop
 |none,none=>True
 |some s,some s'=>SmE g c t s s'
 |_,_=>False
theorem TO {K:Nat→List A→Option (List A)} {C:Cx} {ops:Array Oper}:∀{l:List Oper} {st st':St},(∀o∈l,o.dst≠some 0)→SmE g c t st st'→OS1 g c t (DK K C ops l st) (DK K C ops l st')
 |[],_,_,_,h=>h
 |o::l,st,st',hl,h=>by
  simp only[DK];rw[h.step];cases Yv K C ops o st with
  |none=>trivial
  |some x=>exact TO (fun o ho=>hl o (by simp[ho])) (h.put (hl o (by simp)) x.1 x.2)
theorem Nf {K:Nat→List A→Option (List A)} {C:Cx} {ops:Array Oper}:∀{l:List Oper} {st st':St} {rs:List Rec},(∀o∈l,o.dst≠some 0)→SmE g c t st st'→
 (WC K C ops l st rs=none∧WC K C ops l st' rs=none)∨∃s s' r,WC K C ops l st rs=some (s,r)∧WC K C ops l st' rs=some (s',r)∧SmE g c t s s'
 |[],st,st',rs,_,h=> .inr ⟨st,st',rs,rfl,rfl,h⟩
 |o::l,st,st',rs,hl,h=>by
  simp only[WC];rw[h.step,h.ev,h.ob];cases Yv K C ops o st with
  |none=>exact .inl ⟨rfl,rfl⟩
  |some x=>exact Nf (fun o ho=>hl o (by simp[ho])) (h.put (hl o (by simp)) x.1 x.2)
theorem bo {K:Nat→List A→Option (List A)} {C:Cx} {ops:Array Oper} {d:Bool} {st st':St} (hl:∀o∈ops.toList,o.dst≠some 0) (h:SmE g c t st st'):OS1 g c t (Il K C ops d st) (Il K C ops d st'):=by
 unfold Il;cases d with
 |false=>exact TO hl h
 |true=>
  simp only;cases yK C ops.toList with
  |true=>exact TO hl h
  |false=>
   simp only;rcases Nf (K:=K) (C:=C) (ops:=ops) (rs:=[]) hl h with⟨e1,e2⟩|⟨s,s',r,e1,e2,h2⟩
   ·rw[e1,e2];trivial
   ·rw[e1,e2];simp only;cases ye C ops.toList r with
    |true=>exact h2
    |false=>trivial
theorem SmE.map {st st':St} {f:V→V} {ob:List Obj} {dt:List Nat} (h:SmE g c t st st') (hf:∀a b,S0 g c t a b→S0 g c t (f a) (f b)):SmE g c t ⟨st.tmps.map f,ob,dt⟩ ⟨st'.tmps.map f,ob,dt⟩:=by
 obtain⟨a,b,r,e1,e2,h0⟩:=h.tm;exact⟨⟨f a,f b,r.map f,by rw[e1];rfl,by rw[e2];rfl,hf _ _ h0⟩,rfl,rfl⟩
theorem S0.ren {d m:Nat} {a b:V} (h:S0 g c t a b):S0 g c t (DJ d m a) (DJ d m b):=by
 rcases h with⟨rfl,h⟩|⟨k,⟨rfl,rfl⟩|⟨rfl,rfl⟩⟩
 ·refine .inl ⟨rfl,?_⟩;cases a<;>first|rfl|simp[iF]at h
 ·exact .inl ⟨rfl,rfl⟩
 ·exact .inr ⟨_,.inr ⟨rfl,rfl⟩⟩
theorem S0.frz {k:Nat} {ds:List D} {a b:V} (h:S0 g c t a b):S0 g c t (Yu k ds a) (Yu k ds b):=by
 rcases h with⟨rfl,h⟩|⟨j,⟨rfl,rfl⟩|⟨rfl,rfl⟩⟩
 ·refine .inl ⟨rfl,?_⟩;cases a<;>first|(simp[iF]at h;done)|skip
  all_goals first|rfl|(simp only[Yu];split<;>rfl)
 ·exact .inr ⟨_,.inl ⟨rfl,rfl⟩⟩
 ·simp only[Yu];cases be j k with
  |true=>exact .inl ⟨rfl,rfl⟩
  |false=>exact .inr ⟨_,.inr ⟨rfl,rfl⟩⟩
theorem SmE.evict1 {d:Nat} {st st':St} (h:SmE g c t st st'):SmE g c t (evict1 d st) (evict1 d st'):=by
 unfold I3;rw[h.ob];split
 ·exact h
 ·split
  ·rw[jH,jH];exact h.map fun _ _ h=>h.ren
  ·exact h
theorem SmE.evict:∀{l:List Nat} {st st':St},SmE g c t st st'→SmE g c t (evict l st) (evict l st')
 |[],_,_,h=>h
 |d::l,st,st',h=>SmE.evict (l:=l) (st:=I3 d st) (st':=I3 d st') (SmE.evict1 h)
theorem SmE.frz1 {k:Nat} {st st':St} (h:SmE g c t st st'):SmE g c t (frz1 k st) (frz1 k st'):=by
 unfold Eng.frz1;rw[h.ob];split
 ·split
  ·rw[jI,jI];exact h.map fun _ _ h=>h.frz
  ·exact h
 ·exact h
theorem SmE.settle1 {k i:Nat} {st st':St} (h:SmE g c t st st'):SmE g c t (settle1 k i st) (settle1 k i st'):=by
 unfold I2;rw[h.ob,h.dt];split
 ·split
  ·split
   ·exact⟨h.tm,rfl,rfl⟩
   ·exact h
  ·exact h
 ·exact h
theorem SmE.settleN {k:Nat}:∀{n:Nat} {st st':St},SmE g c t st st'→SmE g c t (settleN k n st) (settleN k n st')
 |0,_,_,h=>h
 |n+1,st,st',h=>SmE.settleN (n:=n) (st:=I2 k n st) (st':=I2 k n st') h.settle1
theorem SmE.settle {k:Nat} {st st':St} (h:SmE g c t st st'):SmE g c t (settle k st) (settle k st'):=by
 unfold Eng.settle;rw[h.ob];split
 ·split
  ·exact h.settleN
  ·exact h
 ·exact h
theorem SmE.settleM:∀{l:List Operand} {st st':St},SmE g c t st st'→SmE g c t (settleM l st) (settleM l st')
 |[],_,_,h=>h
 |x::l,st,st',h=>by
  simp only[Eng.settleM];rw[h.ev];split
  ·exact SmE.settleM h.frz1
  ·exact SmE.settleM h
theorem SmE.settleO {C:Cx}:∀{l:List Oper} {st st':St},SmE g c t st st'→SmE g c t (settleO C l st) (settleO C l st')
 |[],_,_,h=>h
 |o::l,st,st',h=>by
  simp only[I1];split
  ·split
   ·rw[h.ev];split
    ·exact SmE.settleO h.settle
    ·exact SmE.settleO h
   ·exact SmE.settleO h
  ·exact SmE.settleO h.settleM
  ·exact SmE.settleO h
theorem Ng {o:Oper}:∀{l:List Oper},o∈l→∀i,o.dst=some i→i∈OT l
 |p::l,h,i,hi=>by
  simp only[OT];rcases Ts.1 h with rfl|h
  ·rw[hi];simp
  ·have:=Ng h i hi;split
   ·exact ba _ this
   ·exact this
theorem v5 {K:Nat→List A→Option (List A)} {C:Cx}:∀{n:Nat} {b:Code} {st st':St},0∉Wy b→SmE g c t st st'→OS g c t (jM K C n b st) (jM K C n b st')
 |0,_,_,_,_,_=>trivial
 |n+1,b,st,st',hb,h=>by
  cases b with
  |skip=>exact⟨rfl,h⟩
  |region id ops d=>
   simp only[jM];have:=bo (K:=K) (C:=C) (ops:=ops) (d:=d) (fun o ho e=>hb (Ng ho 0 e)) (SmE.settleO (C:=C) (l:=ops.toList) (SmE.evict (l:=Sp C ops.toList) h));revert this;cases Il K C ops d (I1 C ops.toList (J3 (Sp C ops.toList) st))<;>cases Il K C ops d (I1 C ops.toList (J3 (Sp C ops.toList) st'))<;>intro this<;>first|trivial|exact this.elim|skip
   have this:SmE g c t _ _:=this;exact⟨rfl,this.tm,this.ob,rfl⟩
  |seq a b=>
   simp only[Wy,Pl,not_or]at hb;simp only[jM];have:=v5 (K:=K) (C:=C) (n:=n) hb.1 h;revert this;cases jM K C n a st with
   |none=>cases jM K C n a st' with
    |none=>exact fun h=>h
    |some x=>exact fun h=>h.elim
   |some x=>cases jM K C n a st' with
    |none=>exact fun h=>h.elim
    |some y=>
     obtain⟨x,s⟩:=x;obtain⟨y,s'⟩:=y;rintro⟨rfl,h2⟩;cases x with
     |normal=>exact v5 hb.2 h2
     |_=>exact⟨rfl,h2⟩
  |cond x a b=>
   simp only[Wy,Pl,not_or]at hb;simp only[jM];rw[h.ev];split
   ·exact v5 hb.1 h
   ·exact v5 hb.2 h
   ·trivial
  |block id a=>
   simp only[Wy]at hb;simp only[jM];have:=v5 (K:=K) (C:=C) (n:=n) hb h;revert this;cases jM K C n a st with
   |none=>cases jM K C n a st' with
    |none=>exact fun h=>h
    |some x=>exact fun h=>h.elim
   |some x=>cases jM K C n a st' with
    |none=>exact fun h=>h.elim
    |some y=>
     obtain⟨x,s⟩:=x;obtain⟨y,s'⟩:=y;rintro⟨rfl,h2⟩;cases x with
     |exit i=>simp only;split<;>exact⟨rfl,h2⟩
     |_=>exact⟨rfl,h2⟩
  |exit id=>exact⟨rfl,h⟩
  |ret=>exact⟨rfl,h⟩
  |loop a=>
   have hb1:0∉Wy a:=by simpa only[Wy]using hb
   simp only[jM];have:=v5 (K:=K) (C:=C) (n:=n) hb1 h;revert this;cases jM K C n a st with
   |none=>cases jM K C n a st' with
    |none=>exact fun h=>h
    |some x=>exact fun h=>h.elim
   |some x=>cases jM K C n a st' with
    |none=>exact fun h=>h.elim
    |some y=>
     obtain⟨x,s⟩:=x;obtain⟨y,s'⟩:=y;rintro⟨rfl,h2⟩;cases x with
     |normal=>exact v5 hb h2
     |_=>exact⟨rfl,h2⟩
  |_=>trivial
theorem SmE.resD {C:Cx} {st st':St} (h:SmE g c t st st'):∀{rs:List ResultVar},resD C st' rs=resD C st rs
 |[]=>rfl
 | .tmp i::r=>by
  simp only[J4];rw[SmE.resD h,h.ob];rcases h.nth i with e|⟨e,_⟩|⟨k,⟨e1,e2⟩|⟨e1,e2⟩⟩
  ·rw[e]
  ·rw[e]
  ·rw[e1,e2];rfl
  ·rw[e1,e2];rfl
 | .cell i t'::r=>by
  simp only[J4];rw[SmE.resD h,h.ob];rcases h.nth i with e|⟨e,_⟩|⟨k,⟨e1,e2⟩|⟨e1,e2⟩⟩
  ·rw[e]
  ·rw[e]
  ·rw[e1,e2]
  ·rw[e1,e2]
end
theorem S9 {n:Nat} {l:List Nat} (h:XR n l=false):n∉l:=fun e=>by rw[ze.2 e]at h;cases h
def Pp (C:Cx) (f:Nat):List Nat:=
 match C.P.funcs[f]? with
 |some fn=>match fn.body with
  |some b=>Wy b
  |none=>[]
 |none=>[]
def okI (C:Cx) (f s:Nat) (es:List (List D)) (o:Option (List A×List (List D)×Nat×Nat×Nat×Nat)):Bool:=
 match o with
 |some (as,es',s',0,0,0)=>kz as&&(be es'.length es.length&&(be s' s&&(!XR 0 (Pp C f))))
 |_=>false
theorem SA {C:Cx} {fn:Func} {st st':St} {g c t s:Nat} {as:List A} {es:List (List D)} (h:SmE g c t st st') (he:bk C fn st=some (as,es,s,0,0,0)):bk C fn st'=some (as,es,s,g,c,t):=by
 unfold bk at he ⊢;rw[h.resD,h.ob];split at he
 ·simp at he
 rename_i as' has;obtain⟨a,b,r,e1,e2,h0⟩:=h.tm;have n1:nth .any st.tmps 0=a:=by rw[e1];rfl
 have n2:nth .any st'.tmps 0=b:=by rw[e2];rfl
 rw[n1]at he;rw[n2];rcases h0 with⟨rfl,ha⟩|⟨k,⟨rfl,rfl⟩|⟨rfl,rfl⟩⟩
 ·split at he
  ·simp[iF]at ha
  ·simp at he
 ·simp only at he ⊢;split at he
  ·rename_i q1 q2;simp only[bv,bw]at he;obtain⟨rfl,rfl,rfl,_⟩:=he;rfl
  ·simp at he
 ·simp at he
theorem SB {tab:Nat→List A→Option (List A)} {C:Cx} {lim n f s s':Nat} {es es':List (List D)} {post as:List A} (hm:XR 0 (Pp C f)=false) (h:H0 tab C lim n f s es post 0 0 0=some (as,es',s',0,0,0)) (g c t:Nat):H0 tab C lim n f s es post g c t=some (as,es',s',g,c,t):=by
 unfold H0 at h ⊢;unfold Pp at hm;split at h
 ·simp at h
 rename_i fn hf;rw[hf]at hm;simp only at hm;split at h
 ·simp at h
 rename_i b hbd;rw[hbd]at hm;simp only at hm;have h0:SmE g c t (WE fn.ntmps s es post 0 0 0) (WE fn.ntmps s es post g c t):=⟨⟨_,_,_,rfl,rfl,.inr ⟨_,.inl ⟨rfl,rfl⟩⟩⟩,rfl,rfl⟩;have:=v5 (K:=XO tab C lim n) (C:=C) (n:=lim) (b:=b) (S9 hm) h0;revert this h;cases jM (XO tab C lim n) C lim b (WE fn.ntmps s es post 0 0 0)with
 |none=>intro h;simp at h
 |some x=>
  obtain⟨x,s1⟩:=x;cases jM (XO tab C lim n) C lim b (WE fn.ntmps s es post g c t)with
  |none=>intro _ h;exact h.elim
  |some y=>
   obtain⟨y,s2⟩:=y;intro h;rintro⟨rfl,h2⟩;cases x with
   |normal=>exact SA h2 h
   |ret=>exact SA h2 h
   |exit i=>simp at h
noncomputable def xO (tab:Nat→List A→Option (List A)) (C:Cx) (f s:Nat):Option Nat→List V→List Obj→R:=
 S1 s (fun es al=>match es with|[]=>false|_=>okI C f s es (H0 tab C 1000 40 f s es al 0 0 0)) (fun es al=>match H0 tab C 1000 40 f s es al 0 0 0 with|some x=>x.2.1|none=>[])
  (fun es al=>match H0 tab C 1000 40 f s es al 0 0 0 with|some x=>x.1|none=>[])
theorem qz {C C':Cx} [EffOk C] {tab:Nat→List A→Option (List A)} (hm:C.P.follows .mixedOrders=true) (htab:∀f as rs,tab f as=some rs→qc C f as rs) (hP:C'.P=C.P) (hG:C'.G=C.G) {f s:Nat} {fn:Func} (hf:C'.P.funcs[f]? =some fn) (hb:fn.body≠none) (hn:fn.name≠ "runtime.NumGoroutine"):EffAt C' f (xO tab C f s):=by
 refine EC hf hb hn fun es al hc=>?_
 cases hes:es with
 |nil=>rw[hes]at hc;cases hc
 |cons e r=>
  rw[hes]at hc;simp only at hc;refine⟨by simp,S2 hP hG ?_⟩;unfold okI at hc;split at hc
  ·rename_i as es' s' hr;simp only[Hy,I0]at hc;obtain⟨h1,h2,h3,h4⟩:=hc;obtain rfl:=bc h3;rw[hr];exact ED hm htab h1 h2 fun g c t=>SB h4 hr g c t
  ·cases hc
end Eng
end
section
namespace Eng
open Go Go.RowKit
structure LentP (w:World) (F:Nat→Prop) (g:Nat) (cs:Array Value) (ds:List D) (t:TypeId):Prop where
 nF:¬F g
 lt:g<w.heap.size
 blk:w.heap[g]? =some (.cells cs t (0,0))
 cd:All2 (CD w F) ds cs.toList
def oi (w:World) (F:Nat→Prop) (g:Nat) (res:List A) (ds':List D) (v:Value) (w':World):Prop:=
 BelowX ⟨w.heap.size,fun b=>b=g⟩ w w'∧∃(F':Nat→Prop) (cs:Array Value) (t:TypeId),(∀x,F x→F' x)∧(∀x,F' x→x<w'.heap.size∧(F x∨Own ⟨w.heap.size,fun b=>b=g⟩ x))∧Tg w' F' res v∧LentP w' F' g cs ds' t
def H4 (C:Cx) (f:Nat) (ds:List D) (post res:List A) (ds':List D):Prop:=
 ∀(w:World) (F:Nat→Prop) (vs2:List Value) (g:Nat) (cs:Array Value) (t:TypeId),(∀b,F b→b<w.heap.size)→Inv C F w→All2 (CA w F) post vs2→LentP w F g cs ds t→
  Calls C.P f (.pointer (some ⟨g,0,none⟩)::vs2).toArray w fun e w'=>∃v,e= .returned v∧oi w F g res ds' v w'
theorem H5 {C C':Cx} (hP:C'.P=C.P) (hG:C'.G=C.G) {f:Nat} {ds ds':List D} {post res:List A} (h:H4 C f ds post res ds'):H4 C' f ds post res ds':=by
 intro w F vs2 g cs t hb hi h2 hl;rw[hP];exact h w F vs2 g cs t hb (Ku hG.symm hi) h2 hl
def WG (n:Nat) (ds:List D) (post:List A) (g:Nat):St:=
 ⟨.boxAt (Ti n) g::(post.map Ie++No (n-(1+post.length)) .any),upd (No (n+8) .none) (Ti n) (.box (ds.map V.c)),[]⟩
def bp (C:Cx) (fn:Func) (st:St):Option (List A×List D×Nat):=
 match resD C st fn.results.toList with
 |none=>none
 |some as=>match nth .any st.tmps 0 with
  | .boxAt k g=>match be k (Ti fn.ntmps),nth .none st.objs (Ti fn.ntmps)with
   |true,.box cells=>match qD cells with
    |some ds=>some (as,ds,g)
    |none=>none
   |_,_=>none
  |_=>none
def H6 (tab:Nat→List A→Option (List A)) (C:Cx) (lim n f:Nat) (ds:List D) (post:List A) (g:Nat):Option (List A×List D×Nat):=
 match C.P.funcs[f]? with
 |none=>none
 |some fn=>match fn.body with
  |none=>none
  |some b=>match jM (XO tab C lim n) C lim b (WG fn.ntmps ds post g)with
   |some (.normal,st)=>bp C fn st
   |some (.ret,st)=>bp C fn st
   |_=>none
section
variable {C:Cx}
theorem SC {n g:Nat} {ds:List D} {post:List A} {vs2:List Value} {w:World} {F:Nat→Prop} {cs:Array Value} {t:TypeId} (hb:∀b,F b→b<w.heap.size) (hinv:Inv C F w) (h2:All2 (CA w F) post vs2) (hL:LentP w F g cs ds t):
 J9 C ⟨w.heap.size,fun b=>b=g⟩ F w (WG n ds post g) {tmps:=(M1 (some ⟨g,0,none⟩)::vs2).toArray++Hx (n-(M1 (some ⟨g,0,none⟩)::vs2).toArray.size) undef,defers:=[]} w:=by
 have hl2:=h2.length;have hkl:Ti n<(No (n+8) J7).length:=by simp[Ti]
 have hn:∀k,nth .none (upd (No (n+8) J7) (Ti n) (.box (ds.map V.c))) k=if k=Ti n then .box (ds.map V.c)else .none:=fun k=>by
  by_cases hk:Ti n=k
  ·subst hk;rw[qg _ _ _ hkl,if_pos rfl]
  ·rw[qe _ _ _ hk,Kn,if_neg (bs hk)]
 have a4:∀(ds:List D) (vs:List Value) (a6:Where) (a3:List Obj),All2 (CD w F) ds vs→All2 (fun v x=>CV a6 a3 w F v x∧x.oneCell'=true) (ds.map V.c) vs:=by
  intro ds
  induction ds with
  |nil=>intro vs a6 a3 a5;cases vs with|nil=>trivial|cons _ _=>exact a5.elim
  |cons d ds ih=>intro vs a6 a3 a5;cases vs with|nil=>exact a5.elim|cons y vs=>exact⟨⟨a5.1,a5.1.one⟩,ih vs a6 a3 a5.2⟩
 refine⟨F,⟨C.P,fun k=>if k=Ti n then some (g,0)else none,fun _=>0⟩,⟨rfl,BelowX.refl _ _,bm _,rfl,?_,fun v hv=>?_,fun k=>?_,?_,?_,hb,fun b h=> .inl h,fun _ h=>h,hinv⟩⟩
 ·simp only[WG,Hv,Hu,U0,W1];refine⟨?_,yQ (XZ h2) ?_⟩
  ·intro o _ _;exact⟨⟨0,by simp⟩,rfl⟩
  ·have e:(M1 (some ⟨g,0,none⟩)::vs2).length=1+post.length:=by simp only[U3];omega
   rw[e];exact Xg trivial _
 ·simp only[WG,Pl,Ts,T1,W0]at hv;rcases hv with rfl|⟨x,_,rfl⟩|⟨_,rfl⟩
  ·intro hc;have hc:nth J7 (upd (No (n+8) J7) (Ti n) (.box (ds.map V.c))) (Ti n)=J7:=hc;rw[hn,if_pos rfl]at hc;simp at hc
  ·exact Xf x
  ·trivial
 ·simp only[WG];rw[hn];split
  ·rename_i e;exact⟨g,0,cs,t,by simp[e],hL.nF,hL.blk,a4 _ _ _ _ hL.cd,fun v hv=>by obtain⟨_,_,rfl⟩:=T1.1 hv;trivial⟩
  ·rename_i e;show(if k=Ti n then some (g,0)else none)=none;rw[if_neg e]
 ·intro k k' b c c' q1 q2;simp only at q1 q2;split at q1
  ·split at q2
   ·rename_i e1 e2;rw[e1,e2]
   ·simp at q2
  ·simp at q1
 ·intro k b c q1;simp only at q1;split at q1
  ·simp only[bv,bw]at q1;obtain⟨rfl,rfl⟩:=q1;exact⟨.inr rfl,hL.lt⟩
  ·simp at q1
theorem finP {fn:Func} {w:World} {F:Nat→Prop} {g:Nat} {st:St} {a':Act} {w':World} {res:List A} {ds':List D} {cells:List V} {k:Nat} (hh:J9 C ⟨w.heap.size,fun b=>b=g⟩ F w st a' w') (hfl:∀r∈res,W7 r=true) (has:resD C st fn.results.toList=some res)
 (h0:nth .any st.tmps 0= .boxAt k g) (hk:k=Ti fn.ntmps) (hob:nth .none st.objs (Ti fn.ntmps)= .box cells) (hds:qD cells=some ds'):
 a'.defers=[]∧∃v,(results fn a'.tmps).run C.P w'= .ok v w'∧∃v',Ls v= .returned v'∧oi w F g res ds' v' w':=by
 subst hk;obtain⟨F',a4,a3⟩:=hh;obtain⟨hd,v,hv1,hv2⟩:=Nc a3 has hfl;have a5:=(Qv a3 0).1;rw[h0]at a5;obtain⟨⟨cg,q1⟩,q2⟩:=a5 _ hob rfl;have a6:=a3.objs (Ti fn.ntmps);rw[hob]at a6;obtain⟨gb,cb,cs,t',p1,p2,p3,p4,p5⟩:=a6;rw[p1]at q1;simp only[bv,bw]at q1;obtain⟨rfl,rfl⟩:=q1;exact⟨hd,v,hv1,v,rfl,a3.below,F',cs,t',a3.fsup,fun x hx=>⟨a3.bound x hx,a3.fsub x hx⟩,hv2 F',p2,(a3.fresh _ _ _ p1).2,p3,z7 (loc:=a4) (objs:=st.objs) hds (p4.mono fun _ _ h=>h.1)⟩
theorem Nh [EffOk C] {tab:Nat→List A→Option (List A)} {lim:Nat} (hm:C.P.follows .mixedOrders=true) (htab:∀f as rs,tab f as=some rs→qc C f as rs) {n f:Nat} {ds ds':List D} {post res:List A} (hfl:kz res=true)
 (h:∀g,H6 tab C lim n f ds post g=some (res,ds',g)):H4 C f ds post res ds':=by
 intro w F vs2 g cs t hb a4 h2 hL;have h:=h g;unfold H6 at h;split at h
 ·simp at h
 rename_i fn hf;split at h
 ·simp at h
 rename_i b hbd;have a7:∀(x:X) (s':St),(x= .normal∨x= .ret)→jM (XO tab C lim n) C lim b (WG fn.ntmps ds post g)=some (x,s')→bp C fn s'=some (res,ds',g)→Calls C.P f (.pointer (some ⟨g,0,none⟩)::vs2).toArray w fun e w'=>∃v,e= .returned v∧oi w F g res ds' v w':=by
  intro x s' hx hr a3;refine calls_of_wp hf hbd (Lr (fun e a' w' hp=>?_) (Zb hm (fun f as rs h=>v3 hm htab n f as rs h) lim b _ s' x _ w hr (SC hb a4 h2 hL)));obtain⟨he,hh⟩:=hp;have a6:a'.defers=[]∧∃v,(results fn a'.tmps).run C.P w'= .ok v w'∧∃v',Ls v= .returned v'∧oi w F g res ds' v' w':=by
   unfold bp at a3;split at a3
   ·simp at a3
   rename_i as has;split at a3
   ·rename_i k g1 h0;split at a3
    ·rename_i a5 hkb hob;split at a3
     ·rename_i ds1 hds;simp only[bv,bw]at a3;obtain⟨rfl,rfl,rfl⟩:=a3;exact finP hh (wR hfl) has h0 (bc hkb) hob hds
     ·simp at a3
    ·simp at a3
   ·simp at a3
  rcases hx with rfl|rfl
  ·have he:e= .normal:=he;subst he;exact a6
  ·have he:e= .ret:=he;subst he;exact a6
 split at h
 ·rename_i s' hr;exact a7 _ _ (.inl rfl) hr h
 ·rename_i s' hr;exact a7 _ _ (.inr rfl) hr h
 ·simp at h
variable {B:Bd} {F0:Nat→Prop} {w0:World} {F:Nat→Prop} {loc:Where} {st:St} {a:Act} {w:World}
theorem Conc.turnedP {dst:Option Nat} {k g c0:Nat} {cells:List V} {ds':List D} {cs:Array Value} {t:TypeId} {w':World} {F':Nat→Prop} {v:V} {x:Value} {us:List (Nat×Obj)} (h:Conc C B F0 w0 F loc st a w) (hk:nth .none st.objs k= .box cells) (hl:loc k=some (g,c0)) (hnF:¬F g)
 (hbel:BelowX ⟨w.heap.size,fun b=>b=g⟩ w w') (hF1:∀x,F x→F' x) (hF2:∀x,F' x→x<w'.heap.size∧(F x∨Own ⟨w.heap.size,fun b=>b=g⟩ x)) (hL:LentP w' F' g cs ds' t) (hus:us=[(k,.box (ds'.map V.c))])
 (hv:∀(loc:Where) (objs:List Obj),CV loc objs w' F' v x∧Ref objs v):J9 C B F0 w0 (st.put dst v us) (a.put dst x) w':=by
 subst hus;have hkl:k<st.objs.length:=xn (by rw[hk];simp);have a7:Le st.objs (upd st.objs k (.box (ds'.map V.c))) loc loc:=Ig hk;have a6:=hbel.size;have a8:∀x,F x→w'.heap[x]? =w.heap[x]? :=fun x hx=>hbel.block x (h.bound x hx) fun e=>by have e:x=g:=e;exact hnF (e▸hx)
 have hfr:=h.fresh _ _ _ hl;have a5:∀x,Own ⟨w.heap.size,fun b=>b=g⟩ x→Own B x:=fun x hx=>by
  rcases hx with hx|hx
  ·exact .inl (bh h.hB hx)
  ·have hx:x=g:=hx;rw[hx];exact hfr.1
 have hbw:BelowX B w w':=⟨hbel.os,hbel.tape,hbel.output,hbel.size,fun j hj hjX=>hbel.block j (bd hj h.hB) fun hx=>by
  rcases a5 j (.inr hx)with h1|h1
  ·omega
  ·exact hjX h1⟩
 have a3:∀(ds:List D) (vs:List Value) (loc:Where) (objs:List Obj),All2 (CD w' F') ds vs→All2 (fun v x=>CV loc objs w' F' v x∧x.oneCell'=true) (ds.map V.c) vs:=by
  intro ds
  induction ds with
  |nil=>intro vs loc objs a4;cases vs with|nil=>trivial|cons _ _=>exact a4.elim
  |cons d ds ih=>intro vs loc objs a4;cases vs with|nil=>exact a4.elim|cons y vs=>exact⟨⟨a4.1,a4.1.one⟩,ih vs loc objs a4.2⟩
 refine⟨F',loc,h.step (up:=[(k,.box (ds'.map V.c))]) hF1 a8 a7 (h.below.trans hbw) (by have:=h.hB;omega) (fun j=>?_) h.inj (fun j x y hj=>⟨(h.fresh _ _ _ hj).1,bd (h.fresh _ _ _ hj).2 a6⟩) (fun x hx=>(hF2 x hx).1) (fun x hx=>?_) (hv _ _).1 (hv loc _).2⟩
 ·show CO _ (upd st.objs k (.box (ds'.map V.c))) _ _ _ (nth .none (upd st.objs k (.box (ds'.map V.c))) j);by_cases hkj:k=j
  ·subst hkj;rw[qg _ _ _ hkl];exact⟨g,c0,cs,t,hl,hL.nF,hL.blk,a3 _ _ _ _ hL.cd,fun v hv=>by obtain⟨_,_,rfl⟩:=T1.1 hv;trivial⟩
  ·rw[qe _ _ _ hkj];refine CO.le hF1 a8 a7 rfl rfl (fun x y hj=>?_) (h.objs j);have hx:x≠g:=fun e=>by subst e;exact hkj (h.inj _ _ _ _ _ hl hj)
   refine⟨hbel.block x (h.fresh _ _ _ hj).2 hx,fun hnF2 hF'=>?_⟩;rcases(hF2 x hF').2 with h1|h1|h1
   ·exact hnF2 h1
   ·have h1:w.heap.size≤x:=h1;have:=(h.fresh _ _ _ hj).2;omega
   ·exact hx h1
 ·rcases(hF2 x hx).2 with h1|h1
  ·exact h.fsub x h1
  ·exact .inr (a5 x h1)
end
def Pq (chk:List D→List A→Bool) (mk:List D→List A→List D) (res:List D→List A→List A) (_:Option Nat) (vs:List V) (ob:List Obj):R:=
 match vs with
 | .box k off::r=>match nth .none ob k,wa ob r with
  | .box cells,some (al,us)=>match be off 0&&!XR k (TN us),qD cells with
   |true,some ds=> .cond (chk ds al=true) (VX (res ds al)) (us++[(k,.box ((mk ds al).map V.c))])
   |_,_=> .fail
  |_,_=> .fail
 |_=> .fail
section
variable {C:Cx}
theorem Ni {f:Nat} {fn:Func} {chk:List D→List A→Bool} {mk:List D→List A→List D} {res:List D→List A→List A} (hf:C.P.funcs[f]? =some fn) (hb:fn.body≠none) (hn:fn.name≠ "runtime.NumGoroutine")
 (hmk:∀ds al,chk ds al=true→H4 C f ds al (res ds al) (mk ds al)):EffAt C f (Pq chk mk res):=by
 refine⟨fun{B F0 w0 F loc st a w dst args ts ty pos after g} hc=>?_,fun dst vs ob ob' hh hd=>?_,fun dst vs ob hv _=>?_⟩
 ·unfold Pq;split
  ·rename_i k ag r a8;split
   ·rename_i a3 al us hk b4;split
    ·rename_i ds ad hds;simp only[Hy,I0]at ad;obtain rfl:=bc ad.1;have hku:¬∃p∈us,p.1=k:=fun h=>by have:=ze.2 (Xi.2 h);rw[this]at ad;simp at ad
     intro hck next Q hnx
     have hG:=hmk ds al hck;obtain⟨x0,xs,b7⟩:∃x0 xs,args.toList=x0::xs:=by
      cases h:args.toList with
      |nil=>rw[h]at a8;simp at a8
      |cons x0 xs=>exact⟨x0,xs,rfl⟩
     rw[b7]at a8;simp only[V1,bb]at a8;obtain⟨hx0,rfl⟩:=a8;obtain⟨b3,an⟩:=vj hc b4 (ku hc xs);obtain⟨F',a7,hF',hb'⟩:=hc.freezes b3 st.dirty;have a6:=an F' hF' hb';have b6:=(qZ hc x0).1;rw[hx0]at b6;have b5:nth .none (upds st.objs us) k= .box a3:=by rw[zX _ _ fun p hp e=>hku ⟨p,hp,e⟩];exact hk
     have b2:=a7.objs k;simp only at b2;rw[b5]at b2;obtain⟨gb,c0,cs0,t0,q5,q6,q7,q8,q9⟩:=b2;obtain⟨b1,c1,r1,r2⟩:=b6 _ hk rfl;have h6:loc k=some (gb,c0):=q5;rw[h6]at r1;simp only[bv,bw]at r1;obtain⟨rfl,rfl⟩:=r1;have a4:=hG w F' (xs.map a.eval) gb cs0 t0 a7.bound a7.inv a6 ⟨q6,(a7.fresh _ _ _ q5).2,q7,z7 (objs:=upds st.objs us) hds (q8.mono fun _ _ h=>h.1)⟩;have a5:(M1 (some ⟨gb,0,none⟩)::xs.map a.eval).toArray=args.map a.eval:=by apply Aw;rw[Dd,b7];simp[r2]
     rw[a5]at a4;refine zZ hf hb hn a4 fun e w' he=>?_
     obtain⟨v,rfl,ap,F2,cs,t,h1,h2,h3,h4⟩:=he;refine⟨_,rfl,hnx _ _ ?_⟩;have h6:=a7.turnedP (dst:=dst) (k:=k) (ds':=mk ds al) (v:=VX (res ds al)) (x:=v) b5 q5 q6 ap h1 h2 h4 rfl (fun loc objs=>GZ h3);refine xt h6 rfl ?_;show upds (upds st.objs us) [(k,.box ((mk ds al).map V.c))]=upds st.objs (us++[(k,.box ((mk ds al).map V.c))]);rw[xQ us]
    ·trivial
   ·trivial
  ·trivial
 ·unfold Pq;cases vs with
  |nil=>rfl
  |cons v r=>
   cases v with
   |box k ag=>
    have h0:nth .none ob k=nth .none ob' k:=hh k (by
     rw[qE];exact⟨k,M2.2 ⟨.box k ag,by simp,by simp[qn]⟩,.inl rfl⟩)
    have h1:wa ob r=wa ob' r:=j9 (c:=2) fun v hv k hk=> .inl (hh k (by
     rw[qE];exact⟨k,M2.2 ⟨v,by simp[hv],hk⟩,.inl rfl⟩))
    simp only[h0,h1]
   |_=>rfl
 ·unfold Pq;split
  ·rename_i k ag r;split
   ·rename_i a3 al us hk b4;split
    ·have b3:=ww b4;refine⟨fun p hp=>?_,fun j hj=>by rw[yj]at hj;simp at hj⟩;rcases Pl.1 hp with hp|hp
     ·obtain⟨⟨v,hv1,hv2⟩,s',es',fz,h1,h2⟩:=b3 p hp;refine⟨.inr ⟨?_,by rw[h1];simp⟩,by rw[h2];simp,fun u hu=>by rw[h2]at hu;simp[qW]at hu⟩;rw[qE];exact⟨p.1,M2.2 ⟨v,by simp[hv1],hv2⟩,.inl rfl⟩
     ·simp only[M3]at hp;subst hp;refine⟨.inr ⟨?_,by rw[hk];simp⟩,by simp,fun u hu=>?_⟩
      ·rw[qE];exact⟨k,M2.2 ⟨.box k ag,by simp,by simp[qn]⟩,.inl rfl⟩
      ·obtain⟨_,_,rfl⟩:=T1.1 (show u∈List.map V.c _ from hu);intro j hj;simp[qn]at hj
    ·trivial
   ·trivial
  ·trivial
end
def okPb (C:Cx) (f:Nat) (o:Option (List A×List D×Nat)):Bool:=
 match o with
 |some (as,_,0)=>kz as&&!XR 0 (Pp C f)
 |_=>false
theorem SD {C:Cx} {fn:Func} {st st':St} {g c t:Nat} {as:List A} {ds:List D} (h:SmE g c t st st') (he:bp C fn st=some (as,ds,0)):bp C fn st'=some (as,ds,g):=by
 unfold bp at he ⊢;rw[h.resD,h.ob];split at he
 ·simp at he
 rename_i as' has;obtain⟨a,b,r,e1,e2,h0⟩:=h.tm;have n1:nth .any st.tmps 0=a:=by rw[e1];rfl
 have n2:nth .any st'.tmps 0=b:=by rw[e2];rfl
 rw[n1]at he;rw[n2];rcases h0 with⟨rfl,ha⟩|⟨k,⟨rfl,rfl⟩|⟨rfl,rfl⟩⟩
 ·split at he
  ·simp[iF]at ha
  ·simp at he
 ·simp at he
 ·simp only at he ⊢;split at he
  ·split at he
   ·simp only[bv,bw]at he;obtain⟨rfl,rfl,_⟩:=he;rfl
   ·simp at he
  ·simp at he
theorem SE {tab:Nat→List A→Option (List A)} {C:Cx} {lim n f:Nat} {ds ds':List D} {post as:List A} (hm:XR 0 (Pp C f)=false) (h:H6 tab C lim n f ds post 0=some (as,ds',0)) (g:Nat):H6 tab C lim n f ds post g=some (as,ds',g):=by
 unfold H6 at h ⊢;unfold Pp at hm;split at h
 ·simp at h
 rename_i fn hf;rw[hf]at hm;simp only at hm;split at h
 ·simp at h
 rename_i b hbd;rw[hbd]at hm;simp only at hm;have h0:SmE g 0 0 (WG fn.ntmps ds post 0) (WG fn.ntmps ds post g):=⟨⟨_,_,_,rfl,rfl,.inr ⟨_,.inr ⟨rfl,rfl⟩⟩⟩,rfl,rfl⟩;have:=v5 (K:=XO tab C lim n) (C:=C) (n:=lim) (b:=b) (S9 hm) h0;revert this h;cases jM (XO tab C lim n) C lim b (WG fn.ntmps ds post 0)with
 |none=>intro h;simp at h
 |some x=>
  obtain⟨x,s1⟩:=x;cases jM (XO tab C lim n) C lim b (WG fn.ntmps ds post g)with
  |none=>intro _ h;exact h.elim
  |some y=>
   obtain⟨y,s2⟩:=y;intro h;rintro⟨rfl,h2⟩;cases x with
   |normal=>exact SD h2 h
   |ret=>exact SD h2 h
   |exit i=>simp at h
noncomputable def H7 (tab:Nat→List A→Option (List A)) (C:Cx) (f:Nat):Option Nat→List V→List Obj→R:=
 Pq (fun ds al=>okPb C f (H6 tab C 1000 40 f ds al 0)) (fun ds al=>match H6 tab C 1000 40 f ds al 0 with|some x=>x.2.1|none=>[])
  (fun ds al=>match H6 tab C 1000 40 f ds al 0 with|some x=>x.1|none=>[])
theorem v6 {C C':Cx} [EffOk C] {tab:Nat→List A→Option (List A)} (hm:C.P.follows .mixedOrders=true) (htab:∀f as rs,tab f as=some rs→qc C f as rs) (hP:C'.P=C.P) (hG:C'.G=C.G) {f:Nat} {fn:Func} (hf:C'.P.funcs[f]? =some fn) (hb:fn.body≠none) (hn:fn.name≠ "runtime.NumGoroutine"):EffAt C' f (H7 tab C f):=by
 refine Ni hf hb hn fun ds al hc=>H5 hP hG ?_
 unfold okPb at hc;split at hc
 ·rename_i as ds' hr;simp only[Hy,I0]at hc;obtain⟨h1,h4⟩:=hc;rw[hr];exact Nh hm htab h1 fun g=>SE h4 hr g
 ·cases hc
end Eng
end
section
namespace Eng
open Go Go.RowKit
abbrev bq:=Option Nat→List V→List Obj→R
def bu:List V→Bool
 | .c (.sl [])::_=>true
 | .nilS::_=>true
 |_=>false
def kb (e1 e2:bq) (dst:Option Nat) (vs:List V) (ob:List Obj):R:=
 match bu vs with
 |true=>e1 dst vs ob
 |false=>e2 dst vs ob
def SF (C:Cx) (f:Nat) (chk:List A→Bool) (res:List A→List A) (_:Option Nat) (vs:List V) (ob:List Obj):R:=
 match vf C ob f vs with
 | .call _ as sh up=>match zE sh||kz (res as)with
  |true=> .cond (chk as=true) (VX (res as)) up
  |false=> .fail
 |_=> .fail
section
variable {C:Cx}
theorem xu {f:Nat} {e1 e2:bq} (h1:EffAt C f e1) (h2:EffAt C f e2):EffAt C f (kb e1 e2):=by
 refine⟨fun{B F0 w0 F loc st a w dst args ts ty pos after g} hc=>?_,fun dst vs ob ob' hh hd=>?_,fun dst vs ob hv hb=>?_⟩
 ·unfold kb;split
  ·exact h1.rs hc
  ·exact h2.rs hc
 ·unfold kb;split
  ·exact h1.ag dst vs ob ob' hh hd
  ·exact h2.ag dst vs ob ob' hh hd
 ·unfold kb;split
  ·exact h1.good dst vs ob hv hb
  ·exact h2.good dst vs ob hv hb
theorem H8 {ob:List Obj} {f f':Nat} {vs:List V} {as:List A} {sh:List (Bool×List Value)} {up:List (Nat×Obj)} (h:vf C ob f vs= .call f' as sh up):f'=f∧∃us,wa ob vs=some (as,us)∧(up=us∨up=[]):=by
 unfold vf at h;split at h
 ·simp at h
 split at h
 ·simp at h
 split at h
 ·rename_i as' us sh' h1 _;split at h
  ·simp only[R.call.injEq]at h;obtain⟨rfl,rfl,rfl,rfl⟩:=h;exact⟨rfl,_,h1,.inl rfl⟩
  ·simp only[R.call.injEq]at h;obtain⟨rfl,rfl,rfl,rfl⟩:=h;exact⟨rfl,_,h1,.inr rfl⟩
 ·simp at h
theorem EK {f:Nat} {chk:List A→Bool} {res:List A→List A} (hmk:∀al,chk al=true→qc C f al (res al)):EffAt C f (SF C f chk res):=by
 refine⟨fun{B F0 w0 F loc st a w dst args ts ty pos after g} hc=>?_,fun dst vs ob ob' hh hd=>?_,fun dst vs ob hv hb=>?_⟩
 ·have h1:=TD (dst:=dst) (ty:=ty) (pos:=pos) (after:=after) (g:=g) (f:=f) (cal:= .func f) (args:=args) (ts:=ts) hc rfl;unfold SF;revert h1;cases hr:vf C st.objs f (args.toList.map (ev st))with
  |call f' as sh up=>
   intro h1;simp only;obtain⟨rfl,_⟩:=H8 hr;cases hs:(zE sh||kz (res as))with
   |false=>trivial
   |true=>
    intro hck next Q hn
    refine h1 (res as) (hmk as hck) (fun h0=>wR ?_) next Q hn
    simpa [h0]using hs
  |_=>intro _;trivial
 ·unfold SF;have h1:wa ob vs=wa ob' vs:=j9 (c:=2) fun v hv k hk=> .inl (hh k (by
   rw[qE];exact⟨k,M2.2 ⟨v,hv,hk⟩,.inl rfl⟩))
  have h2:vf C ob f vs=vf C ob' f vs:=by unfold vf;rw[h1]
  rw[h2]
 ·unfold SF;split
  ·rename_i f' as sh up hr;split
   ·obtain⟨_,us,hto,hup⟩:=H8 hr;have hfz:=ww hto;refine⟨fun p hp=>?_,fun j hj=>by rw[yj]at hj;simp at hj⟩;rcases hup with rfl|rfl
    ·obtain⟨⟨v,hv1,hv2⟩,s',es',fz,h1,h2⟩:=hfz p hp;refine⟨.inr ⟨?_,by rw[h1];simp⟩,by rw[h2];simp,fun u hu=>by rw[h2]at hu;simp[qW]at hu⟩;rw[qE];exact⟨p.1,M2.2 ⟨v,hv1,hv2⟩,.inl rfl⟩
    ·simp at hp
   ·trivial
  ·trivial
end
variable (tab:Nat→List A→Option (List A)) (C:Cx)
def okF:Option (List A)→Bool
 |some _=>true
 |none=>false
noncomputable def wy (C':Cx) (f:Nat):bq:=SF C' f (fun al=>okF (XO tab C 1000 40 f al)) (fun al=>match XO tab C 1000 40 f al with|some r=>r|none=>[])
noncomputable def ZJ (f s:Nat):bq:=Sw (fun al=>match Hw tab C 1000 40 f al none []with|some (k,es)=>be k s&&Yx es|none=>false) s (fun al=>match Hw tab C 1000 40 f al none []with|some x=>x.2|none=>[])
noncomputable def wS (f s:Nat):bq:=Sx s (fun es al=>Yx es&&match Hw tab C 1000 40 f [] (some (s,es)) al with|some (k,es)=>be k s&&Yx es|none=>false) (fun es al=>match Hw tab C 1000 40 f [] (some (s,es)) al with|some x=>x.2|none=>[])
noncomputable def Pr (f s:Nat):bq:=S6 s (fun es al=>okF (S5 tab C 1000 40 f s es al)) (fun es al=>match S5 tab C 1000 40 f s es al with|some r=>r|none=>[])
noncomputable def EL (f:Nat):bq:=S4 (fun al=>match S3 tab C 1000 40 f al with|some _=>true|none=>false) (fun al=>match S3 tab C 1000 40 f al with|some r=>r|none=>(0,[],[]))
theorem Xj {es:List (List D)} (h:Yx es=true):es≠[]:=by cases es<;>simp_all[Yx]
section
variable {tab} {C} {C':Cx} [EffOk C] (hm:C.P.follows .mixedOrders=true) (htab:∀f as rs,tab f as=some rs→qc C f as rs) (hP:C'.P=C.P) (hG:C'.G=C.G)
include hm htab hP hG
theorem xv {f:Nat}:EffAt C' f (wy tab C C' f):=by
 refine EK fun al hc=>?_
 revert hc;cases hr:XO tab C 1000 40 f al with
 |none=>intro h;cases h
 |some r=>intro _;exact wl hP hG (v3 hm htab 40 f al r hr)
theorem kA {f s:Nat} {fn:Func} (hf:C'.P.funcs[f]? =some fn) (hb:fn.body≠none) (hn:fn.name≠ "runtime.NumGoroutine"):EffAt C' f (ZJ tab C f s):=by
 refine EA hf hb hn fun al hc=>?_
 revert hc;cases hr:Hw tab C 1000 40 f al none []with
 |none=>intro h;cases h
 |some x=>obtain⟨k,es⟩:=x;intro h;simp only[Hy]at h;obtain⟨h1,h2⟩:=h;obtain rfl:=bc h1;exact⟨Xj h2,H1 hP hG (Nd hm htab (Xj h2) hr)⟩
theorem zk {f s:Nat} {fn:Func} (hf:C'.P.funcs[f]? =some fn) (hb:fn.body≠none) (hn:fn.name≠ "runtime.NumGoroutine"):EffAt C' f (wS tab C f s):=by
 refine EB hf hb hn fun es al hc=>?_
 rw[Hy]at hc;obtain⟨h0,hc⟩:=hc;revert hc;cases hr:Hw tab C 1000 40 f [] (some (s,es)) al with
 |none=>intro h;cases h
 |some x=>obtain⟨k,es'⟩:=x;intro h;simp only[Hy]at h;obtain⟨h1,h2⟩:=h;obtain rfl:=bc h1;exact⟨Xj h0,Xj h2,H1 hP hG (Nd hm htab (Xj h2) hr)⟩
theorem Xk {f s:Nat} {fn:Func} (hf:C'.P.funcs[f]? =some fn) (hb:fn.body≠none) (hn:fn.name≠ "runtime.NumGoroutine"):EffAt C' f (Pr tab C f s):=by
 refine EJ hf hb hn fun es al hc=>?_
 revert hc;cases hr:S5 tab C 1000 40 f s es al with
 |none=>intro h;cases h
 |some r=>intro _;exact S8 hP hG (EH hm htab hr)
theorem Yy {f:Nat} {fn:Func} (hf:C'.P.funcs[f]? =some fn) (hb:fn.body≠none) (hn:fn.name≠ "runtime.NumGoroutine"):EffAt C' f (EL tab C f):=by
 refine EI hf hb hn fun al hc=>?_
 revert hc;cases hr:S3 tab C 1000 40 f al with
 |none=>intro h;cases h
 |some r=>obtain⟨s,es,as⟩:=r;intro _;exact S7 hP hG (EF hm htab hr)
end
end Eng
end
