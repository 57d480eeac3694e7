/- The engine, part 28: builders are as the effects say: the instance. -/
import Derived.Test.YtbehlcfelmbmlaaGreatDoorEngD
import Derived.Laws.Externs
import Derived.Lib.Bytealg
import Derived.Sort.Row
import Derived.Lib.Builder
open Array renaming toList_map→Aa, ext'→Ab, getElem?_modify→Ac
open Bool renaming and_eq_true→Ad
open Eng.Obj.arr renaming injEq→Ae
open Go.IntKind renaming u64→Af, u32→Ah
open Go.Sort renaming putCells→Ai
open Go.Value renaming int→Aj
open List renaming map_cons→Ak, map_nil→Al, getElem?_take_of_lt→Am, mem_append→An, mem_singleton→Ao, replicate→Ap, length_append→Aq, mem_map→Ar, append_assoc→As, length_take→At, length_drop→Au, eq_nil_of_length_eq_zero→Av, getElem?_append_right→Aw, getElem?_append_left→Ax, getElem?_drop→Ay, size_toArray→Az, flatten_cons→A0, mem_flatMap→A1, length_cons→A2, length→A3
open List.cons renaming injEq→A4
open Nat renaming eq_of_beq_eq_true→A5, beq→A6, mul_one→A7, le_refl→A8
open Ne renaming symm→A9
open Option.some renaming injEq→AA
open Prod.mk renaming injEq→AB
section
namespace Eng
open Go Go.RowKit
def O6 (T:Nat) (v:V) (ob:List Obj):Bool:=
 match v with
 | .box d 0=>match nth .none ob d with
  | .bld T' _=>A6 T' T
  |_=>false
 |_=>false
def onB (T:Nat) (e:Option Nat→List V→List Obj→R) (dst:Option Nat) (vs:List V) (ob:List Obj):R:=
 match vs with
 |v::_=>match O6 T v ob with
  |true=>e dst vs ob
  |false=> .fail
 |[]=> .fail
def vX (T fW fB fS:Nat) (f:Nat):Option (Option Nat→List V→List Obj→R):=
 match A6 f fW with
 |true=>some (onB T PZ)
 |false=>match A6 f fB with
  |true=>some (onB T Ra)
  |false=>match A6 f fS with
   |true=>some (onB T HK)
   |false=>none
theorem kw {T fW fB fS f:Nat} {e:Option Nat→List V→List Obj→R} (h:vX T fW fB fS f=some e):(f=fW∧e=onB T PZ)∨(f=fB∧e=onB T Ra)∨(f=fS∧e=onB T HK):=by
 unfold vX at h;split at h
 ·rename_i hb;exact .inl ⟨A5 hb,by simpa using h.symm⟩
 ·split at h
  ·rename_i hb;exact .inr (.inl ⟨A5 hb,by simpa using h.symm⟩)
  ·split at h
   ·rename_i hb;exact .inr (.inr ⟨A5 hb,by simpa using h.symm⟩)
   ·simp at h
theorem O7 {T:Nat} {v:V} {ob ob':List Obj} (h:∀k∈zp ob (qk v),nth .none ob k=nth .none ob' k):O6 T v ob=O6 T v ob':=by
 unfold O6;split
 ·rename_i d;rw[h d (by simp[qk,qy])]
 ·rfl
section
variable {C:Cx} {B:Bd} {F0:Nat→Prop} {w0:World} {F:Nat→Prop} {loc:Where} {st:St} {a:Act} {w:World}
variable {dst:Option Nat} {ty:TypeId} {pos:String} {after:Array Edge} {g:Option (Nat×Bool)}
theorem xY {f:Nat} {fn:Func} {args:Array Operand} {ts:Array TypeId} (hf:C.P.funcs[f]? =some fn) (hb:fn.body≠none) (hn:fn.name≠ "runtime.NumGoroutine")
 {R:Ending→World→Prop} (hc:Calls C.P f (args.map a.eval) w R) {next:Act→World→Prop} {Q:Exit→Act→World→Prop} (h:∀e w',R e w'→∃v,e= .returned v∧next (a.put dst v) w'):
 Oper.wp C.P ⟨dst,.call ⟨.value (.func f),args,ts⟩,ty,pos,after,g⟩ a w next Q:=by
 have a0:(execOp a.eval ⟨dst,.call ⟨.value (.func f),args,ts⟩,ty,pos,after,g⟩).run C.P w= .ok (.enter f (args.map a.eval)) w:=by simp[execOp,resolve,Act.eval,Deferred.ofValue,invoke,callFunc,hf,hn,hb]
 unfold Oper.wp;rw[a0,Oper.upon_enter];refine hc.mono fun e w' he=>?_
 obtain⟨v,rfl,hx⟩:=h e w' he;exact hx
theorem Zg {T d:Nat} {q:V} (h:Conc C B F0 w0 F loc st a w) (hd:nth .none st.objs d= .bld T q)
 (hq:q= .nilS∨∃k es,q= .arr k∧nth .none st.objs k= .arr 1 es false):
 ∃b c0 p v own bs rows,loc d=some (b,c0)∧w.heap[b]? =some (.cells #[p,v] T (0,0))∧(p= .pointer none∨p= .pointer (some ⟨b,0,none⟩))∧Buf (kZ C.P T) w b own v bs∧
  All2 (CD w F) rows.flatten bs∧(∀e∈rows,e.length=1)∧((q= .nilS∧own=none∧rows=[]∧v= .slice none 0 0)∨∃k,q= .arr k∧nth .none st.objs k= .arr 1 rows false∧own=loc k):=by
 have a4:=h.objs d;rw[hd]at a4;obtain⟨b,c0,p,v,hl,hnF,a0,hp,a5,hqr,hqt⟩:=a4;rcases hq with rfl|⟨k,es,rfl,hk⟩
 ·have:v= .slice none 0 0:=a5;subst this;exact⟨b,c0,p,_,none,[],[],hl,a0,hp,⟨rfl,rfl⟩,trivial,by simp,.inl ⟨rfl,rfl,rfl,rfl⟩⟩
 ·have a2:=h.objs k;rw[hk]at a2;obtain⟨a6,_,a1,a2⟩:=a2;have hv:=a5 1 es false hk;rcases hv with⟨b2,c2,h1,h2⟩|⟨h1,h2,h3⟩
  ·rcases a2 with⟨h4,_⟩|⟨b3,c3,cs,t,h4,h5,h6,h7,h8,h9,h10,h11⟩
   ·rw[h4]at h1;simp at h1
   ·rw[h4]at h1;simp only[AA,AB]at h1;obtain⟨rfl,rfl⟩:=h1;have hf2:=h.fresh _ _ _ h4;have hbb:b3≠b:=fun e=>by subst e;have:=h.inj _ _ _ _ _ h4 hl;subst this;rw[hk]at hd;simp at hd
    have hfl:es.flatten.length=es.length:=by rw[qm a1];omega
    have hcl:(cs.toList.take es.length).length=es.length:=by simp;omega
    have a3:All2 (CD w F) es.flatten (cs.toList.take es.length):=by
     refine ja .undef undef (by omega) fun i hi=>?_
     obtain⟨x,hx,hcd⟩:=h9 i (by omega);have:nth undef (cs.toList.take es.length) i=x:=by rw[qI,Am (by omega)];simp[hx]
     rw[this];exact hcd
    refine⟨b,c0,p,v,some (b3,c3),cs.toList.take es.length,es,hl,a0,hp,⟨by rw[hcl];exact h2,hbb,hf2.2,by omega,cs,t,h6,by omega,fun j u hj=>?_,?_⟩,a3,a1,.inr ⟨k,rfl,hk,h4.symm⟩⟩
    ·have hjl:j<es.length:=by have:=(List.getElem?_eq_some_iff.1 hj).1;omega
     rw[Am hjl]at hj
     simpa using hj
    ·rw[←h11,hqt k rfl,h.prog]
  ·subst h2;exact⟨b,c0,p,v,none,[],[],hl,a0,hp,⟨h3,rfl⟩,trivial,by simp,.inr ⟨k,rfl,hk,h1.symm⟩⟩
theorem HN {w:World} {F:Nat→Prop} (s:List UInt8):All2 (CD w F) (zc s).flatten (byteCells ⟨⟨s⟩⟩):=by
 induction s with
 |nil=>trivial
 |cons c s ih=>exact⟨.int _ _,ih⟩
theorem YJ (s:List UInt8):∀e∈zc s,e.length=1:=by
 intro e he;simp only[zc,Ar]at he;obtain⟨c,_,rfl⟩:=he;rfl
theorem HO {T E f:Nat} {fn:Func} {x:Operand} {ys:List Operand} {rows:List (List D)} {news:List Value} {res:V} {rv:Value} {args:Array Operand} {ts:Array TypeId}
 (h:Conc C B F0 w0 F loc st a w) (hf:C.P.funcs[f]? =some fn) (hb:fn.body≠none) (hn:fn.name≠ "runtime.NumGoroutine") (hargs:args.toList=x::ys) (hone:C.P.cellsOf E=1)
 (helem:∀d T' q,ev st x= .box d 0→nth .none st.objs d= .bld T' q→T'=T∧kZ C.P T'=E)
 (hrows:∀e∈rows,e.length=1) (hnews:∀(F:Nat→Prop) (w:World),All2 (CD w F) rows.flatten news)
 (hres:∀(loc:Where) (objs:List Obj) (w:World) (F:Nat→Prop),CV loc objs w F res rv∧Ref objs res)
 (hc:∀{w:World} {b:Nat} {p v:Value} {own:Option (Nat×Nat)} {bs:List Value},w.heap[b]? =some (.cells #[p,v] T (0,0))→(p= .pointer none∨p= .pointer (some ⟨b,0,none⟩))→Buf E w b own v bs→bs.length+rows.length≤1073741824→
  Calls C.P f (.pointer (some ⟨b,0,none⟩)::ys.map a.eval).toArray w fun e w'=>e= .returned rv∧YH T E w b own (bs++news) w'):
 RSW C B F0 w0 st a w ⟨dst,.call ⟨.value (.func f),args,ts⟩,ty,pos,after,g⟩ (Vk dst (ev st x) rows res st.objs):=by
 have hx:=(qO h x).1;unfold Vk;split
 ·rename_i d aj;rw[aj]at hx;split
  ·rename_i T' q hd;obtain⟨rfl,a2⟩:=helem _ _ _ aj hd;obtain⟨b,c0,hl,hxv⟩:=hx _ rfl (by rw[hd];rfl);have ak:∀(t:Nat) (up:List (Nat×Obj)) (rows':List (List D)),dst=some t→qq st.objs t=true→room (rows'.length)→(q= .nilS∨∃k es,q= .arr k∧nth .none st.objs k= .arr 1 es false)→
    (∀es,((q= .nilS∧es=[])∨∃k,q= .arr k∧nth .none st.objs k= .arr 1 es false)→rows'=es++rows)→
    (∀j,nth .none (upds st.objs up) j=if j=d then .bld T' (.arr t)else if j=t then .arr 1 rows' false else if jq q j=true then .dead else nth .none st.objs j)→
    ∀(next:Act→World→Prop) (Q:Exit→Act→World→Prop),(∀a' w',St.has C B F0 w0 (st.put dst res up) a' w'→next a' w')→Oper.wp C.P ⟨dst,.call ⟨.value (.func f),args,ts⟩,ty,pos,after,g⟩ a w next Q:=by
    intro t up rows' hdst a0 a1 hq a8 hup next Q aa
    obtain⟨b1,c1,p,v,own,bs,es,af,ac,hp,a7,a6,a9,ab⟩:=Zg h hd hq;rw[hl]at af;simp only[AA,AB]at af;obtain⟨rfl,rfl⟩:=af;rw[a2]at a7;have ag:rows'=es++rows:=a8 es (by
     rcases ab with⟨h1,_,h3,_⟩|⟨k,h1,h2,_⟩
     ·exact .inl ⟨h1,h3⟩
     ·exact .inr ⟨k,h1,h2⟩)
    have hbl:bs.length=es.length:=by have:=a6.length;rw[qm a9]at this;omega
    have a3:=hc ac hp a7 (by
     have:rows'.length≤1073741824:=a1;rw[ag,Aq]at this;omega)
    have hae:(.pointer (some ⟨b,0,none⟩)::ys.map a.eval).toArray=args.map a.eval:=by apply Ab;rw[Aa,hargs,Ak,hxv]
    rw[hae]at a3;refine xY hf hb hn a3 fun e w' he=>?_
    obtain⟨rfl,hw⟩:=he;refine⟨_,rfl,aa _ _ ?_⟩;have hrl:∀e∈rows',e.length=1:=by
     rw[ag];intro e he;rcases An.1 he with he|he
     ·exact a9 e he
     ·exact hrows e he
    refine YI (t:=t) (d:=d) (q:=q) (own:=own) (rows':=rows') (bs':=bs++news) h hd ?_ a0 hl hw a2 hone hrl ?_ a1 hup hres
    ·rcases ab with⟨h1,h2,_,_⟩|⟨k,h1,h2,h3⟩
     ·exact .inl ⟨h1,h2⟩
     ·exact .inr ⟨k,es,h1,h2,h3⟩
    ·rw[ag,List.flatten_append];exact All2.append a6 (hnews _ _)
   split
   ·split
    ·rename_i t;split
     ·rename_i a0;intro a1 next Q aa
      obtain⟨a5,a4⟩:=qE a0;have hdt:d≠t:=fun e=>by subst e;rw[hd]at a5;simp at a5
      refine ak t _ rows rfl a0 a1 (.inl rfl) (fun es a8=>?_) (fun j=>?_) next Q aa
      ·rcases a8 with⟨_,rfl⟩|⟨k,hk,_⟩
       ·rfl
       ·simp at hk
      ·have ad:d<st.objs.length:=qQ (by rw[hd];simp);simp only[upds,jq];by_cases h1:j=d
       ·subst h1;rw[qb _ _ _ (by rw[qi];exact ad),if_pos rfl]
       ·rw[qa _ _ _ (A9 h1),if_neg h1];by_cases h2:j=t
        ·subst h2;rw[qb _ _ _ a4,if_pos rfl]
        ·rw[qa _ _ _ (A9 h2),if_neg h2];simp
     ·trivial
    ·trivial
   ·rename_i k;split
    ·rename_i sz es hk;split
     ·rename_i t;split
      ·rename_i ai;simp only[Ad]at ai;obtain⟨ah,a0⟩:=ai;have ah:sz=1:=A5 ah;subst ah;intro a1 next Q aa
       obtain⟨a5,a4⟩:=qE a0;have hdt:d≠t:=fun e=>by subst e;rw[hd]at a5;simp at a5
       have hkt:k≠t:=fun e=>by subst e;rw[hk]at a5;simp at a5
       have hkd:k≠d:=fun e=>by subst e;rw[hk]at hd;simp at hd
       have ad:d<st.objs.length:=qQ (by rw[hd];simp);have hkl:k<st.objs.length:=qQ (by rw[hk];simp);refine ak t _ (es++rows) rfl a0 (by rw[Aq];exact a1) (.inr ⟨k,es,rfl,hk⟩) (fun es' a8=>?_) (fun j=>?_) next Q aa
       ·rcases a8 with⟨he,_⟩|⟨k',he,ae⟩
        ·simp at he
        ·simp only[V.arr.injEq]at he;subst he;rw[hk]at ae;simp only[Ae]at ae;rw[ae.2.1]
       ·simp only[upds,jq];by_cases h1:j=d
        ·subst h1;rw[qb _ _ _ (by rw[qi,qi];exact ad),if_pos rfl]
        ·rw[qa _ _ _ (A9 h1),if_neg h1];by_cases h2:j=t
         ·subst h2;rw[qb _ _ _ (by rw[qi];exact a4),if_pos rfl]
         ·rw[qa _ _ _ (A9 h2),if_neg h2];by_cases h3:j=k
          ·subst h3;rw[qb _ _ _ hkl];simp
          ·rw[qa _ _ _ (A9 h3)];simp[h3]
      ·trivial
     ·trivial
    ·trivial
   ·trivial
  ·trivial
 ·trivial
theorem HP {k b c:Nat} {es:List (List D)} {v:V} {x:Value} {w':World} (h:Conc C B F0 w0 F loc st a w) (hk:nth .none st.objs k= .arr 1 es false) (hl:loc k=some (b,c)) (hkeep:Keeps w w' (fun j=>j=b))
 (hv:∀(loc:Where) (objs:List Obj) (w:World) (F:Nat→Prop),CV loc objs w F v x∧Ref objs v):St.has C B F0 w0 (st.put dst v [(k,.dead)]) (a.put dst x) w':=by
 have a1:=h.objs k;rw[hk]at a1;obtain⟨a3,_,hlen,a1⟩:=a1;have hnF:¬F b:=by
  rcases a1 with⟨h4,_⟩|⟨b3,c3,cs,t,h4,h5,_⟩
  ·rw[h4]at hl;simp at hl
  ·rw[h4]at hl;simp only[AA,AB]at hl;obtain⟨rfl,rfl⟩:=hl;exact h5
 have hkl:k<st.objs.length:=qQ (by rw[hk];simp);have hfk:=h.fresh _ _ _ hl;have hsz:=hkeep.below.size;have a0:∀β,β<w.heap.size→β≠b→w'.heap[β]? =w.heap[β]? :=fun β h1 h2=>hkeep.block β h1 h2
 have a4:∀β,F β→w'.heap[β]? =w.heap[β]? :=fun β hβ=>a0 β (h.bound β hβ) fun e=>hnF (e▸hβ)
 let loc':Where:=⟨loc.P,fun j=>if j=k then none else loc j,loc.ty⟩
 have hn:∀j,nth .none (upds st.objs [(k,.dead)]) j=if j=k then .dead else nth .none st.objs j:=by
  intro j;show nth .none (upd st.objs k .dead) j=_;by_cases h1:j=k
  ·subst h1;rw[qb _ _ _ hkl,if_pos rfl]
  ·rw[qa _ _ _ (A9 h1),if_neg h1]
 have a2:Le st.objs (upds st.objs [(k,.dead)]) loc loc':=by
  refine⟨rfl,fun j hj=>rfl,fun j hj=>?_,fun j o' hj hc hbx=>?_,fun j s' es' fz' hj hc=>?_⟩
  ·rw[hn];split
   ·simp
   ·exact hj
  ·rw[hn]at hc;split at hc
   ·rw[←hc]at hbx;simp[xE]at hbx
   ·rename_i e;exact⟨by rw[hc];exact hbx,by simp[loc',e]⟩
  ·rw[hn]at hc;split at hc
   ·simp at hc
   ·rename_i e;exact⟨⟨_,_,hc,rfl⟩,by simp[loc',e]⟩
 have hbw:BelowX B w w':=⟨hkeep.below.os,hkeep.below.tape,hkeep.below.output,hkeep.below.size,fun j hj hjX=>a0 j (by have:=h.hB;omega) (fun e=>by
  rcases hfk.1 with h1|h1
  ·omega
  ·exact hjX (e▸h1))⟩
 refine⟨F,loc',h.step (fun _ h=>h) a4 a2 (h.below.trans hbw) (by have:=h.hB;omega) (fun j=>?_) ?_ ?_ (fun β hβ=>by have:=h.bound β hβ;omega) h.fsub (hv _ _ _ _).1 (hv loc' _ w' F).2⟩
 ·rw[hn];by_cases h1:j=k
  ·rw[if_pos h1];show loc' j=none;simp[loc',h1]
  ·rw[if_neg h1];refine CO.le (fun _ h=>h) a4 a2 (by simp[loc',h1]) rfl (fun β c hβ=>⟨?_,fun h=>h⟩) (h.objs j);refine a0 β (h.fresh _ _ _ hβ).2 fun e=>?_
   subst e;exact h1 (h.inj _ _ _ _ _ hβ hl)
 ·intro j j' β c c' g1 g2;simp only[loc']at g1 g2;split at g1
  ·simp at g1
  ·split at g2
   ·simp at g2
   ·exact h.inj _ _ _ _ _ g1 g2
 ·intro j β c g1;simp only[loc']at g1;split at g1
  ·simp at g1
  ·have:=h.fresh _ _ _ g1;exact⟨this.1,by omega⟩
theorem Vl {w:World} {F:Nat→Prop}:∀{es:List (List D)} {bs:List Value},vC es=true→All2 (CD w F) es.flatten bs→bs=(jQ es).map fun x=> .int .u8 x.toNat
 |[],bs,_,h=>by
  cases bs with
  |nil=>rfl
  |cons b bs=>exact h.elim
 |e::r,bs,hb,h=>by
  have hr:=kV hb;simp only[jQ,zc,Ak,A4]at hr;have hb2:=hb;simp only[vC,Ad]at hb2;rw[←hr.1]at h;cases bs with
  |nil=>exact h.elim
  |cons b bs=>
   obtain⟨h1,h2⟩:=h;have hb':b= .int .u8 (HJ e).toNat:=by cases h1;rfl
   rw[hb',Vl hb2.2 h2];rfl
theorem wo:∀(es:List (List D)),(jQ es).length=es.length
 |[]=>rfl
 |e::r=>by simp only[jQ,A2];rw[wo r]
theorem O8 {T E fW fB fS:Nat} {args:Array Operand} {ts:Array TypeId} (hk:BldK C.P T E fW fB fS) (h:Conc C B F0 w0 F loc st a w):
 RSW C B F0 w0 st a w ⟨dst,.call ⟨.value (.func fS),args,ts⟩,ty,pos,after,g⟩ (onB T HK dst (args.toList.map (ev st)) st.objs):=by
 unfold onB;split
 ·rename_i v0 vs a1;split
  ·rename_i hbt;unfold HK;split
   ·rename_i d a3;obtain⟨fn,hf,hb,hn⟩:=hk.there fS (.inr (.inr rfl));obtain⟨x,hax,hx⟩:∃x,args.toList=[x]∧ev st x= .box d 0:=by
     match hl:args.toList with
     |[]=>rw[hl]at a3;simp at a3
     |[x]=>rw[hl]at a3;simp only[Ak,Al,A4]at a3;exact⟨x,rfl,a3.1⟩
     |_::_::_=>rw[hl]at a3;simp at a3
    have ac:=(qO h x).1;rw[hx]at ac;rw[a3]at a1;simp only[A4]at a1;obtain⟨rfl,rfl⟩:=a1;split
    ·rename_i T' q hd;have hT:T'=T:=by simpa [O6,hd]using hbt
     subst hT;obtain⟨b,c0,hl,ac⟩:=ac _ rfl (by rw[hd];rfl);have af: #[.pointer (some ⟨b,0,none⟩)]=args.map a.eval:=by apply Ab;rw[Aa,hax,Ak,ac];rfl
     split
     ·obtain⟨b1,c1,p,v,ah,bs,es,a7,a5,hp,a2,a4,a9,a8⟩:=Zg h hd (.inl rfl);rw[hl]at a7;simp only[AA,AB]at a7;obtain⟨rfl,rfl⟩:=a7;have hv:v= .slice none 0 0:=by
       rcases a8 with⟨_,_,_,hv⟩|⟨k,hk,_⟩
       ·exact hv
       ·simp at hk
      subst hv;intro next Q ad
      have hc:=hk.sn a5;rw[af]at hc;refine xY hf hb hn hc fun e w' he=>?_
      obtain⟨rfl,a0⟩:=he;refine⟨_,rfl,ad _ _ ⟨_,loc,h.behind ⟨a0.below.os,a0.below.tape,a0.below.output,a0.below.size,fun j hj=>a0.block j hj (fun h=>h)⟩ (CD.str []) trivial⟩⟩
     ·rename_i k;split
      ·rename_i sz es ab;split
       ·rename_i ae;have ae:sz=1:=A5 ae;subst ae;intro a6 next Q ad
        obtain⟨b1,c1,p,v,ah,bs,es',a7,a5,hp,a2,a4,a9,a8⟩:=Zg h hd (.inr ⟨k,es,rfl,ab⟩);rw[hl]at a7;simp only[AA,AB]at a7;obtain⟨rfl,rfl⟩:=a7;rcases a8 with⟨h1,_⟩|⟨k',h1,h2,h3⟩
        ·simp at h1
        simp only[V.arr.injEq]at h1;subst h1;rw[ab]at h2;simp only[Ae]at h2;obtain⟨_,rfl,_⟩:=h2;have hbs:=Vl a6.2 a4;cases ah with
        |none=>obtain⟨_,h5⟩:=a2;have h6:=a4.length;rw[qm a9,h5]at h6;exact absurd (Av (by simpa using h6)) a6.1
        |some gc=>
         obtain⟨g0,c⟩:=gc;rw[hk.elem,hbs]at a2;have ag:=h.objs k;rw[ab]at ag;have aa:es.length≤1073741824:=ag.1;have hc:=hk.st (jQ es) (fun e=>a6.1 (Av (by rw[←wo,e];rfl))) a5 a2 (by rw[wo];exact aa);rw[af]at hc;refine xY hf hb hn hc fun e w' he=>?_
         obtain⟨rfl,a0⟩:=he;exact⟨_,rfl,ad _ _ (HP h ab h3.symm a0 fun _ _ _ _=>⟨CD.str _,trivial⟩)⟩
       ·trivial
      ·trivial
     ·trivial
    ·trivial
   ·trivial
  ·trivial
 ·trivial
theorem O9 {T E fW fB fS:Nat} {args:Array Operand} {ts:Array TypeId} (hk:BldK C.P T E fW fB fS) (h:Conc C B F0 w0 F loc st a w):
 RSW C B F0 w0 st a w ⟨dst,.call ⟨.value (.func fW),args,ts⟩,ty,pos,after,g⟩ (onB T PZ dst (args.toList.map (ev st)) st.objs):=by
 unfold onB;split
 ·rename_i v0 vs a0;split
  ·rename_i a3;unfold PZ;split
   ·rename_i v s a1;obtain⟨fn,hf,hb,hn⟩:=hk.there fW (.inl rfl);obtain⟨x,y,hax,hx,hy⟩:∃x y,args.toList=[x,y]∧ev st x=v∧ev st y= .c (.str s):=by
     match hl:args.toList with
     |[]=>rw[hl]at a1;simp at a1
     |[x]=>rw[hl]at a1;simp at a1
     |[x,y]=>rw[hl]at a1;simp only[Ak,Al,A4]at a1;exact⟨x,y,rfl,a1.1,a1.2.1⟩
     |_::_::_::_=>rw[hl]at a1;simp at a1
    rw[a1]at a0;simp only[A4]at a0;obtain⟨rfl,rfl⟩:=a0;have a2:=(qO h y).1;rw[hy]at a2;have a2:a.eval y= .string ⟨⟨s⟩⟩:=(fun(u:Value) (hu:CD w F (.str s) u)=>(by cases hu;rfl:u= .string ⟨⟨s⟩⟩)) _ a2;rw[←hx];rw[←hx]at a3;have a4:(⟨⟨s⟩⟩:ByteArray).size=s.length:=rfl;have hrl:(zc s).length=s.length:=by simp[zc]
    refine HO (T:=T) (ys:=[y]) h hf hb hn hax hk.one (fun d T' q h1 h2=>?_) (YJ s) (fun _ _=>HN s) (rv:= .tuple #[.int .i64 s.length,.nilIface]) (fun loc objs w F=>⟨⟨_,rfl,.int _ _,.nilI,trivial⟩,trivial⟩) ?_
    ·have:T'=T:=by simpa [h1,O6,h2]using a3
     subst this;exact⟨rfl,hk.elem⟩
    ·intro w b p v own bs h1 h2 h3 h4;have hc:=hk.ws ⟨⟨s⟩⟩ h1 h2 h3 (by rw[a4];omega);rw[a4]at hc;have:(.pointer (some ⟨b,0,none⟩)::[y].map a.eval).toArray= #[.pointer (some ⟨b,0,none⟩),.string ⟨⟨s⟩⟩]:=by rw[Ak,a2];rfl
     rw[this];exact hc
   ·trivial
  ·trivial
 ·trivial
theorem OA {T E fW fB fS:Nat} {args:Array Operand} {ts:Array TypeId} (hk:BldK C.P T E fW fB fS) (h:Conc C B F0 w0 F loc st a w):
 RSW C B F0 w0 st a w ⟨dst,.call ⟨.value (.func fB),args,ts⟩,ty,pos,after,g⟩ (onB T Ra dst (args.toList.map (ev st)) st.objs):=by
 unfold onB;split
 ·rename_i v0 vs a0;split
  ·rename_i a3;unfold Ra;split
   ·rename_i v n a1;obtain⟨fn,hf,hb,hn⟩:=hk.there fB (.inr (.inl rfl));obtain⟨x,y,hax,hx,hy⟩:∃x y,args.toList=[x,y]∧ev st x=v∧ev st y= .c (.int .u8 n):=by
     match hl:args.toList with
     |[]=>rw[hl]at a1;simp at a1
     |[x]=>rw[hl]at a1;simp at a1
     |[x,y]=>rw[hl]at a1;simp only[Ak,Al,A4]at a1;exact⟨x,y,rfl,a1.1,a1.2.1⟩
     |_::_::_::_=>rw[hl]at a1;simp at a1
    rw[a1]at a0;simp only[A4]at a0;obtain⟨rfl,rfl⟩:=a0;have a2:=(qO h y).1;rw[hy]at a2;have a2:a.eval y= .int .u8 n:=(fun(u:Value) (hu:CD w F (.int .u8 n) u)=>(by cases hu;rfl:u= .int .u8 n)) _ a2;rw[←hx];rw[←hx]at a3;refine HO (T:=T) (ys:=[y]) (news:=[.int .u8 n]) h hf hb hn hax hk.one (fun d T' q h1 h2=>?_) (fun e he=>by simp at he;subst he;rfl) (fun _ _=>⟨.int _ _,trivial⟩) (rv:= .nilIface) (fun loc objs w F=>⟨CD.nilI,trivial⟩) ?_
    ·have:T'=T:=by simpa [h1,O6,h2]using a3
     subst this;exact⟨rfl,hk.elem⟩
    ·intro w b p v own bs h1 h2 h3 h4;have hc:=hk.wb n h1 h2 h3 h4;have:(.pointer (some ⟨b,0,none⟩)::[y].map a.eval).toArray= #[.pointer (some ⟨b,0,none⟩),.int .u8 n]:=by rw[Ak,a2];rfl
     rw[this];exact hc
   ·trivial
  ·trivial
 ·trivial
theorem Lz {T E fW fB fS:Nat} (hk:BldK C.P T E fW fB fS) (he:C.eff=vX T fW fB fS):EffOk C where
 rs:=by
  intro f e hf B F0 w0 F loc st a w dst args ts ty pos a1 g h;rw[he]at hf;rcases kw hf with⟨rfl,rfl⟩|⟨rfl,rfl⟩|⟨rfl,rfl⟩
  ·exact O9 hk h
  ·exact OA hk h
  ·exact O8 hk h
 ag:=by
  intro f e hf dst vs ob ob' h hd;rw[he]at hf;have hW:∀(e:Option Nat→List V→List Obj→R),(e dst vs ob=e dst vs ob')→onB T e dst vs ob=onB T e dst vs ob':=by
   intro e a0;unfold onB;split
   ·rename_i v r;rw[O7 (ob:=ob) (ob':=ob') fun k hk=>h k (by
     rw[qy]at hk ⊢;obtain⟨j,hj,h2⟩:=hk;exact⟨j,by simp only[List.flatMap_cons,An];exact .inl hj,h2⟩),a0]
   ·rfl
  rcases kw hf with⟨rfl,rfl⟩|⟨rfl,rfl⟩|⟨rfl,rfl⟩
  ·apply hW;unfold PZ;split
   ·exact HL (fun k hk=>h k (by simpa [qk]using hk)) hd
   ·rfl
  ·apply hW;unfold Ra;split
   ·exact HL (fun k hk=>h k (by simpa [qk]using hk)) hd
   ·rfl
  ·exact hW _ (O5 h)
 good:=by
  intro f e hf dst vs ob hv hb;rw[he]at hf;have hW:∀(e:Option Nat→List V→List Obj→R),N0 (C.wd f) dst (zp ob (vs.flatMap qk)) ob (e dst vs ob)→N0 (C.wd f) dst (zp ob (vs.flatMap qk)) ob (onB T e dst vs ob):=by
   intro e a0;unfold onB;split
   ·split
    ·exact a0
    ·trivial
   ·trivial
  rcases kw hf with⟨rfl,rfl⟩|⟨rfl,rfl⟩|⟨rfl,rfl⟩
  ·apply hW;unfold PZ;split
   ·rename_i v s;have:=fun wd=>Jx (wd:=wd) (dst:=dst) (v:=v) (rows:=zc s) (res:= .tp [.c (.int .i64 s.length),.c .nilI]) (ob:=ob) rfl (hv v (by simp)) hb
    simpa [qk]using this _
   ·trivial
  ·apply hW;unfold Ra;split
   ·rename_i v n;have:=fun wd=>Jx (wd:=wd) (dst:=dst) (v:=v) (rows:=[[.int .u8 n]]) (res:= .c .nilI) (ob:=ob) rfl (hv v (by simp)) hb
    simpa [qk]using this _
   ·trivial
  ·exact hW _ HM
end
end Eng
end

section
namespace Eng
open Go Go.RowKit
structure EffAt (C:Cx) (f:Nat) (e:Option Nat→List V→List Obj→R):Prop where
 rs:∀{B:Bd} {F0:Nat→Prop} {w0:World} {F:Nat→Prop} {loc:Where} {st:St} {a:Act} {w:World} {dst:Option Nat} {args:Array Operand} {ts:Array TypeId} {ty:TypeId} {pos:String} {after:Array Edge} {g:Option (Nat×Bool)},
  Conc C B F0 w0 F loc st a w→RSW C B F0 w0 st a w ⟨dst,.call ⟨.value (.func f),args,ts⟩,ty,pos,after,g⟩ (e dst (args.toList.map (ev st)) st.objs)
 ag:∀(dst:Option Nat) (vs:List V) (ob ob':List Obj),(∀k∈zp ob (vs.flatMap qk),nth .none ob k=nth .none ob' k)→(∀d,Ow (C.wd f) dst d→qq ob d=qq ob' d)→e dst vs ob=e dst vs ob'
 good:∀(dst:Option Nat) (vs:List V) (ob:List Obj),(∀v∈vs,∀k∈qk v,nth .none ob k≠ .none)→(∀k,∀u∈qM (nth .none ob k),∀j∈qk u,nth .none ob j≠ .none)→N0 (C.wd f) dst (zp ob (vs.flatMap qk)) ob (e dst vs ob)
theorem j7 {C:Cx} (h:∀f e,C.eff f=some e→EffAt C f e):EffOk C where
 rs hf _ _ _ _ _ _ _ _ _ _ _ _ _ _ _ hc:=(h _ _ hf).rs hc
 ag hf:=(h _ _ hf).ag
 good hf:=(h _ _ hf).good
theorem Jy {C:Cx} {T E fW fB fS:Nat} (hk:BldK C.P T E fW fB fS) {f:Nat} {e:Option Nat→List V→List Obj→R} (hf:vX T fW fB fS f=some e):EffAt C f e:=by
 have h:EffOk ⟨C.P,C.G,C.bt,vX T fW fB fS,C.keep,C.wd⟩:=Lz hk rfl;have hc:∀{B:Bd} {F0:Nat→Prop} {w0:World} {F:Nat→Prop} {loc:Where} {st:St} {a:Act} {w:World},Conc C B F0 w0 F loc st a w→Conc ⟨C.P,C.G,C.bt,vX T fW fB fS,C.keep,C.wd⟩ B F0 w0 F loc st a w:=
  fun h=>⟨h.prog,h.below,h.hB,h.defers,h.tmps,h.refs,h.objs,h.inj,h.fresh,h.bound,h.fsub,h.fsup,h.inv⟩
 have hb:∀{B:Bd} {F0:Nat→Prop} {w0:World} {st:St} {a:Act} {w:World},St.has ⟨C.P,C.G,C.bt,vX T fW fB fS,C.keep,C.wd⟩ B F0 w0 st a w→St.has C B F0 w0 st a w:=
  fun⟨F,loc,h⟩=>⟨F,loc,h.prog,h.below,h.hB,h.defers,h.tmps,h.refs,h.objs,h.inj,h.fresh,h.bound,h.fsub,h.fsup,h.inv⟩
 refine⟨fun{B F0 w0 F loc st a w dst args ts ty pos after g} hconc=>?_,h.ag hf,h.good hf⟩;have h1:=h.rs hf (dst:=dst) (args:=args) (ts:=ts) (ty:=ty) (pos:=pos) (after:=after) (g:=g) (hc hconc);have h2:=h.good hf dst (args.toList.map (ev st)) st.objs (fun v hv k hk=>by
  obtain⟨x,hx,rfl⟩:=Ar.1 hv;have:=(qO hconc x).2;cases hxv:ev st x<;>rw[hxv]at hk this<;>simp only[qk,Ao,List.not_mem_nil]at hk<;>first|(subst hk;exact this)|exact this k hk) (fun k u hu j hj=>by
  have hwf:=N2 ⟨F,loc,hconc⟩;exact hwf.2 k u hu j hj)
 generalize e dst (args.toList.map (ev st)) st.objs=r at *;cases r with
 |fail=>trivial
 |ok v up=>exact fun next Q hn=>h1 next Q fun a' w' hh=>hn a' w' (hb hh)
 |cond c v up=>exact fun hcc next Q hn=>h1 hcc next Q fun a' w' hh=>hn a' w' (hb hh)
 |look z row off ag=>exact h2.elim
 |call f as sh up=>exact h2.elim
structure ExtK (P:Program) (f:Nat) (run:Array Value→Sem Value):Prop where
 run:∀(args:Array Value) (w:World),(callFunc f args).run P w=((run args).run P w).andThen fun v w'=> .ok (.value v) w'
def N5 (_:Option Nat) (vs:List V) (_:List Obj):R:=
 match vs with
 |[.c (.str s),.c (.int .u8 n)]=> .ok (.c (.int .i64 (Lib.indexByte s n.toNat.toUInt8))) []
 |_=> .fail
def N6 (_:Option Nat) (vs:List V) (_:List Obj):R:=
 match vs with
 |[.c (.str s),.c (.int .u8 n)]=> .ok (.c (.int .i64 (Lib.countByte s n.toNat.toUInt8))) []
 |_=> .fail
theorem By {wd:Bool} {dst:Option Nat} {ks:List Nat} {ob:List Obj} {r:R} (h:∃d:D,r= .fail∨r= .ok (.c d) []):N0 wd dst ks ob r:=by
 obtain⟨d,rfl|rfl⟩:=h
 ·trivial
 ·exact⟨fun p hp=>by simp at hp,fun k hk=>by simp[qk]at hk⟩
theorem Jz {C:Cx} {f:Nat} {run:Array Value→Sem Value} (hk:ExtK C.P f run) {e:Option Nat→List V→List Obj→R} {d:List UInt8→Int→D}
 (he:e=fun _ vs _=>match vs with|[.c (.str s),.c (.int .u8 n)]=> .ok (.c (d s n)) []|_=> .fail)
 (hd:∀s n (w:World) (F:Nat→Prop),∃v,(run #[.string ⟨⟨s⟩⟩,.int .u8 n]).run C.P w= .ok v w∧CD w F (d s n) v):EffAt C f e:=by
 subst he;refine⟨fun{B F0 w0 F loc st a w dst args ts ty pos after g} h=>?_,fun _ _ _ _ _ _=>rfl,fun dst vs ob _ _=>?_⟩
 ·show RSW C B F0 w0 st a w _ (match args.toList.map (ev st)with|[.c (.str s),.c (.int .u8 n)]=> .ok (.c (d s n)) []|_=> .fail);split
  ·rename_i s n a0;obtain⟨x,y,hax,hx,hy⟩:∃x y,args.toList=[x,y]∧ev st x= .c (.str s)∧ev st y= .c (.int .u8 n):=by
    match hl:args.toList with
    |[]=>rw[hl]at a0;simp at a0
    |[x]=>rw[hl]at a0;simp at a0
    |[x,y]=>rw[hl]at a0;simp only[Ak,Al,A4]at a0;exact⟨x,y,rfl,a0.1,a0.2.1⟩
    |_::_::_::_=>rw[hl]at a0;simp at a0
   have a2:=(qO h x).1;have a3:=(qO h y).1;rw[hx]at a2;rw[hy]at a3;have a2:=vo a2;have a3:=ko a3;obtain⟨v,hv,hcd⟩:=hd s n w F;have a1:args.map a.eval= #[.string ⟨⟨s⟩⟩,.int .u8 n]:=by apply Ab;rw[Aa,hax,Ak,Ak,a2,a3];rfl
   refine rsw (r:= .ok (.c (d s n)) []) (qK h (x:=v) hcd trivial ?_);have:=hk.run #[.string ⟨⟨s⟩⟩,.int .u8 n] w;rw[hv]at this;simp only[execOp,resolve,Act.eval,Deferred.ofValue,invoke,a1]
   simpa using this
  ·trivial
 ·refine By ?_;split
  ·exact⟨_,.inr rfl⟩
  ·exact⟨.undef,.inl rfl⟩
theorem J0 {C:Cx} {f:Nat} (hk:ExtK C.P f Extern.BytealgIndexByte.indexByte):EffAt C f N5:=
 Jz hk (d:=fun s n=> .int .i64 (Lib.indexByte s n.toNat.toUInt8)) rfl fun s n w _=>⟨_,Lib.run_indexByteString ⟨⟨s⟩⟩ n w,.int _ _⟩
theorem J1 {C:Cx} {f:Nat} (hk:ExtK C.P f Extern.BytealgCount.count):EffAt C f N6:=
 Jz hk (d:=fun s n=> .int .i64 (Lib.countByte s n.toNat.toUInt8)) rfl fun s n w _=>⟨_,Lib.run_countString ⟨⟨s⟩⟩ n w,.int _ _⟩
end Eng
end

section
namespace Eng
open Go Go.RowKit Go.Sort
def SL (by_ c:Int):List Int→Int
 |[]=>c
 |y::_=>Af.wrap (c+Af.wrap (Af.wrap y*by_))
def OB (x c:Int):List Int→Int
 |[]=>Ah.wrap (x+c)
 |y::_=>Ah.wrap (Ah.wrap (x+c)+y)
def jw (by_:Int):List Int→List Int→Int→Int→List Int×Int×Int
 |[],_,c,b=>([],c,b)
 |x::us,vs,c,b=>
  let t:=SL by_ c vs
  let y:=Af.wrap (t.tmod 1000000000+b)
  match decide (Af.wrap x<y)with
  |true=>
   let r:=jw by_ us vs.tail (Af.wrap (t.tdiv 1000000000)) 1
   (Ah.wrap (Af.wrap (Af.wrap (Af.wrap x+1000000000)-y))::r.1,r.2)
  |false=>
   let r:=jw by_ us vs.tail (Af.wrap (t.tdiv 1000000000)) 0
   (Ah.wrap (Af.wrap (Af.wrap x-y))::r.1,r.2)
def QG:List Int→List Int→Int→List Int
 |[],_,_=>[]
 |x::us,vs,c=>
  let t:=OB x c vs
  match decide (1000000000≤t)with
  |true=>Ah.wrap (t-1000000000)::QG us vs.tail 1
  |false=>t::QG us vs.tail 0
theorem Qu (by_:Int):∀(us vs:List Int) (c b:Int),(jw by_ us vs c b).1.length=us.length
 |[],_,_,_=>rfl
 |x::us,vs,c,b=>by simp only[jw];split<;>simp[Qu by_ us]
theorem Qv:∀(us vs:List Int) (c:Int),(QG us vs c).length=us.length
 |[],_,_=>rfl
 |x::us,vs,c=>by simp only[QG];split<;>simp[Qv us]
structure SubK (P:Program) (fS fR:Nat):Prop where
 there:∀f,f=fS∨f=fR→∃fn,P.funcs[f]? =some fn∧fn.body≠none∧fn.name≠ "runtime.NumGoroutine"
 sub:∀{w:World} {g off cap bv ov cv:Nat} (us vs:List Int) (by_:Int),Holds (Aj .u32) w g off us.toArray→bv≠g→us.length≤1073741824→vs.length≤1073741824→
  (∀j (h:j<vs.length),w.cell? ⟨bv,ov+j,none⟩=some (.int .u32 vs[j]))→
  Calls P fS #[.slice (some ⟨g,off,none⟩) us.length cap,.slice (some ⟨bv,ov,none⟩) vs.length cv,.int .u64 by_] w fun e w'=>
   e= .returned (.bool (decide (0<(jw by_ us vs 0 0).2.2)||decide (0<(jw by_ us vs 0 0).2.1)))∧w'=putRow (Aj .u32) w g off (jw by_ us vs 0 0).1.toArray
 res:∀{w:World} {g off cap bv ov cv:Nat} (us vs:List Int),Holds (Aj .u32) w g off us.toArray→bv≠g→us.length≤1073741824→vs.length≤1073741824→
  (∀j (h:j<vs.length),w.cell? ⟨bv,ov+j,none⟩=some (.int .u32 vs[j]))→
  Calls P fR #[.slice (some ⟨g,off,none⟩) us.length cap,.slice (some ⟨bv,ov,none⟩) vs.length cv] w fun e w'=>
   e= .returned (.tuple #[])∧w'=putRow (Aj .u32) w g off (QG us vs 0).toArray
def intB:List D→Bool
 |[.int .u32 _]=>true
 |_=>false
def wq:List (List D)→Bool
 |[]=>true
 |e::r=>intB e&&wq r
def Bz:List D→Int
 |[.int _ n]=>n
 |_=>0
def qW (es:List (List D)):List Int:=es.map Bz
def xl (l:List Int):List (List D):=l.map fun n=>[.int .u32 n]
theorem Zh:∀{es:List (List D)},wq es=true→es=xl (qW es)
 |[],_=>rfl
 |e::r,h=>by
  simp only[wq,Ad]at h;have ih:=Zh h.2;have he:=h.1;unfold intB at he;split at he
  ·simp only[xl,qW,Ak,Bz]at ih ⊢;rw[←ih]
  ·simp at he
theorem QQ (l:List Int):(xl l).flatten=l.map (D.int .u32):=by
 induction l with
 |nil=>rfl
 |cons c l ih=>simp only[xl,Ak,A0]at ih ⊢;rw[ih];rfl
theorem xm (l:List Int):(xl l).length=l.length:=by simp[xl]
theorem Xq (l:List Int):∀e∈xl l,e.length=1:=by
 intro e he;simp only[xl,Ar]at he;obtain⟨c,_,rfl⟩:=he;rfl
def jR (c:Prop) [Decidable c] (res:List Int→V) (new:List Int→List Int) (x:V) (ob:List Obj):R:=
 match x with
 | .sub k off len=>match nth .none ob k with
  | .arr s es false=>match A6 s 1 with
   |true=> .cond (c∧off+len≤es.length∧wq ((es.drop off).take len)=true) (res (qW ((es.drop off).take len))) [(k,.arr 1 (es.take off++xl (new (qW ((es.drop off).take len)))++es.drop (off+len)) false)]
   |false=> .fail
  |_=> .fail
 |_=> .fail
def J2 (_:Option Nat) (vs:List V) (ob:List Obj):R:=
 match vs with
 |[x,.c (.sl ys),.c (.int .u64 n)]=>jR (ys≠[]∧wq ys=true∧ys.length≤1073741824)
  (fun us=> .c (.bool (decide (0<(jw n us (qW ys) 0 0).2.2)||decide (0<(jw n us (qW ys) 0 0).2.1)))) (fun us=>(jw n us (qW ys) 0 0).1) x ob
 |_=> .fail
def J5 (_:Option Nat) (vs:List V) (ob:List Obj):R:=
 match vs with
 |[x,.c (.sl ys)]=>jR (ys≠[]∧wq ys=true∧ys.length≤1073741824) (fun _=> .tp []) (fun us=>QG us (qW ys) 0) x ob
 |_=> .fail
theorem Xr {c:Prop} [Decidable c] {res:List Int→V} {new:List Int→List Int} {x:V} {ob ob':List Obj} (h:∀k∈zp ob (qk x),nth .none ob k=nth .none ob' k):jR c res new x ob=jR c res new x ob':=by
 cases x with
 |sub k off len=>simp only[jR];rw[h k (by simp[qk,qy])]
 |_=>rfl
theorem vY {wd:Bool} {dst:Option Nat} {c:Prop} [Decidable c] {res:List Int→V} {new:List Int→List Int} (hres:∀us,qk (res us)=[]) {x:V} {ob:List Obj}:N0 wd dst (zp ob (qk x)) ob (jR c res new x ob):=by
 unfold jR;split
 ·rename_i k off len;split
  ·rename_i s es hk;split
   ·refine⟨fun p hp=>?_,fun j hj=>by rw[hres]at hj;simp at hj⟩;simp only[Ao]at hp;subst hp;exact⟨.inr ⟨by simp[qk,qy],by rw[hk];simp⟩,by simp,fun u hu=>by simp[qM]at hu⟩
   ·trivial
  ·trivial
 ·trivial
section
variable {C:Cx} {B:Bd} {F0:Nat→Prop} {w0:World} {F:Nat→Prop} {loc:Where} {st:St} {a:Act} {w:World}
variable {dst:Option Nat} {ty:TypeId} {pos:String} {after:Array Edge} {g:Option (Nat×Bool)}
theorem HQ {k off len b c:Nat} {es:List (List D)} {us us':List Int} {v:V} {x:Value} (h:Conc C B F0 w0 F loc st a w) (hk:nth .none st.objs k= .arr 1 es false) (hl:loc k=some (b,c))
 (hle:off+len≤es.length) (hus:(es.drop off).take len=xl us) (hlen:us'.length=us.length)
 (hv:∀(loc:Where) (objs:List Obj) (w:World) (F:Nat→Prop),CV loc objs w F v x∧Ref objs v):
 St.has C B F0 w0 (st.put dst v [(k,.arr 1 (es.take off++xl us'++es.drop (off+len)) false)]) (a.put dst x) (putRow (Aj .u32) w b off us'.toArray):=by
 have hul:us.length=len:=by have:=congrArg A3 hus;rw[xm,At,Au]at this;omega
 have a6:=h.objs k;rw[hk]at a6;obtain⟨a5,_,a1,a6⟩:=a6;rcases a6 with⟨h4,_⟩|⟨b',c',cs,t,h4,h5,h6,h7,h8,h9,h10,h11⟩
 ·rw[h4]at hl;simp at hl
 rw[h4]at hl;simp only[AA,AB]at hl;obtain⟨rfl,rfl⟩:=hl;have hfk:=h.fresh _ _ _ h4;have hkl:k<st.objs.length:=qQ (by rw[hk];simp);generalize hes':es.take off++xl us'++es.drop (off+len)=es' at *;have aa:es'.length=es.length:=by rw[←hes'];simp only[Aq,At,Au,xm];omega
 have a3:∀e∈es',e.length=1:=by
  rw[←hes'];intro e he;simp only[An]at he;rcases he with(he|he)|he
  ·exact a1 e (List.mem_of_mem_take he)
  ·exact Xq us' e he
  ·exact a1 e (List.mem_of_mem_drop he)
 have hn:∀j,nth .none (upd st.objs k (.arr 1 es' false)) j=if j=k then .arr 1 es' false else nth .none st.objs j:=by
  intro j;by_cases h1:j=k
  ·subst h1;rw[qb _ _ _ hkl,if_pos rfl]
  ·rw[qa _ _ _ (A9 h1),if_neg h1]
 have a0:∀β,β≠b'→(putRow (Aj .u32) w b' off us'.toArray).heap[β]? =w.heap[β]? :=by intro β hβ;show(w.heap.modify b' _)[β]? =_;rw[Ac,if_neg (A9 hβ)]
 have a7:(putRow (Aj .u32) w b' off us'.toArray).heap[b']? =some (.cells (Ai (Aj .u32) off us'.toArray cs) t (0,0)):=by show(w.heap.modify b' _)[b']? =_;rw[Ac,if_pos rfl,h6];rfl
 have a9:∀β,F β→(putRow (Aj .u32) w b' off us'.toArray).heap[β]? =w.heap[β]? :=fun β hβ=>a0 β fun e=>h5 (e▸hβ)
 have a4:Le st.objs (upd st.objs k (.arr 1 es' false)) loc loc:=by
  refine⟨rfl,fun _ _=>rfl,fun j hj=>?_,fun j o' hj hc hbx=>?_,fun j s' es2 fz' hj hc=>?_⟩
  ·rw[hn];split
   ·simp
   ·exact hj
  ·rw[hn]at hc;split at hc
   ·rw[←hc]at hbx;simp[xE]at hbx
   ·exact⟨by rw[hc];exact hbx,rfl⟩
  ·rw[hn]at hc;split at hc
   ·rename_i e;subst e;simp only[Ae]at hc;obtain⟨rfl,rfl,rfl⟩:=hc;exact⟨⟨es,false,hk,aa⟩,rfl⟩
   ·exact⟨⟨_,_,hc,rfl⟩,rfl⟩
 refine⟨F,loc,h.step (up:=[(k,.arr 1 es' false)]) (fun _ h=>h) a9 a4 (h.below.trans ⟨rfl,rfl,rfl,by rw[size_putRow];exact A8 _,fun j hj hjX=>a0 j (fun e=>by
  rcases hfk.1 with h1|h1
  ·omega
  ·exact hjX (e▸h1))⟩) (by rw[size_putRow];exact h.hB) (fun j=>?_) h.inj (fun j β c hβ=>by rw[size_putRow];exact h.fresh j β c hβ) (fun β hβ=>by rw[size_putRow];exact h.bound β hβ) h.fsub (hv _ _ _ _).1 (hv loc _ w F).2⟩
 show CO loc (upd st.objs k (.arr 1 es' false)) _ F j (nth .none (upd st.objs k (.arr 1 es' false)) j);rw[hn];by_cases h1:j=k
 ·subst h1;rw[if_pos rfl];refine⟨by rw[aa];exact a5,by omega,a3,.inr ⟨b',c',_,t,h4,h5,a7,?_,by omega,fun i hi=>?_,h10,h11⟩⟩
  ·simp only[Ai,Array.size_mapIdx];exact h7
  ·rw[A7]at hi;obtain⟨u,hu,hcd⟩:=h9 i (by omega);have a2:=hcd.mono (F':=F) (fun _ h=>h) a9;have a8:(Ai (Aj .u32) off us'.toArray cs)[i]? =some (if off≤i∧i<off+us'.length then Aj .u32 (us'.toArray[i-off]!)else u):=by simp only[Ai,Array.getElem?_mapIdx,hu,Option.map_some,Az]
   refine⟨_,a8,?_⟩;have ac:∀(l:List (List D)),(∀e∈l,e.length=1)→∀i,i<l.length→nth .undef l.flatten i=nth .undef (nth [] l i) 0:=fun l hl i hi=>by
    have:=x7 hl i 0 hi (by omega)
    simpa using this
   rw[ac es' a3 i hi];rw[ac es a1 i (by omega)]at a2;by_cases hr:off≤i∧i<off+us'.length
   ·rw[if_pos hr];have ab:i-off<us'.length:=by omega
    have:nth [] es' i=[D.int .u32 (us'[i-off])]:=by
     rw[←hes',qI,As,Aw (by simp;omega),Ax (by simp[xm];omega)];have e1:i-(es.take off).length=i-off:=by simp;omega
     rw[e1];simp[xl,ab]
    rw[this];have:us'.toArray[i-off]! =us'[i-off]:=by simp[ab]
    rw[this];exact .int _ _
   ·rw[if_neg hr];have:nth [] es' i=nth [] es i:=by
     rw[←hes'];simp only[qI];by_cases h2:i<off
     ·rw[As,Ax (by simp;omega),Am h2]
     ·rw[Aw (by simp[xm];omega),Ay];congr 2;simp[xm];omega
    rw[this];exact a2
 ·rw[if_neg h1];refine CO.le (fun _ h=>h) a9 a4 rfl rfl (fun β c hβ=>⟨?_,fun h=>h⟩) (h.objs j);refine a0 β fun e=>?_
  subst e;exact h1 (h.inj _ _ _ _ _ hβ h4)
theorem Xs {f:Nat} {fn:Func} {x:Operand} {zs:List Operand} {c:Prop} [Decidable c] {res:List Int→V} {new:List Int→List Int} {args:Array Operand} {ts:Array TypeId}
 (h:Conc C B F0 w0 F loc st a w) (hf:C.P.funcs[f]? =some fn) (hb:fn.body≠none) (hn:fn.name≠ "runtime.NumGoroutine") (hargs:args.toList=x::zs)
 (hc:c→∀{g off cap:Nat} (us:List Int),Holds (Aj .u32) w g off us.toArray→¬F g→us.length≤1073741824→(new us).length=us.length∧∃rv,(∀(loc:Where) (objs:List Obj) (w:World) (F:Nat→Prop),CV loc objs w F (res us) rv∧Ref objs (res us))∧
  Calls C.P f (.slice (some ⟨g,off,none⟩) us.length cap::zs.map a.eval).toArray w fun e w'=>e= .returned rv∧w'=putRow (Aj .u32) w g off (new us).toArray):
 RSW C B F0 w0 st a w ⟨dst,.call ⟨.value (.func f),args,ts⟩,ty,pos,after,g⟩ (jR c res new (ev st x) st.objs):=by
 have hx:=(qO h x).1;unfold jR;split
 ·rename_i k off a7 hxv;rw[hxv]at hx;split
  ·rename_i s es hk;split
   ·rename_i hs;have hs:s=1:=A5 hs;subst hs;rintro⟨hcc,hle,a3⟩;have a3:=Zh a3;generalize hue:qW ((es.drop off).take a7)=us at *;obtain⟨b,cp,hl,hle2,hxe⟩:=hx 1 es false hk;have hul:us.length=a7:=by have:=congrArg A3 a3;rw[xm,At,Au]at this;omega
    have a4:=h.objs k;rw[hk]at a4;obtain⟨a2,_,a6,a4⟩:=a4;rcases a4 with⟨h4,_⟩|⟨b',c',cs,t,h4,h5,h6,h7,h8,h9,h10,h11⟩
    ·rw[h4]at hl;simp at hl
    rw[h4]at hl;simp only[AA,AB]at hl;obtain⟨rfl,rfl⟩:=hl;have a1:Holds (Aj .u32) w b' off us.toArray:=by
     intro j hj;have hj:j<us.length:=by simpa using hj
     obtain⟨u,hu,a8⟩:=h9 (off+j) (by omega);have hel:nth [] es (off+j)=[D.int .u32 us[j]]:=by
      have:nth [] ((es.drop off).take a7) j=nth [] es (off+j):=by simp only[qI];rw[Am (by omega),Ay]
      rw[←this,a3,qI];simp[xl,hj]
     have a9:=x7 a6 (off+j) 0 (by omega) (by omega);rw[A7,Nat.add_zero,hel]at a9;rw[a9]at a8;have hu':u= .int .u32 us[j]:=by cases(a8:CD _ _ (.int .u32 us[j]) _);rfl
     subst hu';refine⟨?_,?_⟩
     ·rw[Lib.cell_of_heap h6,hu];simp[hj]
     ·exact Lib.frozen_of_heap h6 _
    have hr:us.length≤1073741824:=by have:es.length≤1073741824:=a2;omega
    obtain⟨a5,rv,hrv,a0⟩:=hc hcc (cap:=c'-off) us a1 h5 hr;intro next Q hnx
    have hae:(.slice (some ⟨b',off,none⟩) us.length (c'-off)::zs.map a.eval).toArray=args.map a.eval:=by apply Ab;rw[Aa,hargs,Ak,hxe,hul,A7]
    rw[hae]at a0;refine xY hf hb hn a0 fun e w' he=>?_
    obtain⟨rfl,rfl⟩:=he;exact⟨_,rfl,hnx _ _ (HQ h hk h4 hle a3 a5 hrv)⟩
   ·trivial
  ·trivial
 ·trivial
theorem Vm {ys:List (List D)} {x:Value} (hx:CD w F (.sl ys) x) (hne:ys≠[]) (hl:wq ys=true):∃b o c,x= .slice (some ⟨b,o,none⟩) (qW ys).length c∧F b∧∀j (hj:j<(qW ys).length),w.cell? ⟨b,o+j,none⟩=some (.int .u32 (qW ys)[j]):=by
 have hys:=Zh hl;generalize qW ys=l at *;obtain⟨ad,c,a2,hlc,a0⟩:=hx.slice_inv;rcases a0 with h0|⟨b,o,a1,rfl,a0⟩
 ·exact absurd h0 hne
 ·subst hys;have hs1:a1=1:=by obtain⟨e,r,he⟩:=List.exists_cons_of_ne_nil hne;have h1:=a0.hs e (by rw[he];simp);have h2:=Xq l e (by rw[he];simp);omega
  subst hs1;rw[xm]at a2;refine⟨b,o,c,a2,a0.hF,fun j hj=>?_⟩;obtain⟨v,h1,h2⟩:=a0.hc j (by rw[xm];omega);rw[QQ,qn _ (by simpa using hj),List.getElem_map]at h2;have:v= .int .u32 l[j]:=by cases(h2:CD _ _ (.int .u32 l[j]) _);rfl
  rw[h1,this]
theorem vZ (ys:List (List D)):(qW ys).length=ys.length:=by simp[qW]
theorem J6 {fS fR:Nat} (hk:SubK C.P fS fR):EffAt C fS J2:=by
 refine⟨fun{B F0 w0 F loc st a w dst args ts ty pos after g} h=>?_,fun dst vs ob ob' h hd=>?_,fun dst vs ob hv hb=>?_⟩
 ·unfold J2;split
  ·rename_i v ys n a0;obtain⟨x,y2,z,hax,hx,hy,hz⟩:∃x y2 z,args.toList=[x,y2,z]∧ev st x=v∧ev st y2= .c (.sl ys)∧ev st z= .c (.int .u64 n):=by
    match hl:args.toList with
    |[]=>rw[hl]at a0;simp at a0
    |[x]=>rw[hl]at a0;simp at a0
    |[x,y]=>rw[hl]at a0;simp at a0
    |[x,y,z]=>rw[hl]at a0;simp only[Ak,Al,A4]at a0;exact⟨x,y,z,rfl,a0.1,a0.2.1,a0.2.2.1⟩
    |_::_::_::_::_=>rw[hl]at a0;simp at a0
   obtain⟨fn,hf,hb,hn⟩:=hk.there fS (.inl rfl);have a6:=(qO h y2).1;rw[hy]at a6;have a4:=(qO h z).1;rw[hz]at a4;have a4:=ko a4;rw[←hx];refine Xs (zs:=[y2,z]) h hf hb hn hax ?_;rintro⟨hne,a2,a3⟩ g off cap us hH hnF a5;obtain⟨b,o,c,hye,hF,a1⟩:=Vm a6 hne a2;refine⟨Qu _ _ _ _ _,_,fun loc objs w F=>⟨CD.bool _,trivial⟩,?_⟩;have:=hk.sub (cap:=cap) (cv:=c) us (qW ys) n hH (fun e=>hnF (e▸hF)) a5 (by rw[vZ];exact a3) a1;rw[Ak,Ak,Al,hye,a4];exact this
  ·trivial
 ·unfold J2;split
  ·exact Xr fun k hk=>h k (by simpa [qk]using hk)
  ·rfl
 ·unfold J2;split
  ·rename_i x ys n;have:=fun wd=>vY (wd:=wd) (dst:=dst) (ob:=ob) (x:=x) (c:=ys≠[]∧wq ys=true∧ys.length≤1073741824) (res:=fun us=> .c (.bool (decide (0<(jw n us (qW ys) 0 0).2.2)||decide (0<(jw n us (qW ys) 0 0).2.1)))) (new:=fun us=>(jw n us (qW ys) 0 0).1) (fun _=>rfl)
   simpa [qk]using this _
  ·trivial
theorem J7 {fS fR:Nat} (hk:SubK C.P fS fR):EffAt C fR J5:=by
 refine⟨fun{B F0 w0 F loc st a w dst args ts ty pos after g} h=>?_,fun dst vs ob ob' h hd=>?_,fun dst vs ob hv hb=>?_⟩
 ·unfold J5;split
  ·rename_i v ys a0;obtain⟨x,y2,hax,hx,hy⟩:∃x y2,args.toList=[x,y2]∧ev st x=v∧ev st y2= .c (.sl ys):=by
    match hl:args.toList with
    |[]=>rw[hl]at a0;simp at a0
    |[x]=>rw[hl]at a0;simp at a0
    |[x,y]=>rw[hl]at a0;simp only[Ak,Al,A4]at a0;exact⟨x,y,rfl,a0.1,a0.2.1⟩
    |_::_::_::_=>rw[hl]at a0;simp at a0
   obtain⟨fn,hf,hb,hn⟩:=hk.there fR (.inr rfl);have a5:=(qO h y2).1;rw[hy]at a5;rw[←hx];refine Xs (zs:=[y2]) h hf hb hn hax ?_;rintro⟨hne,a2,a3⟩ g off cap us hH hnF a4;obtain⟨b,o,c,hye,hF,a1⟩:=Vm a5 hne a2;refine⟨Qv _ _ _,_,fun loc objs w F=>⟨⟨#[],rfl,trivial⟩,trivial⟩,?_⟩;have:=hk.res (cap:=cap) (cv:=c) us (qW ys) hH (fun e=>hnF (e▸hF)) a4 (by rw[vZ];exact a3) a1;rw[Ak,Al,hye];exact this
  ·trivial
 ·unfold J5;split
  ·exact Xr fun k hk=>h k (by simpa [qk]using hk)
  ·rfl
 ·unfold J5;split
  ·rename_i x ys;have:=fun wd=>vY (wd:=wd) (dst:=dst) (ob:=ob) (x:=x) (c:=ys≠[]∧wq ys=true∧ys.length≤1073741824) (res:=fun _=> .tp []) (new:=fun us=>QG us (qW ys) 0) (fun _=>rfl)
   simpa [qk]using this _
  ·trivial
end
end Eng
end

section
namespace Eng
open Go Go.RowKit
def Vn (a b:Ann):Nat→Ann
 |0=>a
 |_=>b
def Rb (a b c:Ann):Nat→Ann
 |0=>a
 |1=>b
 |_=>c
def kx:List (List D)→Bool
 |[]=>true
 |e::r=>e.all QM&&kx r
theorem J8:∀{es:List (List D)},kx es=true→∀d∈es.flatten,QM d=true
 |[],_,d,hd=>by simp at hd
 |e::r,h,d,hd=>by
  simp only[kx,Ad]at h;simp only[A0,An]at hd;rcases hd with hd|hd
  ·exact List.all_eq_true.1 h.1 d hd
  ·exact J8 h.2 d hd
def Rc (st:St) (rs:List ResultVar):Option (Nat×List (List D)):=
 match rs with
 |[.tmp t]=>match nth .any st.tmps t with
  | .arr k=>match nth .none st.objs k with
   | .arr s es false=>some (s,es)
   |_=>none
  |_=>none
 |_=>none
def Rd (st:St) (rs:List ResultVar):Option (Nat×List (List D)):=
 match Rc st rs with
 |some (s,es)=>match es with
  |[]=>none
  |_::_=>match kx es with
   |true=>some (s,es)
   |false=>none
 |none=>none
theorem OC {st:St} {rs:List ResultVar} {s:Nat} {es:List (List D)} (h:Rc st rs=some (s,es)) (h1:es≠[]) (h2:kx es=true):Rd st rs=some (s,es):=by
 unfold Rd;rw[h];cases es with
 |nil=>exact absurd rfl h1
 |cons e r=>simp only[h2]
def jr (C:Cx) (f:Nat) (args:List A) (s:Nat) (es:List (List D)):Prop:=
 ∀(w:World) (F:Nat→Prop) (vs:List Value),(∀b,F b→b<w.heap.size)→Inv C F w→All2 (CA w F) args vs→
  Calls C.P f vs.toArray w fun e w'=>Below w.heap.size w w'∧∃b c cs t,e= .returned (.slice (some ⟨b,0,none⟩) es.length c)∧w.heap.size≤b∧b<w'.heap.size∧w'.heap[b]? =some (.cells cs t (0,0))∧cs.size=c*s∧(es.length≤c∧c≤9223372036854775807)∧
   room es.length∧0<s∧(∀e∈es,e.length=s)∧C.P.cellsOf t=s∧∀j,j<es.length*s→∃v,cs[j]? =some v∧∀(w:World) (F:Nat→Prop),CD w F (nth .undef es.flatten j) v
theorem JA {C C':Cx} (hG:C'.G=C.G) {F:Nat→Prop} {w:World} (h:Inv C F w):Inv C' F w:=fun g cs hg=>h g cs (hG▸hg)
theorem Zi {C C':Cx} (hP:C'.P=C.P) (hG:C'.G=C.G) {f:Nat} {as rs:List A} (h:qe C f as rs):qe C' f as rs:=by
 intro w F vs hb hi ha;rw[hP];exact h w F vs hb (JA hG.symm hi) ha
theorem Qw {C C':Cx} (hP:C'.P=C.P) (hG:C'.G=C.G) {f s:Nat} {as:List A} {es:List (List D)} (h:jr C f as s es):jr C' f as s es:=by
 intro w F vs hb hi ha;rw[hP];exact h w F vs hb (JA hG.symm hi) ha
section
variable {C:Cx}
theorem OD {fn:Func} {w:World} {F:Nat→Prop} {s':St} {a':Act} {w':World} {s:Nat} {es:List (List D)} (hh:St.has C ⟨w.heap.size,fun _=>False⟩ F w s' a' w') (has:Rd s' fn.results.toList=some (s,es)):
 a'.defers=[]∧∃v,(results fn a'.tmps).run C.P w'= .ok v w'∧Below w.heap.size w w'∧∃b c cs t,Ending.returned v= .returned (.slice (some ⟨b,0,none⟩) es.length c)∧w.heap.size≤b∧b<w'.heap.size∧w'.heap[b]? =some (.cells cs t (0,0))∧cs.size=c*s∧(es.length≤c∧c≤9223372036854775807)∧
  room es.length∧0<s∧(∀e∈es,e.length=s)∧C.P.cellsOf t=s∧∀j,j<es.length*s→∃v,cs[j]? =some v∧∀(w:World) (F:Nat→Prop),CD w F (nth .undef es.flatten j) v:=by
 obtain⟨F',loc',h⟩:=hh;have a3:∃e r,es=e::r∧kx es=true∧Rc s' fn.results.toList=some (s,es):=by
  unfold Rd at has;split at has
  ·rename_i s1 es1 h1;split at has
   ·simp at has
   ·split at has
    ·rename_i a4;simp only[AA,AB]at has;obtain⟨rfl,rfl⟩:=has;exact⟨_,_,rfl,a4,h1⟩
    ·simp at has
  ·simp at has
 obtain⟨e,r,rfl,a4,has⟩:=a3;unfold Rc at has;split at has
 ·rename_i t hrs;split at has
  ·rename_i k hk;split at has
   ·rename_i s0 es0 a6
    ··simp only[AA,AB]at has;obtain⟨rfl,rfl⟩:=has;have hx:=(yL h t).1;simp only[Act.eval]at hx;rw[hk]at hx;have a2:=h.objs k;rw[a6]at a2;obtain⟨a1,hs0,a0,a2⟩:=a2;rcases hx _ _ _ a6 with⟨b,c,hl,hv⟩|⟨_,h0,_⟩
      ·rcases a2 with⟨h4,_⟩|⟨b',c',cs,t',h4,h5,h6,h7,h8,h9,h10,h11⟩
       ·rw[h4]at hl;simp at hl
       ·rw[h4]at hl;simp only[AA,AB]at hl;obtain⟨rfl,rfl⟩:=hl;have a5:=h.fresh _ _ _ h4;refine⟨h.defers,.slice (some ⟨b',0,none⟩) (e::r).length c',?_,h.below.toBelow,b',c',cs,t',rfl,a5.1.elim id False.elim,a5.2,h6,h7,h8,a1,hs0,a0,by rw[←h.prog];exact h10,fun j hj=>?_⟩
        ·have hr:fn.results= #[.tmp t]:=by apply Ab;simpa using hrs
         unfold results;rw[hr];have hv':a'.tmps[t]?.getD undef= .slice (some ⟨b',0,none⟩) (e::r).length c':=by rw[←hv];simp
         simp[hv']
        ·obtain⟨v,q1,q2⟩:=h9 j hj;refine⟨v,q1,fun w F=>K8 q2 (J8 a4 _ ?_)⟩;rw[qn _ (by rw[qm a0];exact hj)];exact List.getElem_mem _
      ·simp at h0
   ·simp at has
  ·simp at has
 ·simp at has
def runFo (tab:Nat→List A→Option (List A)) (C:Cx) (lim n f:Nat) (args:List A):Option (Nat×List (List D)):=
 match C.P.funcs[f]? with
 |none=>none
 |some fn=>match fn.body with
  |none=>none
  |some c=>match wT (YF tab C lim n) C lim c (kd fn.ntmps args)with
   |some (.normal,s)=>Rd s fn.results.toList
   |some (.ret,s)=>Rd s fn.results.toList
   |_=>none
def B0 (C:Cx) (Gv:Nat→List A→List A→Prop) (anns:Nat→Ann) (fn:Func) (args:List A) (Q:Nat→List (List D)→Prop):Prop:=
 match fn.body with
 |none=>False
 |some c=>wpC C Gv anns 0 c (fun e s=>match e with
  | .normal| .ret=>match Rc s fn.results.toList with
   |some (k,es)=>(es≠[]∧kx es=true)∧Q k es
   |none=>False
  | .exit _=>False) (kd fn.ntmps args)
theorem OE [EffOk C] {anns:Nat→Ann} {f:Nat} {fn:Func} {args:List A} {s:Nat} {es:List (List D)} (hm:C.P.follows .mixedOrders=true) (hf:C.P.funcs[f]? =some fn) (h:B0 C (qe C) anns fn args (fun k r=>k=s∧r=es)):jr C f args s es:=by
 intro w F vs hb a2 a0;unfold B0 at h;split at h
 ·exact h.elim
 rename_i c hc;refine calls_of_wp hf hc ?_;refine Code.wp_mono (fun e a' w' hp=>?_) (N4 hm c 0 _ _ _ _ h (wQ hb a2 a0));obtain⟨x,s',hx,hq,_,hh⟩:=hp;have a3:∀k as,Rc s' fn.results.toList=some (k,as)→((as≠[]∧kx as=true)∧k=s∧as=es)→_:=fun k as a1 he=>OD (fn:=fn) hh (by rw[OC a1 he.1.1 he.1.2,he.2.1,he.2.2])
 cases x with
 |normal=>
  have hx:e= .normal:=hx;subst hx;simp only at hq;split at hq
  ·rename_i k as a1;exact a3 k as a1 hq
  ·exact hq.elim
 |ret=>
  have hx:e= .ret:=hx;subst hx;simp only at hq;split at hq
  ·rename_i k as a1;exact a3 k as a1 hq
  ·exact hq.elim
 |exit i=>exact hq.elim
def Xt (own:List A→Option (Nat×List (List D))) (dst:Option Nat) (vs:List V) (ob:List Obj):R:=
 match dst with
 |none=> .fail
 |some d=>match qq ob d,kL ob vs with
  |true,some (as,us)=>match own as with
   |some (s,es)=> .ok (.arr d) (us++[(d,.arr s es false)])
   |none=> .fail
  |_,_=> .fail
variable {B:Bd} {F0:Nat→Prop} {w0:World} {F:Nat→Prop} {loc:Where} {st:St} {a:Act} {w:World}
theorem Conc.adoptNew {dst:Option Nat} {d s b c:Nat} {es:List (List D)} {cs:Array Value} {t:TypeId} {w':World} (h:Conc C B F0 w0 F loc st a w) (hd:qq st.objs d=true) (hbel:Below w.heap.size w w')
 (hb1:w.heap.size≤b) (hb2:b<w'.heap.size) (hblk:w'.heap[b]? =some (.cells cs t (0,0))) (hsz:cs.size=c*s) (hlc:es.length≤c∧c≤9223372036854775807) (hroom:room es.length) (hs0:0<s) (hlen:∀e∈es,e.length=s) (ht:C.P.cellsOf t=s)
 (hcd:∀j,j<es.length*s→∃v,cs[j]? =some v∧∀(w:World) (F:Nat→Prop),CD w F (nth .undef es.flatten j) v):
 Conc C B F0 w0 F (at_ loc d (b,c) t) (st.put dst (.arr d) [(d,.arr s es false)]) (a.put dst (.slice (some ⟨b,0,none⟩) es.length c)) w':=by
 obtain⟨a0,a1⟩:=qE hd;have hw:∀b,F b→w'.heap[b]? =w.heap[b]? :=fun b hb=>hbel.block b (h.bound b hb)
 have a5:=hbel.size;have a4:Le st.objs (upd st.objs d (.arr s es false)) loc (at_ loc d (b,c) t):=by
  refine⟨rfl,fun k hk=>by
   have:k≠d:=fun e=>by subst e;exact absurd a0 hk
   simp[at_,this],fun k hk=>?_,fun k o' hk hc hbx=>?_,fun k s a2 a3 hk hc=>?_⟩
  ·by_cases hkd:d=k
   ·subst hkd;exact absurd a0 hk
   ·rw[qa _ _ _ hkd];exact hk
  ·by_cases hkd:d=k
   ·subst hkd;exact absurd a0 hk
   ·rw[qa _ _ _ hkd]at hc;exact⟨by rw[hc];exact hbx,by simp[at_,A9 hkd]⟩
  ·by_cases hkd:d=k
   ·subst hkd;exact absurd a0 hk
   ·rw[qa _ _ _ hkd]at hc;exact⟨⟨_,_,hc,rfl⟩,by simp[at_,A9 hkd]⟩
 refine h.step (up:=[(d,.arr s es false)]) (fun _ h=>h) hw a4 (h.below.trans (.of hbel h.hB)) (by have:=h.hB;omega) (fun k=>?_) ?_ ?_ (fun b hb=>by have:=h.bound b hb;omega) h.fsub ?_ ?_
 ·show CO _ (upd st.objs d (.arr s es false)) _ _ _ (nth .none (upd st.objs d (.arr s es false)) k);by_cases hk:d=k
  ·subst hk;rw[qb _ _ _ a1];refine⟨hroom,hs0,hlen,.inr ⟨b,c,cs,t,by simp[at_],fun hF=>?_,hblk,hsz,hlc,fun j hj=>?_,?_,by simp[at_]⟩⟩
   ·have:=h.bound b hF;omega
   ·obtain⟨v,q1,q2⟩:=hcd j hj;exact⟨v,q1,q2 _ _⟩
   ·show loc.P.cellsOf t=s;rw[h.prog];exact ht
  ·rw[qa _ _ _ hk];refine CO.le (fun _ h=>h) hw a4 (by simp[at_,A9 hk]) (by simp[at_,A9 hk]) (fun b c hb=>⟨hbel.block b (h.fresh _ _ _ hb).2,fun h=>h⟩) (h.objs k)
 ·intro k k' b' c1 c2 h1 h2;have hf:=h.fresh;simp only[at_]at h1 h2;split at h1<;>split at h2
  ·rw[‹k=d›,‹k'=d›]
  ·simp only[AA,AB]at h1;have:=hf _ _ _ h2;omega
  ·simp only[AA,AB]at h2;have:=hf _ _ _ h1;omega
  ·exact h.inj _ _ _ _ _ h1 h2
 ·intro k b' c1 h1;simp only[at_]at h1;split at h1
  ·simp only[AA,AB]at h1;have:=h.hB;exact⟨.inl (by omega),by omega⟩
  ·have:=h.fresh _ _ _ h1;exact⟨this.1,by omega⟩
 ·intro s' a2 a3 hc;have hc:nth .none (upd st.objs d (.arr s es false)) d= .arr s' a2 a3:=hc;rw[qb _ _ _ a1]at hc;simp only[Ae]at hc;obtain⟨rfl,rfl,rfl⟩:=hc;exact .inl ⟨b,c,by simp[at_],rfl⟩
 ·show nth .none (upd st.objs d (.arr s es false)) d≠ .none;rw[qb _ _ _ a1];simp
theorem HR {f:Nat} {fn:Func} {own:List A→Option (Nat×List (List D))} (hf:C.P.funcs[f]? =some fn) (hb:fn.body≠none) (hn:fn.name≠ "runtime.NumGoroutine") (h:∀as s es,own as=some (s,es)→jr C f as s es):EffAt C f (Xt own):=by
 refine⟨fun{B F0 w0 F loc st a w dst args ts ty pos after g} hc=>?_,fun dst vs ob ob' hh hd=>?_,fun dst vs ob hv _=>?_⟩
 ·unfold Xt;split
  ·trivial
  ·rename_i d;split
   ·rename_i as us hd a8;split
    ·rename_i s es a7;obtain⟨a3,a4⟩:=vn hc a8 (kp hc args.toList);obtain⟨F',a6,hF',hb'⟩:=hc.freezes a3 st.dirty;have a2:=a4 F' hF' hb';have a1:(args.toList.map a.eval).toArray=args.map a.eval:=by apply Ab;simp
     intro next Q hnx
     have a0:=h as s es a7 w F' (args.toList.map a.eval) a6.bound a6.inv a2;rw[a1]at a0;refine xY hf hb hn a0 fun e w' he=>?_
     obtain⟨a5,b,c,cs,t,rfl,h1,h2,h3,h4,h5,h6,h7,h8,h9,h10⟩:=he;refine⟨_,rfl,hnx _ _ ⟨F',at_ loc d (b,c) t,?_⟩⟩;have h11:=a6.adoptNew (dst:=some d) (jo a3 hd) a5 h1 h2 h3 h4 h5 h6 h7 h8 h9 h10;have:upds st.objs (us++[(d,.arr s es false)])=upds (upds st.objs us) [(d,.arr s es false)]:=zr _ _ _;have hst:(st.put (some d) (.arr d) (us++[(d,.arr s es false)])).objs=upds (upds st.objs us) [(d,.arr s es false)]:=this;have h12:=h11.redirty (dt:=(st.put (some d) (.arr d) (us++[(d,.arr s es false)])).dirty);have e:(st.put (some d) (.arr d) (us++[(d,.arr s es false)]))=⟨upd st.tmps d (.arr d),upds (upds st.objs us) [(d,.arr s es false)],(st.put (some d) (.arr d) (us++[(d,.arr s es false)])).dirty⟩:=by rw[←hst];rfl
     rw[e];exact h12
    ·trivial
   ·trivial
 ·unfold Xt;cases dst with
  |none=>rfl
  |some d=>
   have h1:kL ob vs=kL ob' vs:=jM (c:=2) fun v hv k hk=> .inl (hh k (by
    rw[qy];exact⟨k,A1.2 ⟨v,hv,hk⟩,.inl rfl⟩))
   simp only[h1];rw[hd d (.inl rfl)]
 ·unfold Xt;split
  ·trivial
  ·rename_i d;split
   ·rename_i as us hd a8;split
    ·rename_i s es _;have a3:=yZ a8;refine⟨fun p hp=>?_,fun k hk=>?_⟩
     ·rcases An.1 hp with hp|hp
      ·obtain⟨⟨v,hv1,hv2⟩,s',es',fz,h1,h2⟩:=a3 p hp;refine⟨.inr ⟨?_,by rw[h1];simp⟩,by rw[h2];simp,fun u hu=>by rw[h2]at hu;simp[qM]at hu⟩;rw[qy];exact⟨p.1,A1.2 ⟨v,hv1,hv2⟩,.inl rfl⟩
      ·simp only[Ao]at hp;subst hp;exact⟨.inl ⟨.inl rfl,hd⟩,by simp,fun u hu=>by simp[qM]at hu⟩
     ·simp only[qk,Ao]at hk;subst hk;exact .inr ⟨hd,_,List.mem_append_right _ (Ao.2 rfl)⟩
    ·trivial
   ·trivial
end
end Eng
end

section
namespace Eng
open Go Go.RowKit
structure LentOk (P:Program) (w:World) (F:Nat→Prop) (g c:Nat) (cs:Array Value) (t:TypeId) (s:Nat) (es:List (List D)):Prop where
 nF:¬F g
 lt:g<w.heap.size
 blk:w.heap[g]? =some (.cells cs t (0,0))
 sz:cs.size=c*s
 lc:es.length≤c∧c≤9223372036854775807
 room:Eng.room es.length
 s0:0<s
 lens:∀e∈es,e.length=s
 ct:P.cellsOf t=s
 cd:∀j,j<es.length*s→∃v,cs[j]? =some v∧CD w F (nth .undef es.flatten j) v
def OF (g c:Nat):Option (Nat×List (List D))→List Value
 |none=>[]
 |some (_,es)=>[.slice (some ⟨g,0,none⟩) es.length c]
def B1 (g:Nat):Option (Nat×List (List D))→Nat→Prop
 |none,_=>False
 |some _,b=>b=g
def HS (n:Nat):Nat:=n+7
def YK (n:Nat) (pre:List A) (lent:Option (Nat×List (List D))) (post:List A):St:=
 match lent with
 |none=>kd n (pre++post)
 |some (s,es)=>⟨pre.map Oh++(.arr (HS n)::(post.map Oh++Ap (n-(pre.length+(1+post.length))) .any)),upd (Ap (n+8) .none) (HS n) (.arr s es false),[]⟩
section
variable {C:Cx}
theorem HT {n:Nat} {pre post:List A} {lent:Option (Nat×List (List D))} {vs1 vs2:List Value} {w:World} {F:Nat→Prop} {g c0:Nat} {cs0:Array Value} {t0:TypeId} (hb:∀b,F b→b<w.heap.size) (hinv:Inv C F w) (h1:All2 (CA w F) pre vs1) (h2:All2 (CA w F) post vs2)
 (hl:∀s0 es0,lent=some (s0,es0)→LentOk C.P w F g c0 cs0 t0 s0 es0):
 St.has C ⟨w.heap.size,B1 g lent⟩ F w (YK n pre lent post) {tmps:=(vs1++(OF g c0 lent++vs2)).toArray++Array.replicate (n-(vs1++(OF g c0 lent++vs2)).toArray.size) undef,defers:=[]} w:=by
 cases lent with
 |none=>have h:=wQ (n:=n) hb hinv (All2.append h1 h2);exact h
 |some se=>
  obtain⟨s,es⟩:=se;have hL:=hl s es rfl;have hl1:=h1.length;have hl2:=h2.length;have hkl:HS n<(Ap (n+8) Obj.none).length:=by simp[HS]
  have hn:∀k,nth .none (upd (Ap (n+8) Obj.none) (HS n) (.arr s es false)) k=if k=HS n then .arr s es false else .none:=fun k=>by
   by_cases hk:HS n=k
   ·subst hk;rw[qb _ _ _ hkl,if_pos rfl]
   ·rw[qa _ _ _ hk,Zc,if_neg (A9 hk)]
  refine⟨F,⟨C.P,fun k=>if k=HS n then some (g,c0)else none,fun _=>t0⟩,⟨rfl,BelowX.refl _ _,A8 _,rfl,?_,fun v hv=>?_,fun k=>?_,?_,?_,hb,fun b h=> .inl h,fun _ h=>h,hinv⟩⟩
  ·simp only[YK,OF,Array.toList_append,Array.toList_replicate,Az,As,List.cons_append,List.nil_append];refine wP (Qo h1) ⟨?_,wP (Qo h2) ?_⟩
   ·intro s' es' fz' hc;rw[hn,if_pos rfl]at hc;simp only[Ae]at hc;obtain⟨rfl,rfl,rfl⟩:=hc;exact .inl ⟨g,c0,by simp,rfl⟩
   ·have e:(vs1++Value.slice (some ⟨g,0,none⟩) es.length c0::vs2).length=pre.length+(1+post.length):=by simp only[Aq,A2];omega
    rw[e];exact yt trivial _
  ·simp only[YK,An,List.mem_cons,Ar,List.mem_replicate]at hv;rcases hv with⟨x,_,rfl⟩|rfl|⟨x,_,rfl⟩|⟨_,rfl⟩
   ·exact yr x
   ·intro hc;have hc:nth Obj.none (upd (Ap (n+8) Obj.none) (HS n) (.arr s es false)) (HS n)=Obj.none:=hc;rw[hn,if_pos rfl]at hc;simp at hc
   ·exact yr x
   ·trivial
  ·simp only[YK];rw[hn];split
   ·rename_i e;exact⟨hL.room,hL.s0,hL.lens,.inr ⟨g,c0,cs0,t0,by simp[e],hL.nF,hL.blk,hL.sz,hL.lc,hL.cd,hL.ct,rfl⟩⟩
   ·rename_i e;show(if k=HS n then some (g,c0)else none)=none;rw[if_neg e]
  ·intro k k' b c c' q1 q2;simp only at q1 q2;split at q1
   ·split at q2
    ·rename_i e1 e2;rw[e1,e2]
    ·simp at q2
   ·simp at q1
  ·intro k b c q1;simp only at q1;split at q1
   ·simp only[AA,AB]at q1;obtain⟨rfl,rfl⟩:=q1;exact⟨.inr rfl,hL.lt⟩
   ·simp at q1
variable {B:Bd} {F0:Nat→Prop} {w0:World} {F:Nat→Prop} {loc:Where} {st:St} {a:Act} {w:World}
end
end Eng
end
