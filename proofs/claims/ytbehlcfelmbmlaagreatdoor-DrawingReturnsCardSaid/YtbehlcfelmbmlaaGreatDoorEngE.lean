/- The engine, part 28: builders are as the effects say: the instance. -/
import Derived.Test.YtbehlcfelmbmlaaGreatDoorEngD
import Derived.Laws.Externs
import Derived.Lib.Bytealg
import Derived.Sort.Row
import Derived.Lib.Builder
open Array renaming toList_map→Aw, ext'→Bx, getElem?_modify→Dd
open Bool renaming and_eq_true→F2
open Eng.Obj.arr renaming injEq→Hu
open Go.IntKind renaming u64→Hv, u32→Hx
open Go.Sort renaming putCells→Hy
open Go.Value renaming int→I0
open List renaming map_cons→I1, map_nil→I2, getElem?_take_of_lt→J3, mem_append→J4, mem_singleton→J6, replicate→J7, length_append→J9, mem_map→Lm, append_assoc→Lr, length_take→Ls, length_drop→Lv, eq_nil_of_length_eq_zero→M0, getElem?_append_right→M1, getElem?_append_left→M2, getElem?_drop→No, size_toArray→Pl, flatten_cons→P1, mem_flatMap→Ts, length_cons→T1, length→U0
open List.cons renaming injEq→U3
open Nat renaming eq_of_beq_eq_true→V1, beq→W0, mul_one→W1, le_refl→W2
open Ne renaming symm→ao
open Option.some renaming injEq→ap
open Prod.mk renaming injEq→aq
section
namespace Eng
open Go Go.RowKit
def DS (T:Nat) (v:V) (ob:List Obj):Bool:=
 match v with
 | .box d 0=>match nth .none ob d with
  | .bld T' _=>W0 T' T
  |_=>false
 |_=>false
def onB (T:Nat) (e:Option Nat→List V→List Obj→R) (dst:Option Nat) (vs:List V) (ob:List Obj):R:=
 match vs with
 |v::_=>match DS T v ob with
  |true=>e dst vs ob
  |false=> .fail
 |[]=> .fail
def X0 (T fW fB fS:Nat) (f:Nat):Option (Option Nat→List V→List Obj→R):=
 match W0 f fW with
 |true=>some (onB T Fx)
 |false=>match W0 f fB with
  |true=>some (onB T Fy)
  |false=>match W0 f fS with
   |true=>some (onB T O9)
   |false=>none
theorem wY {T fW fB fS f:Nat} {e:Option Nat→List V→List Obj→R} (h:X0 T fW fB fS f=some e):(f=fW∧e=onB T Fx)∨(f=fB∧e=onB T Fy)∨(f=fS∧e=onB T O9):=by
 unfold X0 at h;split at h
 ·rename_i hb;exact .inl ⟨V1 hb,by simpa using h.symm⟩
 ·split at h
  ·rename_i hb;exact .inr (.inl ⟨V1 hb,by simpa using h.symm⟩)
  ·split at h
   ·rename_i hb;exact .inr (.inr ⟨V1 hb,by simpa using h.symm⟩)
   ·simp at h
theorem DT {T:Nat} {v:V} {ob ob':List Obj} (h:∀k∈zT ob (qk v),nth .none ob k=nth .none ob' k):DS T v ob=DS T v ob':=by
 unfold DS;split
 ·rename_i d;rw[h d (by simp[qk,qz])]
 ·rfl
section
variable {C:Cx} {B:Bd} {F0:Nat→Prop} {w0:World} {F:Nat→Prop} {loc:Where} {st:St} {a:Act} {w:World}
variable {dst:Option Nat} {ty:TypeId} {pos:String} {after:Array Edge} {g:Option (Nat×Bool)}
theorem zz {f:Nat} {fn:Func} {args:Array Operand} {ts:Array TypeId} (hf:C.P.funcs[f]? =some fn) (hb:fn.body≠none) (hn:fn.name≠ "runtime.NumGoroutine")
 {R:Ending→World→Prop} (hc:Calls C.P f (args.map a.eval) w R) {next:Act→World→Prop} {Q:Exit→Act→World→Prop} (h:∀e w',R e w'→∃v,e= .returned v∧next (a.put dst v) w'):
 Oper.wp C.P ⟨dst,.call ⟨.value (.func f),args,ts⟩,ty,pos,after,g⟩ a w next Q:=by
 have a0:(execOp a.eval ⟨dst,.call ⟨.value (.func f),args,ts⟩,ty,pos,after,g⟩).run C.P w= .ok (.enter f (args.map a.eval)) w:=by simp[execOp,resolve,Act.eval,Deferred.ofValue,invoke,callFunc,hf,hn,hb]
 unfold Oper.wp;rw[a0,Oper.upon_enter];refine hc.mono fun e w' he=>?_
 obtain⟨v,rfl,hx⟩:=h e w' he;exact hx
theorem WM {T d:Nat} {q:V} (h:Conc C B F0 w0 F loc st a w) (hd:nth .none st.objs d= .bld T q)
 (hq:q= .nilS∨∃k es,q= .arr k∧nth .none st.objs k= .arr 1 es false):
 ∃b c0 p v own bs rows,loc d=some (b,c0)∧w.heap[b]? =some (.cells #[p,v] T (0,0))∧(p= .pointer none∨p= .pointer (some ⟨b,0,none⟩))∧Buf (yl C.P T) w b own v bs∧
  All2 (CD w F) rows.flatten bs∧(∀e∈rows,e.length=1)∧((q= .nilS∧own=none∧rows=[]∧v= .slice none 0 0)∨∃k,q= .arr k∧nth .none st.objs k= .arr 1 rows false∧own=loc k):=by
 have a4:=h.objs d;rw[hd]at a4;obtain⟨b,c0,p,v,hl,hnF,a0,hp,a5,hqr,hqt⟩:=a4;rcases hq with rfl|⟨k,es,rfl,hk⟩
 ·have:v= .slice none 0 0:=a5;subst this;exact⟨b,c0,p,_,none,[],[],hl,a0,hp,⟨rfl,rfl⟩,trivial,by simp,.inl ⟨rfl,rfl,rfl,rfl⟩⟩
 ·have a2:=h.objs k;rw[hk]at a2;obtain⟨a6,_,a1,a2⟩:=a2;have hv:=a5 1 es false hk;rcases hv with⟨b2,c2,h1,h2⟩|⟨h1,h2,h3⟩
  ·rcases a2 with⟨h4,_⟩|⟨b3,c3,cs,t,h4,h5,h6,h7,h8,h9,h10,h11⟩
   ·rw[h4]at h1;simp at h1
   ·rw[h4]at h1;simp only[ap,aq]at h1;obtain⟨rfl,rfl⟩:=h1;have hf2:=h.fresh _ _ _ h4;have hbb:b3≠b:=fun e=>by subst e;have:=h.inj _ _ _ _ _ h4 hl;subst this;rw[hk]at hd;simp at hd
    have hfl:es.flatten.length=es.length:=by rw[qo a1];omega
    have hcl:(cs.toList.take es.length).length=es.length:=by simp;omega
    have a3:All2 (CD w F) es.flatten (cs.toList.take es.length):=by
     refine jG .undef undef (by omega) fun i hi=>?_
     obtain⟨x,hx,hcd⟩:=h9 i (by omega);have:nth undef (cs.toList.take es.length) i=x:=by rw[qI,J3 (by omega)];simp[hx]
     rw[this];exact hcd
    refine⟨b,c0,p,v,some (b3,c3),cs.toList.take es.length,es,hl,a0,hp,⟨by rw[hcl];exact h2,hbb,hf2.2,by omega,cs,t,h6,by omega,fun j u hj=>?_,?_⟩,a3,a1,.inr ⟨k,rfl,hk,h4.symm⟩⟩
    ·have hjl:j<es.length:=by have:=(List.getElem?_eq_some_iff.1 hj).1;omega
     rw[J3 hjl]at hj
     simpa using hj
    ·rw[←h11,hqt k rfl,h.prog]
  ·subst h2;exact⟨b,c0,p,v,none,[],[],hl,a0,hp,⟨h3,rfl⟩,trivial,by simp,.inr ⟨k,rfl,hk,h1.symm⟩⟩
theorem OC {w:World} {F:Nat→Prop} (s:List UInt8):All2 (CD w F) (qp s).flatten (byteCells ⟨⟨s⟩⟩):=by
 induction s with
 |nil=>trivial
 |cons c s ih=>exact⟨.int _ _,ih⟩
theorem Mb (s:List UInt8):∀e∈qp s,e.length=1:=by
 intro e he;simp only[qp,Lm]at he;obtain⟨c,_,rfl⟩:=he;rfl
theorem OD {T E f:Nat} {fn:Func} {x:Operand} {ys:List Operand} {rows:List (List D)} {news:List Value} {res:V} {rv:Value} {args:Array Operand} {ts:Array TypeId}
 (h:Conc C B F0 w0 F loc st a w) (hf:C.P.funcs[f]? =some fn) (hb:fn.body≠none) (hn:fn.name≠ "runtime.NumGoroutine") (hargs:args.toList=x::ys) (hone:C.P.cellsOf E=1)
 (helem:∀d T' q,ev st x= .box d 0→nth .none st.objs d= .bld T' q→T'=T∧yl C.P T'=E)
 (hrows:∀e∈rows,e.length=1) (hnews:∀(F:Nat→Prop) (w:World),All2 (CD w F) rows.flatten news)
 (hres:∀(loc:Where) (objs:List Obj) (w:World) (F:Nat→Prop),CV loc objs w F res rv∧Ref objs res)
 (hc:∀{w:World} {b:Nat} {p v:Value} {own:Option (Nat×Nat)} {bs:List Value},w.heap[b]? =some (.cells #[p,v] T (0,0))→(p= .pointer none∨p= .pointer (some ⟨b,0,none⟩))→Buf E w b own v bs→bs.length+rows.length≤1073741824→
  Calls C.P f (.pointer (some ⟨b,0,none⟩)::ys.map a.eval).toArray w fun e w'=>e= .returned rv∧LZ T E w b own (bs++news) w'):
 RSW C B F0 w0 st a w ⟨dst,.call ⟨.value (.func f),args,ts⟩,ty,pos,after,g⟩ (U9 dst (ev st x) rows res st.objs):=by
 have hx:=(qW h x).1;unfold U9;split
 ·rename_i d am;rw[am]at hx;split
  ·rename_i T' q hd;obtain⟨rfl,a2⟩:=helem _ _ _ am hd;obtain⟨b,c0,hl,hxv⟩:=hx _ rfl (by rw[hd];rfl);have an:∀(t:Nat) (up:List (Nat×Obj)) (rows':List (List D)),dst=some t→qx st.objs t=true→room (rows'.length)→(q= .nilS∨∃k es,q= .arr k∧nth .none st.objs k= .arr 1 es false)→
    (∀es,((q= .nilS∧es=[])∨∃k,q= .arr k∧nth .none st.objs k= .arr 1 es false)→rows'=es++rows)→
    (∀j,nth .none (upds st.objs up) j=if j=d then .bld T' (.arr t)else if j=t then .arr 1 rows' false else if kf q j=true then .dead else nth .none st.objs j)→
    ∀(next:Act→World→Prop) (Q:Exit→Act→World→Prop),(∀a' w',St.has C B F0 w0 (st.put dst res up) a' w'→next a' w')→Oper.wp C.P ⟨dst,.call ⟨.value (.func f),args,ts⟩,ty,pos,after,g⟩ a w next Q:=by
    intro t up rows' hdst a0 a1 hq a8 hup next Q ad
    obtain⟨b1,c1,p,v,own,bs,es,ai,af,hp,a7,a6,a9,ae⟩:=WM h hd hq;rw[hl]at ai;simp only[ap,aq]at ai;obtain⟨rfl,rfl⟩:=ai;rw[a2]at a7;have aj:rows'=es++rows:=a8 es (by
     rcases ae with⟨h1,_,h3,_⟩|⟨k,h1,h2,_⟩
     ·exact .inl ⟨h1,h3⟩
     ·exact .inr ⟨k,h1,h2⟩)
    have hbl:bs.length=es.length:=by have:=a6.length;rw[qo a9]at this;omega
    have a3:=hc af hp a7 (by
     have:rows'.length≤1073741824:=a1;rw[aj,J9]at this;omega)
    have hae:(.pointer (some ⟨b,0,none⟩)::ys.map a.eval).toArray=args.map a.eval:=by apply Bx;rw[Aw,hargs,I1,hxv]
    rw[hae]at a3;refine zz hf hb hn a3 fun e w' he=>?_
    obtain⟨rfl,hw⟩:=he;refine⟨_,rfl,ad _ _ ?_⟩;have hrl:∀e∈rows',e.length=1:=by
     rw[aj];intro e he;rcases J4.1 he with he|he
     ·exact a9 e he
     ·exact hrows e he
    refine Ma (t:=t) (d:=d) (q:=q) (own:=own) (rows':=rows') (bs':=bs++news) h hd ?_ a0 hl hw a2 hone hrl ?_ a1 hup hres
    ·rcases ae with⟨h1,h2,_,_⟩|⟨k,h1,h2,h3⟩
     ·exact .inl ⟨h1,h2⟩
     ·exact .inr ⟨k,es,h1,h2,h3⟩
    ·rw[aj,List.flatten_append];exact All2.append a6 (hnews _ _)
   split
   ·split
    ·rename_i t;split
     ·rename_i a0;intro a1 next Q ad
      obtain⟨a5,a4⟩:=qH a0;have hdt:d≠t:=fun e=>by subst e;rw[hd]at a5;simp at a5
      refine an t _ rows rfl a0 a1 (.inl rfl) (fun es a8=>?_) (fun j=>?_) next Q ad
      ·rcases a8 with⟨_,rfl⟩|⟨k,hk,_⟩
       ·rfl
       ·simp at hk
      ·have ag:d<st.objs.length:=xa (by rw[hd];simp);simp only[upds,kf];by_cases h1:j=d
       ·subst h1;rw[qc _ _ _ (by rw[qi];exact ag),if_pos rfl]
       ·rw[qa _ _ _ (ao h1),if_neg h1];by_cases h2:j=t
        ·subst h2;rw[qc _ _ _ a4,if_pos rfl]
        ·rw[qa _ _ _ (ao h2),if_neg h2];simp
     ·trivial
    ·trivial
   ·rename_i k;split
    ·rename_i sz es hk;split
     ·rename_i t;split
      ·rename_i al;simp only[F2]at al;obtain⟨ak,a0⟩:=al;have ak:sz=1:=V1 ak;subst ak;intro a1 next Q ad
       obtain⟨a5,a4⟩:=qH a0;have hdt:d≠t:=fun e=>by subst e;rw[hd]at a5;simp at a5
       have hkt:k≠t:=fun e=>by subst e;rw[hk]at a5;simp at a5
       have hkd:k≠d:=fun e=>by subst e;rw[hk]at hd;simp at hd
       have ag:d<st.objs.length:=xa (by rw[hd];simp);have hkl:k<st.objs.length:=xa (by rw[hk];simp);refine an t _ (es++rows) rfl a0 (by rw[J9];exact a1) (.inr ⟨k,es,rfl,hk⟩) (fun es' a8=>?_) (fun j=>?_) next Q ad
       ·rcases a8 with⟨he,_⟩|⟨k',he,ah⟩
        ·simp at he
        ·simp only[V.arr.injEq]at he;subst he;rw[hk]at ah;simp only[Hu]at ah;rw[ah.2.1]
       ·simp only[upds,kf];by_cases h1:j=d
        ·subst h1;rw[qc _ _ _ (by rw[qi,qi];exact ag),if_pos rfl]
        ·rw[qa _ _ _ (ao h1),if_neg h1];by_cases h2:j=t
         ·subst h2;rw[qc _ _ _ (by rw[qi];exact a4),if_pos rfl]
         ·rw[qa _ _ _ (ao h2),if_neg h2];by_cases h3:j=k
          ·subst h3;rw[qc _ _ _ hkl];simp
          ·rw[qa _ _ _ (ao h3)];simp[h3]
      ·trivial
     ·trivial
    ·trivial
   ·trivial
  ·trivial
 ·trivial
theorem OE {k b c:Nat} {es:List (List D)} {v:V} {x:Value} {w':World} (h:Conc C B F0 w0 F loc st a w) (hk:nth .none st.objs k= .arr 1 es false) (hl:loc k=some (b,c)) (hkeep:Keeps w w' (fun j=>j=b))
 (hv:∀(loc:Where) (objs:List Obj) (w:World) (F:Nat→Prop),CV loc objs w F v x∧Ref objs v):St.has C B F0 w0 (st.put dst v [(k,.dead)]) (a.put dst x) w':=by
 have a1:=h.objs k;rw[hk]at a1;obtain⟨a3,_,hlen,a1⟩:=a1;have hnF:¬F b:=by
  rcases a1 with⟨h4,_⟩|⟨b3,c3,cs,t,h4,h5,_⟩
  ·rw[h4]at hl;simp at hl
  ·rw[h4]at hl;simp only[ap,aq]at hl;obtain⟨rfl,rfl⟩:=hl;exact h5
 have hkl:k<st.objs.length:=xa (by rw[hk];simp);have hfk:=h.fresh _ _ _ hl;have hsz:=hkeep.below.size;have a0:∀β,β<w.heap.size→β≠b→w'.heap[β]? =w.heap[β]? :=fun β h1 h2=>hkeep.block β h1 h2
 have a4:∀β,F β→w'.heap[β]? =w.heap[β]? :=fun β hβ=>a0 β (h.bound β hβ) fun e=>hnF (e▸hβ)
 let loc':Where:=⟨loc.P,fun j=>if j=k then none else loc j,loc.ty⟩
 have hn:∀j,nth .none (upds st.objs [(k,.dead)]) j=if j=k then .dead else nth .none st.objs j:=by
  intro j;show nth .none (upd st.objs k .dead) j=_;by_cases h1:j=k
  ·subst h1;rw[qc _ _ _ hkl,if_pos rfl]
  ·rw[qa _ _ _ (ao h1),if_neg h1]
 have a2:Le st.objs (upds st.objs [(k,.dead)]) loc loc':=by
  refine⟨rfl,fun j hj=>rfl,fun j hj=>?_,fun j o' hj hc hbx=>?_,fun j s' es' fz' hj hc=>?_⟩
  ·rw[hn];split
   ·simp
   ·exact hj
  ·rw[hn]at hc;split at hc
   ·rw[←hc]at hbx;simp[xW]at hbx
   ·rename_i e;exact⟨by rw[hc];exact hbx,by simp[loc',e]⟩
  ·rw[hn]at hc;split at hc
   ·simp at hc
   ·rename_i e;exact⟨⟨_,_,hc,rfl⟩,by simp[loc',e]⟩
 have hbw:BelowX B w w':=⟨hkeep.below.os,hkeep.below.tape,hkeep.below.output,hkeep.below.size,fun j hj hjX=>a0 j (by have:=h.hB;omega) (fun e=>by
  rcases hfk.1 with h1|h1
  ·omega
  ·exact hjX (e▸h1))⟩
 refine⟨F,loc',h.step (fun _ h=>h) a4 a2 (h.below.trans hbw) (by have:=h.hB;omega) (fun j=>?_) ?_ ?_ (fun β hβ=>by have:=h.bound β hβ;omega) h.fsub (hv _ _ _ _).1 (hv loc' _ w' F).2⟩
 ·rw[hn];by_cases h1:j=k
  ·rw[if_pos h1];show loc' j=none;simp[loc',h1]
  ·rw[if_neg h1];refine CO.le (fun _ h=>h) a4 a2 (by simp[loc',h1]) rfl (fun β c hβ=>⟨?_,fun h=>h⟩) (h.objs j);refine a0 β (h.fresh _ _ _ hβ).2 fun e=>?_
   subst e;exact h1 (h.inj _ _ _ _ _ hβ hl)
 ·intro j j' β c c' g1 g2;simp only[loc']at g1 g2;split at g1
  ·simp at g1
  ·split at g2
   ·simp at g2
   ·exact h.inj _ _ _ _ _ g1 g2
 ·intro j β c g1;simp only[loc']at g1;split at g1
  ·simp at g1
  ·have:=h.fresh _ _ _ g1;exact⟨this.1,by omega⟩
theorem UA {w:World} {F:Nat→Prop}:∀{es:List (List D)} {bs:List Value},jK es=true→All2 (CD w F) es.flatten bs→bs=(zH es).map fun x=> .int .u8 x.toNat
 |[],bs,_,h=>by
  cases bs with
  |nil=>rfl
  |cons b bs=>exact h.elim
 |e::r,bs,hb,h=>by
  have hr:=yc hb;simp only[zH,qp,I1,U3]at hr;have hb2:=hb;simp only[jK,F2]at hb2;rw[←hr.1]at h;cases bs with
  |nil=>exact h.elim
  |cons b bs=>
   obtain⟨h1,h2⟩:=h;have hb':b= .int .u8 (U8 e).toNat:=by cases h1;rfl
   rw[hb',UA hb2.2 h2];rfl
theorem yw:∀(es:List (List D)),(zH es).length=es.length
 |[]=>rfl
 |e::r=>by simp only[zH,T1];rw[yw r]
theorem DU {T E fW fB fS:Nat} {args:Array Operand} {ts:Array TypeId} (hk:BldK C.P T E fW fB fS) (h:Conc C B F0 w0 F loc st a w):
 RSW C B F0 w0 st a w ⟨dst,.call ⟨.value (.func fS),args,ts⟩,ty,pos,after,g⟩ (onB T O9 dst (args.toList.map (ev st)) st.objs):=by
 unfold onB;split
 ·rename_i v0 vs a1;split
  ·rename_i hbt;unfold O9;split
   ·rename_i d a3;obtain⟨fn,hf,hb,hn⟩:=hk.there fS (.inr (.inr rfl));obtain⟨x,hax,hx⟩:∃x,args.toList=[x]∧ev st x= .box d 0:=by
     match hl:args.toList with
     |[]=>rw[hl]at a3;simp at a3
     |[x]=>rw[hl]at a3;simp only[I1,I2,U3]at a3;exact⟨x,rfl,a3.1⟩
     |_::_::_=>rw[hl]at a3;simp at a3
    have af:=(qW h x).1;rw[hx]at af;rw[a3]at a1;simp only[U3]at a1;obtain⟨rfl,rfl⟩:=a1;split
    ·rename_i T' q hd;have hT:T'=T:=by simpa [DS,hd]using hbt
     subst hT;obtain⟨b,c0,hl,af⟩:=af _ rfl (by rw[hd];rfl);have ai: #[.pointer (some ⟨b,0,none⟩)]=args.map a.eval:=by apply Bx;rw[Aw,hax,I1,af];rfl
     split
     ·obtain⟨b1,c1,p,v,ak,bs,es,a7,a5,hp,a2,a4,a9,a8⟩:=WM h hd (.inl rfl);rw[hl]at a7;simp only[ap,aq]at a7;obtain⟨rfl,rfl⟩:=a7;have hv:v= .slice none 0 0:=by
       rcases a8 with⟨_,_,_,hv⟩|⟨k,hk,_⟩
       ·exact hv
       ·simp at hk
      subst hv;intro next Q ag
      have hc:=hk.sn a5;rw[ai]at hc;refine zz hf hb hn hc fun e w' he=>?_
      obtain⟨rfl,a0⟩:=he;refine⟨_,rfl,ag _ _ ⟨_,loc,h.behind ⟨a0.below.os,a0.below.tape,a0.below.output,a0.below.size,fun j hj=>a0.block j hj (fun h=>h)⟩ (CD.str []) trivial⟩⟩
     ·rename_i k;split
      ·rename_i sz es ae;split
       ·rename_i ah;have ah:sz=1:=V1 ah;subst ah;intro a6 next Q ag
        obtain⟨b1,c1,p,v,ak,bs,es',a7,a5,hp,a2,a4,a9,a8⟩:=WM h hd (.inr ⟨k,es,rfl,ae⟩);rw[hl]at a7;simp only[ap,aq]at a7;obtain⟨rfl,rfl⟩:=a7;rcases a8 with⟨h1,_⟩|⟨k',h1,h2,h3⟩
        ·simp at h1
        simp only[V.arr.injEq]at h1;subst h1;rw[ae]at h2;simp only[Hu]at h2;obtain⟨_,rfl,_⟩:=h2;have hbs:=UA a6.2 a4;cases ak with
        |none=>obtain⟨_,h5⟩:=a2;have h6:=a4.length;rw[qo a9,h5]at h6;exact absurd (M0 (by simpa using h6)) a6.1
        |some gc=>
         obtain⟨g0,c⟩:=gc;rw[hk.elem,hbs]at a2;have aj:=h.objs k;rw[ae]at aj;have ad:es.length≤1073741824:=aj.1;have hc:=hk.st (zH es) (fun e=>a6.1 (M0 (by rw[←yw,e];rfl))) a5 a2 (by rw[yw];exact ad);rw[ai]at hc;refine zz hf hb hn hc fun e w' he=>?_
         obtain⟨rfl,a0⟩:=he;exact⟨_,rfl,ag _ _ (OE h ae h3.symm a0 fun _ _ _ _=>⟨CD.str _,trivial⟩)⟩
       ·trivial
      ·trivial
     ·trivial
    ·trivial
   ·trivial
  ·trivial
 ·trivial
theorem DV {T E fW fB fS:Nat} {args:Array Operand} {ts:Array TypeId} (hk:BldK C.P T E fW fB fS) (h:Conc C B F0 w0 F loc st a w):
 RSW C B F0 w0 st a w ⟨dst,.call ⟨.value (.func fW),args,ts⟩,ty,pos,after,g⟩ (onB T Fx dst (args.toList.map (ev st)) st.objs):=by
 unfold onB;split
 ·rename_i v0 vs a0;split
  ·rename_i a3;unfold Fx;split
   ·rename_i v s a1;obtain⟨fn,hf,hb,hn⟩:=hk.there fW (.inl rfl);obtain⟨x,y,hax,hx,hy⟩:∃x y,args.toList=[x,y]∧ev st x=v∧ev st y= .c (.str s):=by
     match hl:args.toList with
     |[]=>rw[hl]at a1;simp at a1
     |[x]=>rw[hl]at a1;simp at a1
     |[x,y]=>rw[hl]at a1;simp only[I1,I2,U3]at a1;exact⟨x,y,rfl,a1.1,a1.2.1⟩
     |_::_::_::_=>rw[hl]at a1;simp at a1
    rw[a1]at a0;simp only[U3]at a0;obtain⟨rfl,rfl⟩:=a0;have a2:=(qW h y).1;rw[hy]at a2;have a2:a.eval y= .string ⟨⟨s⟩⟩:=(fun(u:Value) (hu:CD w F (.str s) u)=>(by cases hu;rfl:u= .string ⟨⟨s⟩⟩)) _ a2;rw[←hx];rw[←hx]at a3;have a4:(⟨⟨s⟩⟩:ByteArray).size=s.length:=rfl;have hrl:(qp s).length=s.length:=by simp[qp]
    refine OD (T:=T) (ys:=[y]) h hf hb hn hax hk.one (fun d T' q h1 h2=>?_) (Mb s) (fun _ _=>OC s) (rv:= .tuple #[.int .i64 s.length,.nilIface]) (fun loc objs w F=>⟨⟨_,rfl,.int _ _,.nilI,trivial⟩,trivial⟩) ?_
    ·have:T'=T:=by simpa [h1,DS,h2]using a3
     subst this;exact⟨rfl,hk.elem⟩
    ·intro w b p v own bs h1 h2 h3 h4;have hc:=hk.ws ⟨⟨s⟩⟩ h1 h2 h3 (by rw[a4];omega);rw[a4]at hc;have:(.pointer (some ⟨b,0,none⟩)::[y].map a.eval).toArray= #[.pointer (some ⟨b,0,none⟩),.string ⟨⟨s⟩⟩]:=by rw[I1,a2];rfl
     rw[this];exact hc
   ·trivial
  ·trivial
 ·trivial
theorem DW {T E fW fB fS:Nat} {args:Array Operand} {ts:Array TypeId} (hk:BldK C.P T E fW fB fS) (h:Conc C B F0 w0 F loc st a w):
 RSW C B F0 w0 st a w ⟨dst,.call ⟨.value (.func fB),args,ts⟩,ty,pos,after,g⟩ (onB T Fy dst (args.toList.map (ev st)) st.objs):=by
 unfold onB;split
 ·rename_i v0 vs a0;split
  ·rename_i a3;unfold Fy;split
   ·rename_i v n a1;obtain⟨fn,hf,hb,hn⟩:=hk.there fB (.inr (.inl rfl));obtain⟨x,y,hax,hx,hy⟩:∃x y,args.toList=[x,y]∧ev st x=v∧ev st y= .c (.int .u8 n):=by
     match hl:args.toList with
     |[]=>rw[hl]at a1;simp at a1
     |[x]=>rw[hl]at a1;simp at a1
     |[x,y]=>rw[hl]at a1;simp only[I1,I2,U3]at a1;exact⟨x,y,rfl,a1.1,a1.2.1⟩
     |_::_::_::_=>rw[hl]at a1;simp at a1
    rw[a1]at a0;simp only[U3]at a0;obtain⟨rfl,rfl⟩:=a0;have a2:=(qW h y).1;rw[hy]at a2;have a2:a.eval y= .int .u8 n:=(fun(u:Value) (hu:CD w F (.int .u8 n) u)=>(by cases hu;rfl:u= .int .u8 n)) _ a2;rw[←hx];rw[←hx]at a3;refine OD (T:=T) (ys:=[y]) (news:=[.int .u8 n]) h hf hb hn hax hk.one (fun d T' q h1 h2=>?_) (fun e he=>by simp at he;subst he;rfl) (fun _ _=>⟨.int _ _,trivial⟩) (rv:= .nilIface) (fun loc objs w F=>⟨CD.nilI,trivial⟩) ?_
    ·have:T'=T:=by simpa [h1,DS,h2]using a3
     subst this;exact⟨rfl,hk.elem⟩
    ·intro w b p v own bs h1 h2 h3 h4;have hc:=hk.wb n h1 h2 h3 h4;have:(.pointer (some ⟨b,0,none⟩)::[y].map a.eval).toArray= #[.pointer (some ⟨b,0,none⟩),.int .u8 n]:=by rw[I1,a2];rfl
     rw[this];exact hc
   ·trivial
  ·trivial
 ·trivial
theorem SA {T E fW fB fS:Nat} (hk:BldK C.P T E fW fB fS) (he:C.eff=X0 T fW fB fS):EffOk C where
 rs:=by
  intro f e hf B F0 w0 F loc st a w dst args ts ty pos a1 g h;rw[he]at hf;rcases wY hf with⟨rfl,rfl⟩|⟨rfl,rfl⟩|⟨rfl,rfl⟩
  ·exact DV hk h
  ·exact DW hk h
  ·exact DU hk h
 ag:=by
  intro f e hf dst vs ob ob' h hd;rw[he]at hf;have hW:∀(e:Option Nat→List V→List Obj→R),(e dst vs ob=e dst vs ob')→onB T e dst vs ob=onB T e dst vs ob':=by
   intro e a0;unfold onB;split
   ·rename_i v r;rw[DT (ob:=ob) (ob':=ob') fun k hk=>h k (by
     rw[qz]at hk ⊢;obtain⟨j,hj,h2⟩:=hk;exact⟨j,by simp only[List.flatMap_cons,J4];exact .inl hj,h2⟩),a0]
   ·rfl
  rcases wY hf with⟨rfl,rfl⟩|⟨rfl,rfl⟩|⟨rfl,rfl⟩
  ·apply hW;unfold Fx;split
   ·exact OA (fun k hk=>h k (by simpa [qk]using hk)) hd
   ·rfl
  ·apply hW;unfold Fy;split
   ·exact OA (fun k hk=>h k (by simpa [qk]using hk)) hd
   ·rfl
  ·exact hW _ (DR h)
 good:=by
  intro f e hf dst vs ob hv hb;rw[he]at hf;have hW:∀(e:Option Nat→List V→List Obj→R),Cq (C.wd f) dst (zT ob (vs.flatMap qk)) ob (e dst vs ob)→Cq (C.wd f) dst (zT ob (vs.flatMap qk)) ob (onB T e dst vs ob):=by
   intro e a0;unfold onB;split
   ·split
    ·exact a0
    ·trivial
   ·trivial
  rcases wY hf with⟨rfl,rfl⟩|⟨rfl,rfl⟩|⟨rfl,rfl⟩
  ·apply hW;unfold Fx;split
   ·rename_i v s;have:=fun wd=>Yy (wd:=wd) (dst:=dst) (v:=v) (rows:=qp s) (res:= .tp [.c (.int .i64 s.length),.c .nilI]) (ob:=ob) rfl (hv v (by simp)) hb
    simpa [qk]using this _
   ·trivial
  ·apply hW;unfold Fy;split
   ·rename_i v n;have:=fun wd=>Yy (wd:=wd) (dst:=dst) (v:=v) (rows:=[[.int .u8 n]]) (res:= .c .nilI) (ob:=ob) rfl (hv v (by simp)) hb
    simpa [qk]using this _
   ·trivial
  ·exact hW _ OB
end
end Eng
end

section
namespace Eng
open Go Go.RowKit
structure EffAt (C:Cx) (f:Nat) (e:Option Nat→List V→List Obj→R):Prop where
 rs:∀{B:Bd} {F0:Nat→Prop} {w0:World} {F:Nat→Prop} {loc:Where} {st:St} {a:Act} {w:World} {dst:Option Nat} {args:Array Operand} {ts:Array TypeId} {ty:TypeId} {pos:String} {after:Array Edge} {g:Option (Nat×Bool)},
  Conc C B F0 w0 F loc st a w→RSW C B F0 w0 st a w ⟨dst,.call ⟨.value (.func f),args,ts⟩,ty,pos,after,g⟩ (e dst (args.toList.map (ev st)) st.objs)
 ag:∀(dst:Option Nat) (vs:List V) (ob ob':List Obj),(∀k∈zT ob (vs.flatMap qk),nth .none ob k=nth .none ob' k)→(∀d,DI (C.wd f) dst d→qx ob d=qx ob' d)→e dst vs ob=e dst vs ob'
 good:∀(dst:Option Nat) (vs:List V) (ob:List Obj),(∀v∈vs,∀k∈qk v,nth .none ob k≠ .none)→(∀k,∀u∈qT (nth .none ob k),∀j∈qk u,nth .none ob j≠ .none)→Cq (C.wd f) dst (zT ob (vs.flatMap qk)) ob (e dst vs ob)
theorem jL {C:Cx} (h:∀f e,C.eff f=some e→EffAt C f e):EffOk C where
 rs hf _ _ _ _ _ _ _ _ _ _ _ _ _ _ _ hc:=(h _ _ hf).rs hc
 ag hf:=(h _ _ hf).ag
 good hf:=(h _ _ hf).good
theorem Yz {C:Cx} {T E fW fB fS:Nat} (hk:BldK C.P T E fW fB fS) {f:Nat} {e:Option Nat→List V→List Obj→R} (hf:X0 T fW fB fS f=some e):EffAt C f e:=by
 have h:EffOk ⟨C.P,C.G,C.bt,X0 T fW fB fS,C.keep,C.wd⟩:=SA hk rfl;have hc:∀{B:Bd} {F0:Nat→Prop} {w0:World} {F:Nat→Prop} {loc:Where} {st:St} {a:Act} {w:World},Conc C B F0 w0 F loc st a w→Conc ⟨C.P,C.G,C.bt,X0 T fW fB fS,C.keep,C.wd⟩ B F0 w0 F loc st a w:=
  fun h=>⟨h.prog,h.below,h.hB,h.defers,h.tmps,h.refs,h.objs,h.inj,h.fresh,h.bound,h.fsub,h.fsup,h.inv⟩
 have hb:∀{B:Bd} {F0:Nat→Prop} {w0:World} {st:St} {a:Act} {w:World},St.has ⟨C.P,C.G,C.bt,X0 T fW fB fS,C.keep,C.wd⟩ B F0 w0 st a w→St.has C B F0 w0 st a w:=
  fun⟨F,loc,h⟩=>⟨F,loc,h.prog,h.below,h.hB,h.defers,h.tmps,h.refs,h.objs,h.inj,h.fresh,h.bound,h.fsub,h.fsup,h.inv⟩
 refine⟨fun{B F0 w0 F loc st a w dst args ts ty pos after g} hconc=>?_,h.ag hf,h.good hf⟩;have h1:=h.rs hf (dst:=dst) (args:=args) (ts:=ts) (ty:=ty) (pos:=pos) (after:=after) (g:=g) (hc hconc);have h2:=h.good hf dst (args.toList.map (ev st)) st.objs (fun v hv k hk=>by
  obtain⟨x,hx,rfl⟩:=Lm.1 hv;have:=(qW hconc x).2;cases hxv:ev st x<;>rw[hxv]at hk this<;>simp only[qk,J6,List.not_mem_nil]at hk<;>first|(subst hk;exact this)|exact this k hk) (fun k u hu j hj=>by
  have hwf:=Cs ⟨F,loc,hconc⟩;exact hwf.2 k u hu j hj)
 generalize e dst (args.toList.map (ev st)) st.objs=r at *;cases r with
 |fail=>trivial
 |ok v up=>exact fun next Q hn=>h1 next Q fun a' w' hh=>hn a' w' (hb hh)
 |cond c v up=>exact fun hcc next Q hn=>h1 hcc next Q fun a' w' hh=>hn a' w' (hb hh)
 |look z row off ag=>exact h2.elim
 |call f as sh up=>exact h2.elim
structure ExtK (P:Program) (f:Nat) (run:Array Value→Sem Value):Prop where
 run:∀(args:Array Value) (w:World),(callFunc f args).run P w=((run args).run P w).andThen fun v w'=> .ok (.value v) w'
def Cv (_:Option Nat) (vs:List V) (_:List Obj):R:=
 match vs with
 |[.c (.str s),.c (.int .u8 n)]=> .ok (.c (.int .i64 (Lib.indexByte s n.toNat.toUInt8))) []
 |_=> .fail
def Cw (_:Option Nat) (vs:List V) (_:List Obj):R:=
 match vs with
 |[.c (.str s),.c (.int .u8 n)]=> .ok (.c (.int .i64 (Lib.countByte s n.toNat.toUInt8))) []
 |_=> .fail
theorem IF {wd:Bool} {dst:Option Nat} {ks:List Nat} {ob:List Obj} {r:R} (h:∃d:D,r= .fail∨r= .ok (.c d) []):Cq wd dst ks ob r:=by
 obtain⟨d,rfl|rfl⟩:=h
 ·trivial
 ·exact⟨fun p hp=>by simp at hp,fun k hk=>by simp[qk]at hk⟩
theorem Y0 {C:Cx} {f:Nat} {run:Array Value→Sem Value} (hk:ExtK C.P f run) {e:Option Nat→List V→List Obj→R} {d:List UInt8→Int→D}
 (he:e=fun _ vs _=>match vs with|[.c (.str s),.c (.int .u8 n)]=> .ok (.c (d s n)) []|_=> .fail)
 (hd:∀s n (w:World) (F:Nat→Prop),∃v,(run #[.string ⟨⟨s⟩⟩,.int .u8 n]).run C.P w= .ok v w∧CD w F (d s n) v):EffAt C f e:=by
 subst he;refine⟨fun{B F0 w0 F loc st a w dst args ts ty pos after g} h=>?_,fun _ _ _ _ _ _=>rfl,fun dst vs ob _ _=>?_⟩
 ·show RSW C B F0 w0 st a w _ (match args.toList.map (ev st)with|[.c (.str s),.c (.int .u8 n)]=> .ok (.c (d s n)) []|_=> .fail);split
  ·rename_i s n a0;obtain⟨x,y,hax,hx,hy⟩:∃x y,args.toList=[x,y]∧ev st x= .c (.str s)∧ev st y= .c (.int .u8 n):=by
    match hl:args.toList with
    |[]=>rw[hl]at a0;simp at a0
    |[x]=>rw[hl]at a0;simp at a0
    |[x,y]=>rw[hl]at a0;simp only[I1,I2,U3]at a0;exact⟨x,y,rfl,a0.1,a0.2.1⟩
    |_::_::_::_=>rw[hl]at a0;simp at a0
   have a2:=(qW h x).1;have a3:=(qW h y).1;rw[hx]at a2;rw[hy]at a3;have a2:=QT a2;have a3:=wR a3;obtain⟨v,hv,hcd⟩:=hd s n w F;have a1:args.map a.eval= #[.string ⟨⟨s⟩⟩,.int .u8 n]:=by apply Bx;rw[Aw,hax,I1,I1,a2,a3];rfl
   refine rsw (r:= .ok (.c (d s n)) []) (qQ h (x:=v) hcd trivial ?_);have:=hk.run #[.string ⟨⟨s⟩⟩,.int .u8 n] w;rw[hv]at this;simp only[execOp,resolve,Act.eval,Deferred.ofValue,invoke,a1]
   simpa using this
  ·trivial
 ·refine IF ?_;split
  ·exact⟨_,.inr rfl⟩
  ·exact⟨.undef,.inl rfl⟩
theorem Y1 {C:Cx} {f:Nat} (hk:ExtK C.P f Extern.BytealgIndexByte.indexByte):EffAt C f Cv:=
 Y0 hk (d:=fun s n=> .int .i64 (Lib.indexByte s n.toNat.toUInt8)) rfl fun s n w _=>⟨_,Lib.run_indexByteString ⟨⟨s⟩⟩ n w,.int _ _⟩
theorem Y2 {C:Cx} {f:Nat} (hk:ExtK C.P f Extern.BytealgCount.count):EffAt C f Cw:=
 Y0 hk (d:=fun s n=> .int .i64 (Lib.countByte s n.toNat.toUInt8)) rfl fun s n w _=>⟨_,Lib.run_countString ⟨⟨s⟩⟩ n w,.int _ _⟩
end Eng
end

section
namespace Eng
open Go Go.RowKit Go.Sort
def Ii (by_ c:Int):List Int→Int
 |[]=>c
 |y::_=>Hv.wrap (c+Hv.wrap (Hv.wrap y*by_))
def DX (x c:Int):List Int→Int
 |[]=>Hx.wrap (x+c)
 |y::_=>Hx.wrap (Hx.wrap (x+c)+y)
def ku (by_:Int):List Int→List Int→Int→Int→List Int×Int×Int
 |[],_,c,b=>([],c,b)
 |x::us,vs,c,b=>
  let t:=Ii by_ c vs
  let y:=Hv.wrap (t.tmod 1000000000+b)
  match decide (Hv.wrap x<y)with
  |true=>
   let r:=ku by_ us vs.tail (Hv.wrap (t.tdiv 1000000000)) 1
   (Hx.wrap (Hv.wrap (Hv.wrap (Hv.wrap x+1000000000)-y))::r.1,r.2)
  |false=>
   let r:=ku by_ us vs.tail (Hv.wrap (t.tdiv 1000000000)) 0
   (Hx.wrap (Hv.wrap (Hv.wrap x-y))::r.1,r.2)
def JM:List Int→List Int→Int→List Int
 |[],_,_=>[]
 |x::us,vs,c=>
  let t:=DX x c vs
  match decide (1000000000≤t)with
  |true=>Hx.wrap (t-1000000000)::JM us vs.tail 1
  |false=>t::JM us vs.tail 0
theorem Ji (by_:Int):∀(us vs:List Int) (c b:Int),(ku by_ us vs c b).1.length=us.length
 |[],_,_,_=>rfl
 |x::us,vs,c,b=>by simp only[ku];split<;>simp[Ji by_ us]
theorem Jj:∀(us vs:List Int) (c:Int),(JM us vs c).length=us.length
 |[],_,_=>rfl
 |x::us,vs,c=>by simp only[JM];split<;>simp[Jj us]
structure SubK (P:Program) (fS fR:Nat):Prop where
 there:∀f,f=fS∨f=fR→∃fn,P.funcs[f]? =some fn∧fn.body≠none∧fn.name≠ "runtime.NumGoroutine"
 sub:∀{w:World} {g off cap bv ov cv:Nat} (us vs:List Int) (by_:Int),Holds (I0 .u32) w g off us.toArray→bv≠g→us.length≤1073741824→vs.length≤1073741824→
  (∀j (h:j<vs.length),w.cell? ⟨bv,ov+j,none⟩=some (.int .u32 vs[j]))→
  Calls P fS #[.slice (some ⟨g,off,none⟩) us.length cap,.slice (some ⟨bv,ov,none⟩) vs.length cv,.int .u64 by_] w fun e w'=>
   e= .returned (.bool (decide (0<(ku by_ us vs 0 0).2.2)||decide (0<(ku by_ us vs 0 0).2.1)))∧w'=putRow (I0 .u32) w g off (ku by_ us vs 0 0).1.toArray
 res:∀{w:World} {g off cap bv ov cv:Nat} (us vs:List Int),Holds (I0 .u32) w g off us.toArray→bv≠g→us.length≤1073741824→vs.length≤1073741824→
  (∀j (h:j<vs.length),w.cell? ⟨bv,ov+j,none⟩=some (.int .u32 vs[j]))→
  Calls P fR #[.slice (some ⟨g,off,none⟩) us.length cap,.slice (some ⟨bv,ov,none⟩) vs.length cv] w fun e w'=>
   e= .returned (.tuple #[])∧w'=putRow (I0 .u32) w g off (JM us vs 0).toArray
def intB:List D→Bool
 |[.int .u32 _]=>true
 |_=>false
def yx:List (List D)→Bool
 |[]=>true
 |e::r=>intB e&&yx r
def IG:List D→Int
 |[.int _ n]=>n
 |_=>0
def xg (es:List (List D)):List Int:=es.map IG
def x7 (l:List Int):List (List D):=l.map fun n=>[.int .u32 n]
theorem WN:∀{es:List (List D)},yx es=true→es=x7 (xg es)
 |[],_=>rfl
 |e::r,h=>by
  simp only[yx,F2]at h;have ih:=WN h.2;have he:=h.1;unfold intB at he;split at he
  ·simp only[x7,xg,I1,IG]at ih ⊢;rw[←ih]
  ·simp at he
theorem JV (l:List Int):(x7 l).flatten=l.map (D.int .u32):=by
 induction l with
 |nil=>rfl
 |cons c l ih=>simp only[x7,I1,P1]at ih ⊢;rw[ih];rfl
theorem x8 (l:List Int):(x7 l).length=l.length:=by simp[x7]
theorem KH (l:List Int):∀e∈x7 l,e.length=1:=by
 intro e he;simp only[x7,Lm]at he;obtain⟨c,_,rfl⟩:=he;rfl
def wh (c:Prop) [Decidable c] (res:List Int→V) (new:List Int→List Int) (x:V) (ob:List Obj):R:=
 match x with
 | .sub k off len=>match nth .none ob k with
  | .arr s es false=>match W0 s 1 with
   |true=> .cond (c∧off+len≤es.length∧yx ((es.drop off).take len)=true) (res (xg ((es.drop off).take len))) [(k,.arr 1 (es.take off++x7 (new (xg ((es.drop off).take len)))++es.drop (off+len)) false)]
   |false=> .fail
  |_=> .fail
 |_=> .fail
def Y3 (_:Option Nat) (vs:List V) (ob:List Obj):R:=
 match vs with
 |[x,.c (.sl ys),.c (.int .u64 n)]=>wh (ys≠[]∧yx ys=true∧ys.length≤1073741824)
  (fun us=> .c (.bool (decide (0<(ku n us (xg ys) 0 0).2.2)||decide (0<(ku n us (xg ys) 0 0).2.1)))) (fun us=>(ku n us (xg ys) 0 0).1) x ob
 |_=> .fail
def Y4 (_:Option Nat) (vs:List V) (ob:List Obj):R:=
 match vs with
 |[x,.c (.sl ys)]=>wh (ys≠[]∧yx ys=true∧ys.length≤1073741824) (fun _=> .tp []) (fun us=>JM us (xg ys) 0) x ob
 |_=> .fail
theorem KI {c:Prop} [Decidable c] {res:List Int→V} {new:List Int→List Int} {x:V} {ob ob':List Obj} (h:∀k∈zT ob (qk x),nth .none ob k=nth .none ob' k):wh c res new x ob=wh c res new x ob':=by
 cases x with
 |sub k off len=>simp only[wh];rw[h k (by simp[qk,qz])]
 |_=>rfl
theorem X1 {wd:Bool} {dst:Option Nat} {c:Prop} [Decidable c] {res:List Int→V} {new:List Int→List Int} (hres:∀us,qk (res us)=[]) {x:V} {ob:List Obj}:Cq wd dst (zT ob (qk x)) ob (wh c res new x ob):=by
 unfold wh;split
 ·rename_i k off len;split
  ·rename_i s es hk;split
   ·refine⟨fun p hp=>?_,fun j hj=>by rw[hres]at hj;simp at hj⟩;simp only[J6]at hp;subst hp;exact⟨.inr ⟨by simp[qk,qz],by rw[hk];simp⟩,by simp,fun u hu=>by simp[qT]at hu⟩
   ·trivial
  ·trivial
 ·trivial
section
variable {C:Cx} {B:Bd} {F0:Nat→Prop} {w0:World} {F:Nat→Prop} {loc:Where} {st:St} {a:Act} {w:World}
variable {dst:Option Nat} {ty:TypeId} {pos:String} {after:Array Edge} {g:Option (Nat×Bool)}
theorem OF {k off len b c:Nat} {es:List (List D)} {us us':List Int} {v:V} {x:Value} (h:Conc C B F0 w0 F loc st a w) (hk:nth .none st.objs k= .arr 1 es false) (hl:loc k=some (b,c))
 (hle:off+len≤es.length) (hus:(es.drop off).take len=x7 us) (hlen:us'.length=us.length)
 (hv:∀(loc:Where) (objs:List Obj) (w:World) (F:Nat→Prop),CV loc objs w F v x∧Ref objs v):
 St.has C B F0 w0 (st.put dst v [(k,.arr 1 (es.take off++x7 us'++es.drop (off+len)) false)]) (a.put dst x) (putRow (I0 .u32) w b off us'.toArray):=by
 have hul:us.length=len:=by have:=congrArg U0 hus;rw[x8,Ls,Lv]at this;omega
 have a6:=h.objs k;rw[hk]at a6;obtain⟨a5,_,a1,a6⟩:=a6;rcases a6 with⟨h4,_⟩|⟨b',c',cs,t,h4,h5,h6,h7,h8,h9,h10,h11⟩
 ·rw[h4]at hl;simp at hl
 rw[h4]at hl;simp only[ap,aq]at hl;obtain⟨rfl,rfl⟩:=hl;have hfk:=h.fresh _ _ _ h4;have hkl:k<st.objs.length:=xa (by rw[hk];simp);generalize hes':es.take off++x7 us'++es.drop (off+len)=es' at *;have ad:es'.length=es.length:=by rw[←hes'];simp only[J9,Ls,Lv,x8];omega
 have a3:∀e∈es',e.length=1:=by
  rw[←hes'];intro e he;simp only[J4]at he;rcases he with(he|he)|he
  ·exact a1 e (List.mem_of_mem_take he)
  ·exact KH us' e he
  ·exact a1 e (List.mem_of_mem_drop he)
 have hn:∀j,nth .none (upd st.objs k (.arr 1 es' false)) j=if j=k then .arr 1 es' false else nth .none st.objs j:=by
  intro j;by_cases h1:j=k
  ·subst h1;rw[qc _ _ _ hkl,if_pos rfl]
  ·rw[qa _ _ _ (ao h1),if_neg h1]
 have a0:∀β,β≠b'→(putRow (I0 .u32) w b' off us'.toArray).heap[β]? =w.heap[β]? :=by intro β hβ;show(w.heap.modify b' _)[β]? =_;rw[Dd,if_neg (ao hβ)]
 have a7:(putRow (I0 .u32) w b' off us'.toArray).heap[b']? =some (.cells (Hy (I0 .u32) off us'.toArray cs) t (0,0)):=by show(w.heap.modify b' _)[b']? =_;rw[Dd,if_pos rfl,h6];rfl
 have a9:∀β,F β→(putRow (I0 .u32) w b' off us'.toArray).heap[β]? =w.heap[β]? :=fun β hβ=>a0 β fun e=>h5 (e▸hβ)
 have a4:Le st.objs (upd st.objs k (.arr 1 es' false)) loc loc:=by
  refine⟨rfl,fun _ _=>rfl,fun j hj=>?_,fun j o' hj hc hbx=>?_,fun j s' es2 fz' hj hc=>?_⟩
  ·rw[hn];split
   ·simp
   ·exact hj
  ·rw[hn]at hc;split at hc
   ·rw[←hc]at hbx;simp[xW]at hbx
   ·exact⟨by rw[hc];exact hbx,rfl⟩
  ·rw[hn]at hc;split at hc
   ·rename_i e;subst e;simp only[Hu]at hc;obtain⟨rfl,rfl,rfl⟩:=hc;exact⟨⟨es,false,hk,ad⟩,rfl⟩
   ·exact⟨⟨_,_,hc,rfl⟩,rfl⟩
 refine⟨F,loc,h.step (up:=[(k,.arr 1 es' false)]) (fun _ h=>h) a9 a4 (h.below.trans ⟨rfl,rfl,rfl,by rw[size_putRow];exact W2 _,fun j hj hjX=>a0 j (fun e=>by
  rcases hfk.1 with h1|h1
  ·omega
  ·exact hjX (e▸h1))⟩) (by rw[size_putRow];exact h.hB) (fun j=>?_) h.inj (fun j β c hβ=>by rw[size_putRow];exact h.fresh j β c hβ) (fun β hβ=>by rw[size_putRow];exact h.bound β hβ) h.fsub (hv _ _ _ _).1 (hv loc _ w F).2⟩
 show CO loc (upd st.objs k (.arr 1 es' false)) _ F j (nth .none (upd st.objs k (.arr 1 es' false)) j);rw[hn];by_cases h1:j=k
 ·subst h1;rw[if_pos rfl];refine⟨by rw[ad];exact a5,by omega,a3,.inr ⟨b',c',_,t,h4,h5,a7,?_,by omega,fun i hi=>?_,h10,h11⟩⟩
  ·simp only[Hy,Array.size_mapIdx];exact h7
  ·rw[W1]at hi;obtain⟨u,hu,hcd⟩:=h9 i (by omega);have a2:=hcd.mono (F':=F) (fun _ h=>h) a9;have a8:(Hy (I0 .u32) off us'.toArray cs)[i]? =some (if off≤i∧i<off+us'.length then I0 .u32 (us'.toArray[i-off]!)else u):=by simp only[Hy,Array.getElem?_mapIdx,hu,Option.map_some,Pl]
   refine⟨_,a8,?_⟩;have af:∀(l:List (List D)),(∀e∈l,e.length=1)→∀i,i<l.length→nth .undef l.flatten i=nth .undef (nth [] l i) 0:=fun l hl i hi=>by
    have:=xO hl i 0 hi (by omega)
    simpa using this
   rw[af es' a3 i hi];rw[af es a1 i (by omega)]at a2;by_cases hr:off≤i∧i<off+us'.length
   ·rw[if_pos hr];have ae:i-off<us'.length:=by omega
    have:nth [] es' i=[D.int .u32 (us'[i-off])]:=by
     rw[←hes',qI,Lr,M1 (by simp;omega),M2 (by simp[x8];omega)];have e1:i-(es.take off).length=i-off:=by simp;omega
     rw[e1];simp[x7,ae]
    rw[this];have:us'.toArray[i-off]! =us'[i-off]:=by simp[ae]
    rw[this];exact .int _ _
   ·rw[if_neg hr];have:nth [] es' i=nth [] es i:=by
     rw[←hes'];simp only[qI];by_cases h2:i<off
     ·rw[Lr,M2 (by simp;omega),J3 h2]
     ·rw[M1 (by simp[x8];omega),No];congr 2;simp[x8];omega
    rw[this];exact a2
 ·rw[if_neg h1];refine CO.le (fun _ h=>h) a9 a4 rfl rfl (fun β c hβ=>⟨?_,fun h=>h⟩) (h.objs j);refine a0 β fun e=>?_
  subst e;exact h1 (h.inj _ _ _ _ _ hβ h4)
theorem KJ {f:Nat} {fn:Func} {x:Operand} {zs:List Operand} {c:Prop} [Decidable c] {res:List Int→V} {new:List Int→List Int} {args:Array Operand} {ts:Array TypeId}
 (h:Conc C B F0 w0 F loc st a w) (hf:C.P.funcs[f]? =some fn) (hb:fn.body≠none) (hn:fn.name≠ "runtime.NumGoroutine") (hargs:args.toList=x::zs)
 (hc:c→∀{g off cap:Nat} (us:List Int),Holds (I0 .u32) w g off us.toArray→¬F g→us.length≤1073741824→(new us).length=us.length∧∃rv,(∀(loc:Where) (objs:List Obj) (w:World) (F:Nat→Prop),CV loc objs w F (res us) rv∧Ref objs (res us))∧
  Calls C.P f (.slice (some ⟨g,off,none⟩) us.length cap::zs.map a.eval).toArray w fun e w'=>e= .returned rv∧w'=putRow (I0 .u32) w g off (new us).toArray):
 RSW C B F0 w0 st a w ⟨dst,.call ⟨.value (.func f),args,ts⟩,ty,pos,after,g⟩ (wh c res new (ev st x) st.objs):=by
 have hx:=(qW h x).1;unfold wh;split
 ·rename_i k off a7 hxv;rw[hxv]at hx;split
  ·rename_i s es hk;split
   ·rename_i hs;have hs:s=1:=V1 hs;subst hs;rintro⟨hcc,hle,a3⟩;have a3:=WN a3;generalize hue:xg ((es.drop off).take a7)=us at *;obtain⟨b,cp,hl,hle2,hxe⟩:=hx 1 es false hk;have hul:us.length=a7:=by have:=congrArg U0 a3;rw[x8,Ls,Lv]at this;omega
    have a4:=h.objs k;rw[hk]at a4;obtain⟨a2,_,a6,a4⟩:=a4;rcases a4 with⟨h4,_⟩|⟨b',c',cs,t,h4,h5,h6,h7,h8,h9,h10,h11⟩
    ·rw[h4]at hl;simp at hl
    rw[h4]at hl;simp only[ap,aq]at hl;obtain⟨rfl,rfl⟩:=hl;have a1:Holds (I0 .u32) w b' off us.toArray:=by
     intro j hj;have hj:j<us.length:=by simpa using hj
     obtain⟨u,hu,a8⟩:=h9 (off+j) (by omega);have hel:nth [] es (off+j)=[D.int .u32 us[j]]:=by
      have:nth [] ((es.drop off).take a7) j=nth [] es (off+j):=by simp only[qI];rw[J3 (by omega),No]
      rw[←this,a3,qI];simp[x7,hj]
     have a9:=xO a6 (off+j) 0 (by omega) (by omega);rw[W1,Nat.add_zero,hel]at a9;rw[a9]at a8;have hu':u= .int .u32 us[j]:=by cases(a8:CD _ _ (.int .u32 us[j]) _);rfl
     subst hu';refine⟨?_,?_⟩
     ·rw[Lib.cell_of_heap h6,hu];simp[hj]
     ·exact Lib.frozen_of_heap h6 _
    have hr:us.length≤1073741824:=by have:es.length≤1073741824:=a2;omega
    obtain⟨a5,rv,hrv,a0⟩:=hc hcc (cap:=c'-off) us a1 h5 hr;intro next Q hnx
    have hae:(.slice (some ⟨b',off,none⟩) us.length (c'-off)::zs.map a.eval).toArray=args.map a.eval:=by apply Bx;rw[Aw,hargs,I1,hxe,hul,W1]
    rw[hae]at a0;refine zz hf hb hn a0 fun e w' he=>?_
    obtain⟨rfl,rfl⟩:=he;exact⟨_,rfl,hnx _ _ (OF h hk h4 hle a3 a5 hrv)⟩
   ·trivial
  ·trivial
 ·trivial
theorem UB {ys:List (List D)} {x:Value} (hx:CD w F (.sl ys) x) (hne:ys≠[]) (hl:yx ys=true):∃b o c,x= .slice (some ⟨b,o,none⟩) (xg ys).length c∧F b∧∀j (hj:j<(xg ys).length),w.cell? ⟨b,o+j,none⟩=some (.int .u32 (xg ys)[j]):=by
 have hys:=WN hl;generalize xg ys=l at *;obtain⟨ad,c,a2,hlc,a0⟩:=hx.slice_inv;rcases a0 with h0|⟨b,o,a1,rfl,a0⟩
 ·exact absurd h0 hne
 ·subst hys;have hs1:a1=1:=by obtain⟨e,r,he⟩:=List.exists_cons_of_ne_nil hne;have h1:=a0.hs e (by rw[he];simp);have h2:=KH l e (by rw[he];simp);omega
  subst hs1;rw[x8]at a2;refine⟨b,o,c,a2,a0.hF,fun j hj=>?_⟩;obtain⟨v,h1,h2⟩:=a0.hc j (by rw[x8];omega);rw[JV,qn _ (by simpa using hj),List.getElem_map]at h2;have:v= .int .u32 l[j]:=by cases(h2:CD _ _ (.int .u32 l[j]) _);rfl
  rw[h1,this]
theorem X2 (ys:List (List D)):(xg ys).length=ys.length:=by simp[xg]
theorem Y5 {fS fR:Nat} (hk:SubK C.P fS fR):EffAt C fS Y3:=by
 refine⟨fun{B F0 w0 F loc st a w dst args ts ty pos after g} h=>?_,fun dst vs ob ob' h hd=>?_,fun dst vs ob hv hb=>?_⟩
 ·unfold Y3;split
  ·rename_i v ys n a0;obtain⟨x,y2,z,hax,hx,hy,hz⟩:∃x y2 z,args.toList=[x,y2,z]∧ev st x=v∧ev st y2= .c (.sl ys)∧ev st z= .c (.int .u64 n):=by
    match hl:args.toList with
    |[]=>rw[hl]at a0;simp at a0
    |[x]=>rw[hl]at a0;simp at a0
    |[x,y]=>rw[hl]at a0;simp at a0
    |[x,y,z]=>rw[hl]at a0;simp only[I1,I2,U3]at a0;exact⟨x,y,z,rfl,a0.1,a0.2.1,a0.2.2.1⟩
    |_::_::_::_::_=>rw[hl]at a0;simp at a0
   obtain⟨fn,hf,hb,hn⟩:=hk.there fS (.inl rfl);have a6:=(qW h y2).1;rw[hy]at a6;have a4:=(qW h z).1;rw[hz]at a4;have a4:=wR a4;rw[←hx];refine KJ (zs:=[y2,z]) h hf hb hn hax ?_;rintro⟨hne,a2,a3⟩ g off cap us hH hnF a5;obtain⟨b,o,c,hye,hF,a1⟩:=UB a6 hne a2;refine⟨Ji _ _ _ _ _,_,fun loc objs w F=>⟨CD.bool _,trivial⟩,?_⟩;have:=hk.sub (cap:=cap) (cv:=c) us (xg ys) n hH (fun e=>hnF (e▸hF)) a5 (by rw[X2];exact a3) a1;rw[I1,I1,I2,hye,a4];exact this
  ·trivial
 ·unfold Y3;split
  ·exact KI fun k hk=>h k (by simpa [qk]using hk)
  ·rfl
 ·unfold Y3;split
  ·rename_i x ys n;have:=fun wd=>X1 (wd:=wd) (dst:=dst) (ob:=ob) (x:=x) (c:=ys≠[]∧yx ys=true∧ys.length≤1073741824) (res:=fun us=> .c (.bool (decide (0<(ku n us (xg ys) 0 0).2.2)||decide (0<(ku n us (xg ys) 0 0).2.1)))) (new:=fun us=>(ku n us (xg ys) 0 0).1) (fun _=>rfl)
   simpa [qk]using this _
  ·trivial
theorem Y6 {fS fR:Nat} (hk:SubK C.P fS fR):EffAt C fR Y4:=by
 refine⟨fun{B F0 w0 F loc st a w dst args ts ty pos after g} h=>?_,fun dst vs ob ob' h hd=>?_,fun dst vs ob hv hb=>?_⟩
 ·unfold Y4;split
  ·rename_i v ys a0;obtain⟨x,y2,hax,hx,hy⟩:∃x y2,args.toList=[x,y2]∧ev st x=v∧ev st y2= .c (.sl ys):=by
    match hl:args.toList with
    |[]=>rw[hl]at a0;simp at a0
    |[x]=>rw[hl]at a0;simp at a0
    |[x,y]=>rw[hl]at a0;simp only[I1,I2,U3]at a0;exact⟨x,y,rfl,a0.1,a0.2.1⟩
    |_::_::_::_=>rw[hl]at a0;simp at a0
   obtain⟨fn,hf,hb,hn⟩:=hk.there fR (.inr rfl);have a5:=(qW h y2).1;rw[hy]at a5;rw[←hx];refine KJ (zs:=[y2]) h hf hb hn hax ?_;rintro⟨hne,a2,a3⟩ g off cap us hH hnF a4;obtain⟨b,o,c,hye,hF,a1⟩:=UB a5 hne a2;refine⟨Jj _ _ _,_,fun loc objs w F=>⟨⟨#[],rfl,trivial⟩,trivial⟩,?_⟩;have:=hk.res (cap:=cap) (cv:=c) us (xg ys) hH (fun e=>hnF (e▸hF)) a4 (by rw[X2];exact a3) a1;rw[I1,I2,hye];exact this
  ·trivial
 ·unfold Y4;split
  ·exact KI fun k hk=>h k (by simpa [qk]using hk)
  ·rfl
 ·unfold Y4;split
  ·rename_i x ys;have:=fun wd=>X1 (wd:=wd) (dst:=dst) (ob:=ob) (x:=x) (c:=ys≠[]∧yx ys=true∧ys.length≤1073741824) (res:=fun _=> .tp []) (new:=fun us=>JM us (xg ys) 0) (fun _=>rfl)
   simpa [qk]using this _
  ·trivial
end
end Eng
end

section
namespace Eng
open Go Go.RowKit
def JW (a b:Ann):Nat→Ann
 |0=>a
 |_=>b
def Gl (a b c:Ann):Nat→Ann
 |0=>a
 |1=>b
 |_=>c
def wZ:List (List D)→Bool
 |[]=>true
 |e::r=>e.all JR&&wZ r
theorem Y7:∀{es:List (List D)},wZ es=true→∀d∈es.flatten,JR d=true
 |[],_,d,hd=>by simp at hd
 |e::r,h,d,hd=>by
  simp only[wZ,F2]at h;simp only[P1,J4]at hd;rcases hd with hd|hd
  ·exact List.all_eq_true.1 h.1 d hd
  ·exact Y7 h.2 d hd
def Fz (st:St) (rs:List ResultVar):Option (Nat×List (List D)):=
 match rs with
 |[.tmp t]=>match nth .any st.tmps t with
  | .arr k=>match nth .none st.objs k with
   | .arr s es false=>some (s,es)
   |_=>none
  |_=>none
 |_=>none
def F1 (st:St) (rs:List ResultVar):Option (Nat×List (List D)):=
 match Fz st rs with
 |some (s,es)=>match es with
  |[]=>none
  |_::_=>match wZ es with
   |true=>some (s,es)
   |false=>none
 |none=>none
theorem DY {st:St} {rs:List ResultVar} {s:Nat} {es:List (List D)} (h:Fz st rs=some (s,es)) (h1:es≠[]) (h2:wZ es=true):F1 st rs=some (s,es):=by
 unfold F1;rw[h];cases es with
 |nil=>exact absurd rfl h1
 |cons e r=>simp only[h2]
def kg (C:Cx) (f:Nat) (args:List A) (s:Nat) (es:List (List D)):Prop:=
 ∀(w:World) (F:Nat→Prop) (vs:List Value),(∀b,F b→b<w.heap.size)→Inv C F w→All2 (CA w F) args vs→
  Calls C.P f vs.toArray w fun e w'=>Below w.heap.size w w'∧∃b c cs t,e= .returned (.slice (some ⟨b,0,none⟩) es.length c)∧w.heap.size≤b∧b<w'.heap.size∧w'.heap[b]? =some (.cells cs t (0,0))∧cs.size=c*s∧(es.length≤c∧c≤9223372036854775807)∧
   room es.length∧0<s∧(∀e∈es,e.length=s)∧C.P.cellsOf t=s∧∀j,j<es.length*s→∃v,cs[j]? =some v∧∀(w:World) (F:Nat→Prop),CD w F (nth .undef es.flatten j) v
theorem Y8 {C C':Cx} (hG:C'.G=C.G) {F:Nat→Prop} {w:World} (h:Inv C F w):Inv C' F w:=fun g cs hg=>h g cs (hG▸hg)
theorem vC {C C':Cx} (hP:C'.P=C.P) (hG:C'.G=C.G) {f:Nat} {as rs:List A} (h:qf C f as rs):qf C' f as rs:=by
 intro w F vs hb hi ha;rw[hP];exact h w F vs hb (Y8 hG.symm hi) ha
theorem Jk {C C':Cx} (hP:C'.P=C.P) (hG:C'.G=C.G) {f s:Nat} {as:List A} {es:List (List D)} (h:kg C f as s es):kg C' f as s es:=by
 intro w F vs hb hi ha;rw[hP];exact h w F vs hb (Y8 hG.symm hi) ha
section
variable {C:Cx}
theorem DZ {fn:Func} {w:World} {F:Nat→Prop} {s':St} {a':Act} {w':World} {s:Nat} {es:List (List D)} (hh:St.has C ⟨w.heap.size,fun _=>False⟩ F w s' a' w') (has:F1 s' fn.results.toList=some (s,es)):
 a'.defers=[]∧∃v,(results fn a'.tmps).run C.P w'= .ok v w'∧Below w.heap.size w w'∧∃b c cs t,Ending.returned v= .returned (.slice (some ⟨b,0,none⟩) es.length c)∧w.heap.size≤b∧b<w'.heap.size∧w'.heap[b]? =some (.cells cs t (0,0))∧cs.size=c*s∧(es.length≤c∧c≤9223372036854775807)∧
  room es.length∧0<s∧(∀e∈es,e.length=s)∧C.P.cellsOf t=s∧∀j,j<es.length*s→∃v,cs[j]? =some v∧∀(w:World) (F:Nat→Prop),CD w F (nth .undef es.flatten j) v:=by
 obtain⟨F',loc',h⟩:=hh;have a3:∃e r,es=e::r∧wZ es=true∧Fz s' fn.results.toList=some (s,es):=by
  unfold F1 at has;split at has
  ·rename_i s1 es1 h1;split at has
   ·simp at has
   ·split at has
    ·rename_i a4;simp only[ap,aq]at has;obtain⟨rfl,rfl⟩:=has;exact⟨_,_,rfl,a4,h1⟩
    ·simp at has
  ·simp at has
 obtain⟨e,r,rfl,a4,has⟩:=a3;unfold Fz at has;split at has
 ·rename_i t hrs;split at has
  ·rename_i k hk;split at has
   ·rename_i s0 es0 a6
    ··simp only[ap,aq]at has;obtain⟨rfl,rfl⟩:=has;have hx:=(ZA h t).1;simp only[Act.eval]at hx;rw[hk]at hx;have a2:=h.objs k;rw[a6]at a2;obtain⟨a1,hs0,a0,a2⟩:=a2;rcases hx _ _ _ a6 with⟨b,c,hl,hv⟩|⟨_,h0,_⟩
      ·rcases a2 with⟨h4,_⟩|⟨b',c',cs,t',h4,h5,h6,h7,h8,h9,h10,h11⟩
       ·rw[h4]at hl;simp at hl
       ·rw[h4]at hl;simp only[ap,aq]at hl;obtain⟨rfl,rfl⟩:=hl;have a5:=h.fresh _ _ _ h4;refine⟨h.defers,.slice (some ⟨b',0,none⟩) (e::r).length c',?_,h.below.toBelow,b',c',cs,t',rfl,a5.1.elim id False.elim,a5.2,h6,h7,h8,a1,hs0,a0,by rw[←h.prog];exact h10,fun j hj=>?_⟩
        ·have hr:fn.results= #[.tmp t]:=by apply Bx;simpa using hrs
         unfold results;rw[hr];have hv':a'.tmps[t]?.getD undef= .slice (some ⟨b',0,none⟩) (e::r).length c':=by rw[←hv];simp
         simp[hv']
        ·obtain⟨v,q1,q2⟩:=h9 j hj;refine⟨v,q1,fun w F=>Hc q2 (Y7 a4 _ ?_)⟩;rw[qn _ (by rw[qo a0];exact hj)];exact List.getElem_mem _
      ·simp at h0
   ·simp at has
  ·simp at has
 ·simp at has
def runFo (tab:Nat→List A→Option (List A)) (C:Cx) (lim n f:Nat) (args:List A):Option (Nat×List (List D)):=
 match C.P.funcs[f]? with
 |none=>none
 |some fn=>match fn.body with
  |none=>none
  |some c=>match Qi (LX tab C lim n) C lim c (wC fn.ntmps args)with
   |some (.normal,s)=>F1 s fn.results.toList
   |some (.ret,s)=>F1 s fn.results.toList
   |_=>none
def IH (C:Cx) (Gv:Nat→List A→List A→Prop) (anns:Nat→Ann) (fn:Func) (args:List A) (Q:Nat→List (List D)→Prop):Prop:=
 match fn.body with
 |none=>False
 |some c=>wpC C Gv anns 0 c (fun e s=>match e with
  | .normal| .ret=>match Fz s fn.results.toList with
   |some (k,es)=>(es≠[]∧wZ es=true)∧Q k es
   |none=>False
  | .exit _=>False) (wC fn.ntmps args)
theorem Ea [EffOk C] {anns:Nat→Ann} {f:Nat} {fn:Func} {args:List A} {s:Nat} {es:List (List D)} (hm:C.P.follows .mixedOrders=true) (hf:C.P.funcs[f]? =some fn) (h:IH C (qf C) anns fn args (fun k r=>k=s∧r=es)):kg C f args s es:=by
 intro w F vs hb a2 a0;unfold IH at h;split at h
 ·exact h.elim
 rename_i c hc;refine calls_of_wp hf hc ?_;refine Code.wp_mono (fun e a' w' hp=>?_) (Cu hm c 0 _ _ _ _ h (Qf hb a2 a0));obtain⟨x,s',hx,hq,_,hh⟩:=hp;have a3:∀k as,Fz s' fn.results.toList=some (k,as)→((as≠[]∧wZ as=true)∧k=s∧as=es)→_:=fun k as a1 he=>DZ (fn:=fn) hh (by rw[DY a1 he.1.1 he.1.2,he.2.1,he.2.2])
 cases x with
 |normal=>
  have hx:e= .normal:=hx;subst hx;simp only at hq;split at hq
  ·rename_i k as a1;exact a3 k as a1 hq
  ·exact hq.elim
 |ret=>
  have hx:e= .ret:=hx;subst hx;simp only at hq;split at hq
  ·rename_i k as a1;exact a3 k as a1 hq
  ·exact hq.elim
 |exit i=>exact hq.elim
def KK (own:List A→Option (Nat×List (List D))) (dst:Option Nat) (vs:List V) (ob:List Obj):R:=
 match dst with
 |none=> .fail
 |some d=>match qx ob d,vQ ob vs with
  |true,some (as,us)=>match own as with
   |some (s,es)=> .ok (.arr d) (us++[(d,.arr s es false)])
   |none=> .fail
  |_,_=> .fail
variable {B:Bd} {F0:Nat→Prop} {w0:World} {F:Nat→Prop} {loc:Where} {st:St} {a:Act} {w:World}
theorem Conc.adoptNew {dst:Option Nat} {d s b c:Nat} {es:List (List D)} {cs:Array Value} {t:TypeId} {w':World} (h:Conc C B F0 w0 F loc st a w) (hd:qx st.objs d=true) (hbel:Below w.heap.size w w')
 (hb1:w.heap.size≤b) (hb2:b<w'.heap.size) (hblk:w'.heap[b]? =some (.cells cs t (0,0))) (hsz:cs.size=c*s) (hlc:es.length≤c∧c≤9223372036854775807) (hroom:room es.length) (hs0:0<s) (hlen:∀e∈es,e.length=s) (ht:C.P.cellsOf t=s)
 (hcd:∀j,j<es.length*s→∃v,cs[j]? =some v∧∀(w:World) (F:Nat→Prop),CD w F (nth .undef es.flatten j) v):
 Conc C B F0 w0 F (at_ loc d (b,c) t) (st.put dst (.arr d) [(d,.arr s es false)]) (a.put dst (.slice (some ⟨b,0,none⟩) es.length c)) w':=by
 obtain⟨a0,a1⟩:=qH hd;have hw:∀b,F b→w'.heap[b]? =w.heap[b]? :=fun b hb=>hbel.block b (h.bound b hb)
 have a5:=hbel.size;have a4:Le st.objs (upd st.objs d (.arr s es false)) loc (at_ loc d (b,c) t):=by
  refine⟨rfl,fun k hk=>by
   have:k≠d:=fun e=>by subst e;exact absurd a0 hk
   simp[at_,this],fun k hk=>?_,fun k o' hk hc hbx=>?_,fun k s a2 a3 hk hc=>?_⟩
  ·by_cases hkd:d=k
   ·subst hkd;exact absurd a0 hk
   ·rw[qa _ _ _ hkd];exact hk
  ·by_cases hkd:d=k
   ·subst hkd;exact absurd a0 hk
   ·rw[qa _ _ _ hkd]at hc;exact⟨by rw[hc];exact hbx,by simp[at_,ao hkd]⟩
  ·by_cases hkd:d=k
   ·subst hkd;exact absurd a0 hk
   ·rw[qa _ _ _ hkd]at hc;exact⟨⟨_,_,hc,rfl⟩,by simp[at_,ao hkd]⟩
 refine h.step (up:=[(d,.arr s es false)]) (fun _ h=>h) hw a4 (h.below.trans (.of hbel h.hB)) (by have:=h.hB;omega) (fun k=>?_) ?_ ?_ (fun b hb=>by have:=h.bound b hb;omega) h.fsub ?_ ?_
 ·show CO _ (upd st.objs d (.arr s es false)) _ _ _ (nth .none (upd st.objs d (.arr s es false)) k);by_cases hk:d=k
  ·subst hk;rw[qc _ _ _ a1];refine⟨hroom,hs0,hlen,.inr ⟨b,c,cs,t,by simp[at_],fun hF=>?_,hblk,hsz,hlc,fun j hj=>?_,?_,by simp[at_]⟩⟩
   ·have:=h.bound b hF;omega
   ·obtain⟨v,q1,q2⟩:=hcd j hj;exact⟨v,q1,q2 _ _⟩
   ·show loc.P.cellsOf t=s;rw[h.prog];exact ht
  ·rw[qa _ _ _ hk];refine CO.le (fun _ h=>h) hw a4 (by simp[at_,ao hk]) (by simp[at_,ao hk]) (fun b c hb=>⟨hbel.block b (h.fresh _ _ _ hb).2,fun h=>h⟩) (h.objs k)
 ·intro k k' b' c1 c2 h1 h2;have hf:=h.fresh;simp only[at_]at h1 h2;split at h1<;>split at h2
  ·rw[‹k=d›,‹k'=d›]
  ·simp only[ap,aq]at h1;have:=hf _ _ _ h2;omega
  ·simp only[ap,aq]at h2;have:=hf _ _ _ h1;omega
  ·exact h.inj _ _ _ _ _ h1 h2
 ·intro k b' c1 h1;simp only[at_]at h1;split at h1
  ·simp only[ap,aq]at h1;have:=h.hB;exact⟨.inl (by omega),by omega⟩
  ·have:=h.fresh _ _ _ h1;exact⟨this.1,by omega⟩
 ·intro s' a2 a3 hc;have hc:nth .none (upd st.objs d (.arr s es false)) d= .arr s' a2 a3:=hc;rw[qc _ _ _ a1]at hc;simp only[Hu]at hc;obtain⟨rfl,rfl,rfl⟩:=hc;exact .inl ⟨b,c,by simp[at_],rfl⟩
 ·show nth .none (upd st.objs d (.arr s es false)) d≠ .none;rw[qc _ _ _ a1];simp
theorem OG {f:Nat} {fn:Func} {own:List A→Option (Nat×List (List D))} (hf:C.P.funcs[f]? =some fn) (hb:fn.body≠none) (hn:fn.name≠ "runtime.NumGoroutine") (h:∀as s es,own as=some (s,es)→kg C f as s es):EffAt C f (KK own):=by
 refine⟨fun{B F0 w0 F loc st a w dst args ts ty pos after g} hc=>?_,fun dst vs ob ob' hh hd=>?_,fun dst vs ob hv _=>?_⟩
 ·unfold KK;split
  ·trivial
  ·rename_i d;split
   ·rename_i as us hd a8;split
    ·rename_i s es a7;obtain⟨a3,a4⟩:=QS hc a8 (wS hc args.toList);obtain⟨F',a6,hF',hb'⟩:=hc.freezes a3 st.dirty;have a2:=a4 F' hF' hb';have a1:(args.toList.map a.eval).toArray=args.map a.eval:=by apply Bx;simp
     intro next Q hnx
     have a0:=h as s es a7 w F' (args.toList.map a.eval) a6.bound a6.inv a2;rw[a1]at a0;refine zz hf hb hn a0 fun e w' he=>?_
     obtain⟨a5,b,c,cs,t,rfl,h1,h2,h3,h4,h5,h6,h7,h8,h9,h10⟩:=he;refine⟨_,rfl,hnx _ _ ⟨F',at_ loc d (b,c) t,?_⟩⟩;have h11:=a6.adoptNew (dst:=some d) (jZ a3 hd) a5 h1 h2 h3 h4 h5 h6 h7 h8 h9 h10;have:upds st.objs (us++[(d,.arr s es false)])=upds (upds st.objs us) [(d,.arr s es false)]:=zV _ _ _;have hst:(st.put (some d) (.arr d) (us++[(d,.arr s es false)])).objs=upds (upds st.objs us) [(d,.arr s es false)]:=this;have h12:=h11.redirty (dt:=(st.put (some d) (.arr d) (us++[(d,.arr s es false)])).dirty);have e:(st.put (some d) (.arr d) (us++[(d,.arr s es false)]))=⟨upd st.tmps d (.arr d),upds (upds st.objs us) [(d,.arr s es false)],(st.put (some d) (.arr d) (us++[(d,.arr s es false)])).dirty⟩:=by rw[←hst];rfl
     rw[e];exact h12
    ·trivial
   ·trivial
 ·unfold KK;cases dst with
  |none=>rfl
  |some d=>
   have h1:vQ ob vs=vQ ob' vs:=kY (c:=2) fun v hv k hk=> .inl (hh k (by
    rw[qz];exact⟨k,Ts.2 ⟨v,hv,hk⟩,.inl rfl⟩))
   simp only[h1];rw[hd d (.inl rfl)]
 ·unfold KK;split
  ·trivial
  ·rename_i d;split
   ·rename_i as us hd a8;split
    ·rename_i s es _;have a3:=ZO a8;refine⟨fun p hp=>?_,fun k hk=>?_⟩
     ·rcases J4.1 hp with hp|hp
      ·obtain⟨⟨v,hv1,hv2⟩,s',es',fz,h1,h2⟩:=a3 p hp;refine⟨.inr ⟨?_,by rw[h1];simp⟩,by rw[h2];simp,fun u hu=>by rw[h2]at hu;simp[qT]at hu⟩;rw[qz];exact⟨p.1,Ts.2 ⟨v,hv1,hv2⟩,.inl rfl⟩
      ·simp only[J6]at hp;subst hp;exact⟨.inl ⟨.inl rfl,hd⟩,by simp,fun u hu=>by simp[qT]at hu⟩
     ·simp only[qk,J6]at hk;subst hk;exact .inr ⟨hd,_,List.mem_append_right _ (J6.2 rfl)⟩
    ·trivial
   ·trivial
end
end Eng
end

section
namespace Eng
open Go Go.RowKit
structure LentOk (P:Program) (w:World) (F:Nat→Prop) (g c:Nat) (cs:Array Value) (t:TypeId) (s:Nat) (es:List (List D)):Prop where
 nF:¬F g
 lt:g<w.heap.size
 blk:w.heap[g]? =some (.cells cs t (0,0))
 sz:cs.size=c*s
 lc:es.length≤c∧c≤9223372036854775807
 room:Eng.room es.length
 s0:0<s
 lens:∀e∈es,e.length=s
 ct:P.cellsOf t=s
 cd:∀j,j<es.length*s→∃v,cs[j]? =some v∧CD w F (nth .undef es.flatten j) v
def Eb (g c:Nat):Option (Nat×List (List D))→List Value
 |none=>[]
 |some (_,es)=>[.slice (some ⟨g,0,none⟩) es.length c]
def II (g:Nat):Option (Nat×List (List D))→Nat→Prop
 |none,_=>False
 |some _,b=>b=g
def OH (n:Nat):Nat:=n+7
def Mc (n:Nat) (pre:List A) (lent:Option (Nat×List (List D))) (post:List A):St:=
 match lent with
 |none=>wC n (pre++post)
 |some (s,es)=>⟨pre.map D7++(.arr (OH n)::(post.map D7++J7 (n-(pre.length+(1+post.length))) .any)),upd (J7 (n+8) .none) (OH n) (.arr s es false),[]⟩
section
variable {C:Cx}
theorem OI {n:Nat} {pre post:List A} {lent:Option (Nat×List (List D))} {vs1 vs2:List Value} {w:World} {F:Nat→Prop} {g c0:Nat} {cs0:Array Value} {t0:TypeId} (hb:∀b,F b→b<w.heap.size) (hinv:Inv C F w) (h1:All2 (CA w F) pre vs1) (h2:All2 (CA w F) post vs2)
 (hl:∀s0 es0,lent=some (s0,es0)→LentOk C.P w F g c0 cs0 t0 s0 es0):
 St.has C ⟨w.heap.size,II g lent⟩ F w (Mc n pre lent post) {tmps:=(vs1++(Eb g c0 lent++vs2)).toArray++Array.replicate (n-(vs1++(Eb g c0 lent++vs2)).toArray.size) undef,defers:=[]} w:=by
 cases lent with
 |none=>have h:=Qf (n:=n) hb hinv (All2.append h1 h2);exact h
 |some se=>
  obtain⟨s,es⟩:=se;have hL:=hl s es rfl;have hl1:=h1.length;have hl2:=h2.length;have hkl:OH n<(J7 (n+8) Obj.none).length:=by simp[OH]
  have hn:∀k,nth .none (upd (J7 (n+8) Obj.none) (OH n) (.arr s es false)) k=if k=OH n then .arr s es false else .none:=fun k=>by
   by_cases hk:OH n=k
   ·subst hk;rw[qc _ _ _ hkl,if_pos rfl]
   ·rw[qa _ _ _ hk,WI,if_neg (ao hk)]
  refine⟨F,⟨C.P,fun k=>if k=OH n then some (g,c0)else none,fun _=>t0⟩,⟨rfl,BelowX.refl _ _,W2 _,rfl,?_,fun v hv=>?_,fun k=>?_,?_,?_,hb,fun b h=> .inl h,fun _ h=>h,hinv⟩⟩
  ·simp only[Mc,Eb,Array.toList_append,Array.toList_replicate,Pl,Lr,List.cons_append,List.nil_append];refine Qe (Jd h1) ⟨?_,Qe (Jd h2) ?_⟩
   ·intro s' es' fz' hc;rw[hn,if_pos rfl]at hc;simp only[Hu]at hc;obtain⟨rfl,rfl,rfl⟩:=hc;exact .inl ⟨g,c0,by simp,rfl⟩
   ·have e:(vs1++Value.slice (some ⟨g,0,none⟩) es.length c0::vs2).length=pre.length+(1+post.length):=by simp only[J9,T1];omega
    rw[e];exact XT trivial _
  ·simp only[Mc,J4,List.mem_cons,Lm,List.mem_replicate]at hv;rcases hv with⟨x,_,rfl⟩|rfl|⟨x,_,rfl⟩|⟨_,rfl⟩
   ·exact XS x
   ·intro hc;have hc:nth Obj.none (upd (J7 (n+8) Obj.none) (OH n) (.arr s es false)) (OH n)=Obj.none:=hc;rw[hn,if_pos rfl]at hc;simp at hc
   ·exact XS x
   ·trivial
  ·simp only[Mc];rw[hn];split
   ·rename_i e;exact⟨hL.room,hL.s0,hL.lens,.inr ⟨g,c0,cs0,t0,by simp[e],hL.nF,hL.blk,hL.sz,hL.lc,hL.cd,hL.ct,rfl⟩⟩
   ·rename_i e;show(if k=OH n then some (g,c0)else none)=none;rw[if_neg e]
  ·intro k k' b c c' q1 q2;simp only at q1 q2;split at q1
   ·split at q2
    ·rename_i e1 e2;rw[e1,e2]
    ·simp at q2
   ·simp at q1
  ·intro k b c q1;simp only at q1;split at q1
   ·simp only[ap,aq]at q1;obtain⟨rfl,rfl⟩:=q1;exact⟨.inr rfl,hL.lt⟩
   ·simp at q1
variable {B:Bd} {F0:Nat→Prop} {w0:World} {F:Nat→Prop} {loc:Where} {st:St} {a:Act} {w:World}
end
end Eng
end
