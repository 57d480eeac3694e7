/- The engine, part 38: calls that turn a local struct of two arrays, by a pointer to it. -/
import Derived.Test.YtbehlcfelmbmlaaGreatDoorEngF
open Array renaming ext'→Aa, mapM_eq_mapM_toList→Ab, toList_map→Ac
open Bool renaming and_eq_true→Ad, not_eq_true'→Ae
open Eng.Obj.arr renaming injEq→Af
open Go.Value renaming pointer→Ah, slice→Ai
open List renaming mem_singleton→Aj, mem_flatMap→Ak, mem_cons→Al, mem_append→Am, not_mem_nil→An, length_replicate→Ao, size_toArray→Ap, length_cons→Aq, replicate→Ar, map_cons→As
open Nat renaming lt_of_lt_of_le→At, eq_of_beq_eq_true→Au, le_trans→Av, beq→Aw
open Ne renaming symm→Ax
open Option.some renaming injEq→Ay
open Prod.mk renaming injEq→Az
section
namespace Eng
open Go Go.RowKit
def L1 (P:Program) (w:World) (F:Nat→Prop) (s:Nat) (es:List (List D)) (v:Value):Option Nat→Prop
 |none=>es=[]∧v= .slice none 0 0
 |some b=>es≠[]∧∃c cs t,v= .slice (some ⟨b,0,none⟩) es.length c∧LentOk P w F b c cs t s es
structure BoxIn (P:Program) (w:World) (F:Nat→Prop) (g s:Nat) (xs ys:List (List D)) (b1 b2:Option Nat) (v1 v2:Value) (t:TypeId):Prop where
 nF:¬F g
 lt:g<w.heap.size
 blk:w.heap[g]? =some (.cells #[v1,v2] t (0,0))
 r1:L1 P w F s xs v1 b1
 r2:L1 P w F s ys v2 b2
 n1:b1≠some g
 n2:b2≠some g
 n12:∀x,b1=some x→b2≠some x
def YL (g:Nat) (b1 b2:Option Nat) (x:Nat):Prop:=x=g∨b1=some x∨b2=some x
def B2 (P:Program) (w:World) (F:Nat→Prop) (g s:Nat) (b1 b2:Option Nat) (xs' ys':List (List D)) (v:Value) (w':World):Prop:=
 BelowX ⟨w.heap.size,YL g b1 b2⟩ w w'∧
  ∃(F':Nat→Prop) (u1 c1:Nat) (cs1:Array Value) (t1:TypeId) (u2 c2:Nat) (cs2:Array Value) (t2:TypeId) (t':TypeId),(∀x,F x→F' x)∧(∀x,F' x→x<w'.heap.size∧(F x∨Own ⟨w.heap.size,YL g b1 b2⟩ x))∧WS w' F' [] v∧
   ¬F' g∧w'.heap[g]? =some (.cells #[.slice (some ⟨u1,0,none⟩) xs'.length c1,.slice (some ⟨u2,0,none⟩) ys'.length c2] t' (0,0))∧
   LentOk P w' F' u1 c1 cs1 t1 s xs'∧LentOk P w' F' u2 c2 cs2 t2 s ys'∧u1≠u2∧u1≠g∧u2≠g∧Own ⟨w.heap.size,YL g b1 b2⟩ u1∧Own ⟨w.heap.size,YL g b1 b2⟩ u2
def Xu (C:Cx) (f s:Nat) (xs ys:List (List D)) (post:List A) (xs' ys':List (List D)):Prop:=
 ∀(w:World) (F:Nat→Prop) (vs2:List Value) (g:Nat) (b1 b2:Option Nat) (v1 v2:Value) (t:TypeId),(∀b,F b→b<w.heap.size)→Inv C F w→All2 (CA w F) post vs2→BoxIn C.P w F g s xs ys b1 b2 v1 v2 t→
  Calls C.P f (.pointer (some ⟨g,0,none⟩)::vs2).toArray w fun e w'=>∃v,e= .returned v∧B2 C.P w F g s b1 b2 xs' ys' v w'
theorem HU {C C':Cx} (hP:C'.P=C.P) (hG:C'.G=C.G) {f s:Nat} {xs ys xs' ys':List (List D)} {post:List A} (h:Xu C f s xs ys post xs' ys'):Xu C' f s xs ys post xs' ys':=by
 intro w F vs2 g b1 b2 v1 v2 t hb hi h2 hl;rw[hP]at hl ⊢;exact h w F vs2 g b1 b2 v1 v2 t hb (JA hG.symm hi) h2 hl
def Vo (n:Nat):Nat:=n
def Re (k:Nat) (es:List (List D)):V:=match es with
 |[]=> .nilS
 |_::_=> .arr k
def N7 (s:Nat) (es:List (List D)):Obj:=match es with
 |[]=> .none
 |_::_=> .arr s es false
def JB (n s:Nat) (xs ys:List (List D)):List Obj:=upd (upd (upd (Ar (n+8) .none) (Vo n) (.box [Re (Vo n+1) xs,Re (Vo n+2) ys])) (Vo n+1) (N7 s xs)) (Vo n+2) (N7 s ys)
def YM (n s:Nat) (xs ys:List (List D)) (post:List A) (g:Nat):St:=
 ⟨.boxAt (Vo n) g::(post.map Oh++Ar (n-(1+post.length)) .any),JB n s xs ys,[]⟩
def QR:List (List D)→Bool
 |[]=>false
 |_::_=>true
def SM (C:Cx) (fn:Func) (st:St):Option (List (List D)×List (List D)×Nat×Nat×Nat):=
 match XL C st fn.results.toList with
 |some []=>match nth .any st.tmps 0 with
  | .boxAt k g=>match Aw k (Vo fn.ntmps),nth .none st.objs (Vo fn.ntmps)with
   |true,.box [.arr k1,.arr k2]=>match nth .none st.objs k1,nth .none st.objs k2 with
    | .arr s1 xs false,.arr s2 ys false=>match !Aw k1 k2&&(QR xs&&QR ys)with
     |true=>some (xs,ys,s1,s2,g)
     |false=>none
    |_,_=>none
   |_,_=>none
  |_=>none
 |_=>none
def vD (tab:Nat→List A→Option (List A)) (C:Cx) (lim n f s:Nat) (xs ys:List (List D)) (post:List A) (g:Nat):Option (List (List D)×List (List D)×Nat×Nat×Nat):=
 match C.P.funcs[f]? with
 |none=>none
 |some fn=>match fn.body with
  |none=>none
  |some b=>match wT (YF tab C lim n) C lim b (YM fn.ntmps s xs ys post g)with
   |some (.normal,st)=>SM C fn st
   |some (.ret,st)=>SM C fn st
   |_=>none
section
variable {C:Cx}
theorem HV {n s:Nat} {xs ys:List (List D)} (k:Nat):nth .none (JB n s xs ys) k=if k=n then .box [Re (n+1) xs,Re (n+2) ys]else if k=n+1 then N7 s xs else if k=n+2 then N7 s ys else .none:=by
 unfold JB Vo;by_cases h2:n+2=k
 ·subst h2;rw[qb _ _ _ (by simp only[qi,Ao];omega),if_neg (by omega),if_neg (by omega),if_pos rfl]
 rw[qa _ _ _ h2];by_cases h1:n+1=k
 ·subst h1;rw[qb _ _ _ (by simp only[qi,Ao];omega),if_neg (by omega),if_pos rfl]
 rw[qa _ _ _ h1];by_cases h0:n=k
 ·subst h0;rw[qb _ _ _ (by simp only[Ao];omega),if_pos rfl]
 rw[qa _ _ _ h0,Zc,if_neg (Ax h0),if_neg (Ax h1),if_neg (Ax h2)]
theorem Vp {P:Program} {w:World} {F:Nat→Prop} {s:Nat} {es:List (List D)} {v:Value} {b:Option Nat} (h:L1 P w F s es v b):
 ∃(l:Option (Nat×Nat)) (t:TypeId),l.map (·.1)=b∧((es=[]∧l=none∧v= .slice none 0 0)∨∃u c cs,es≠[]∧l=some (u,c)∧b=some u∧v= .slice (some ⟨u,0,none⟩) es.length c∧LentOk P w F u c cs t s es):=by
 cases b with
 |none=>exact⟨none,0,rfl,.inl ⟨h.1,rfl,h.2⟩⟩
 |some u=>obtain⟨hne,c,cs,t,h1,h2⟩:=h;exact⟨some (u,c),t,rfl,.inr ⟨u,c,cs,hne,rfl,rfl,h1,h2⟩⟩
theorem HW {n s g:Nat} {xs ys:List (List D)} {post:List A} {vs2:List Value} {w:World} {F:Nat→Prop} {b1 b2:Option Nat} {v1 v2:Value} {t:TypeId} (hb:∀b,F b→b<w.heap.size) (hinv:Inv C F w) (h2:All2 (CA w F) post vs2) (hL:BoxIn C.P w F g s xs ys b1 b2 v1 v2 t):
 St.has C ⟨w.heap.size,YL g b1 b2⟩ F w (YM n s xs ys post g) {tmps:=(Ah (some ⟨g,0,none⟩)::vs2).toArray++Array.replicate (n-(Ah (some ⟨g,0,none⟩)::vs2).toArray.size) undef,defers:=[]} w:=by
 have hl2:=h2.length;obtain⟨l1,t1,e1,q1⟩:=Vp hL.r1;obtain⟨l2,t2,e2,q2⟩:=Vp hL.r2;have hn:=fun k=>HV (n:=n) (s:=s) (xs:=xs) (ys:=ys) k
 let loc:Where:=⟨C.P,fun k=>if k=n then some (g,0)else if k=n+1 then l1 else if k=n+2 then l2 else none,fun k=>if k=n+1 then t1 else t2⟩
 have hl:∀k x y,loc k=some (x,y)→(k=n∧x=g)∨(k=n+1∧b1=some x)∨(k=n+2∧b2=some x):=fun k x y h=>by
  simp only[loc]at h;split at h
  ·simp only[Ay,Az]at h;exact .inl ⟨‹_›,h.1.symm⟩
  ·split at h
   ·exact .inr (.inl ⟨‹_›,by rw[←e1,h];rfl⟩)
   ·split at h
    ·exact .inr (.inr ⟨‹_›,by rw[←e2,h];rfl⟩)
    ·simp at h
 have a0:∀(k:Nat) (es:List (List D)) (v:Value) (l:Option (Nat×Nat)) (b:Option Nat) (tt:TypeId),nth .none (JB n s xs ys) k=N7 s es→loc k=l→loc.ty k=tt→
  ((es=[]∧l=none∧v= .slice none 0 0)∨∃u c cs,es≠[]∧l=some (u,c)∧b=some u∧v= .slice (some ⟨u,0,none⟩) es.length c∧LentOk C.P w F u c cs tt s es)→
  CV loc (JB n s xs ys) w F (Re k es) v∧v.oneCell'=true∧Ref (JB n s xs ys) (Re k es)∧CO loc (JB n s xs ys) w F k (N7 s es):=by
  intro k es v l b tt ho a5 hty h;rcases h with⟨rfl,rfl,rfl⟩|⟨u,c,cs,hne,rfl,_,rfl,hL⟩
  ·exact⟨rfl,rfl,trivial,a5⟩
  ·cases es with
   |nil=>exact absurd rfl hne
   |cons e r=>
    refine⟨fun s' es' fz' hc=>?_,rfl,fun hc=>?_,⟨hL.room,hL.s0,hL.lens,.inr ⟨u,c,cs,tt,a5,by simpa using hL.nF,hL.blk,hL.sz,hL.lc,hL.cd,hL.ct,hty⟩⟩⟩
    ·rw[ho]at hc;simp only[N7,Af]at hc;obtain⟨rfl,rfl,rfl⟩:=hc;exact .inl ⟨u,c,a5,rfl⟩
    ·rw[ho]at hc;simp[N7]at hc
 have r1:=a0 (n+1) xs v1 l1 b1 t1 (by rw[hn,if_neg (by omega),if_pos rfl]) (by simp[loc]) (by simp[loc]) q1;have r2:=a0 (n+2) ys v2 l2 b2 t2 (by rw[hn,if_neg (by omega),if_neg (by omega),if_pos rfl]) (by simp[loc]) (by simp[loc]) q2;refine⟨F,loc,⟨rfl,BelowX.refl _ _,Nat.le_refl _,rfl,?_,fun v hv=>?_,fun k=>?_,?_,?_,hb,fun b h=> .inl h,fun _ h=>h,hinv⟩⟩
 ·simp only[YM,Array.toList_append,Array.toList_replicate,Ap,List.cons_append];refine⟨fun o _ _=>⟨⟨0,by simp[loc,Vo]⟩,rfl⟩,wP (Qo h2) ?_⟩;have e:(Ah (some ⟨g,0,none⟩)::vs2).length=1+post.length:=by simp only[Aq];omega
  rw[e];exact yt trivial _
 ·simp only[YM,Am,Al,List.mem_map,List.mem_replicate]at hv;rcases hv with rfl|⟨x,_,rfl⟩|⟨_,rfl⟩
  ·show nth .none (JB n s xs ys) n≠ .none;rw[hn,if_pos rfl];simp
  ·exact yr x
  ·trivial
 ·simp only[YM];rw[hn];split
  ·rename_i e;refine⟨g,0, #[v1,v2],t,by simp[loc,e],hL.nF,hL.blk,⟨⟨r1.1,r1.2.1⟩,⟨r2.1,r2.2.1⟩,trivial⟩,fun v hv=>?_⟩;simp only[Al,An,or_false]at hv;rcases hv with rfl|rfl
   ·exact r1.2.2.1
   ·exact r2.2.2.1
  ·rename_i e0;split
   ·rename_i e;subst e;exact r1.2.2.2
   ·rename_i e1;split
    ·rename_i e;subst e;exact r2.2.2.2
    ·rename_i e2;show loc k=none;simp only[loc];rw[if_neg e0,if_neg e1,if_neg e2]
 ·intro k k' b c c' p1 p2;rcases hl _ _ _ p1 with⟨a1,a2⟩|⟨a1,a2⟩|⟨a1,a2⟩<;>rcases hl _ _ _ p2 with⟨a3,a4⟩|⟨a3,a4⟩|⟨a3,a4⟩
  ·omega
  ·exact absurd (a2▸a4) hL.n1
  ·exact absurd (a2▸a4) hL.n2
  ·exact absurd (a4▸a2) hL.n1
  ·omega
  ·exact absurd a4 (hL.n12 _ a2)
  ·exact absurd (a4▸a2) hL.n2
  ·exact absurd a2 (hL.n12 _ a4)
  ·omega
 ·intro k b c p1;rcases hl _ _ _ p1 with⟨a1,a2⟩|⟨a1,a2⟩|⟨a1,a2⟩
  ·exact⟨.inr (.inl a2),a2▸hL.lt⟩
  ·refine⟨.inr (.inr (.inl a2)),?_⟩;rcases q1 with⟨_,z1,_⟩|⟨u,c',cs,_,_,z1,_,hx⟩
   ·rw[z1]at e1;rw[←e1]at a2;simp at a2
   ·rw[a2]at z1;simp only[Ay]at z1;rw[z1];exact hx.lt
  ·refine⟨.inr (.inr (.inr a2)),?_⟩;rcases q2 with⟨_,z1,_⟩|⟨u,c',cs,_,_,z1,_,hx⟩
   ·rw[z1]at e2;rw[←e2]at a2;simp at a2
   ·rw[a2]at z1;simp only[Ay]at z1;rw[z1];exact hx.lt
theorem zh [EffOk C] {tab:Nat→List A→Option (List A)} {lim:Nat} (hm:C.P.follows .mixedOrders=true) (htab:∀f as rs,tab f as=some rs→qe C f as rs) {n f s:Nat} {xs ys xs' ys':List (List D)} {post:List A}
 (h:∀g,vD tab C lim n f s xs ys post g=some (xs',ys',s,s,g)):Xu C f s xs ys post xs' ys':=by
 intro w F vs2 g b1 b2 v1 v2 t hb ai h2 hL;have h:=h g;unfold vD at h;split at h
 ·simp at h
 rename_i fn hf;split at h
 ·simp at h
 rename_i b hbd;have aq:∀(x:X) (s':St),(x= .normal∨x= .ret)→wT (YF tab C lim n) C lim b (YM fn.ntmps s xs ys post g)=some (x,s')→SM C fn s'=some (xs',ys',s,s,g)→Calls C.P f (.pointer (some ⟨g,0,none⟩)::vs2).toArray w fun e w'=>∃v,e= .returned v∧B2 C.P w F g s b1 b2 xs' ys' v w':=by
  intro x s' hx hr a0;refine calls_of_wp hf hbd (Code.wp_mono (fun e a' w' hp=>?_) (Zf hm (fun f as rs h=>Qt hm htab n f as rs h) lim b _ s' x _ w hr (HW hb ai h2 hL)));obtain⟨he,hh⟩:=hp;have am:a'.defers=[]∧∃v,(results fn a'.tmps).run C.P w'= .ok v w'∧∃v',Ending.returned v= .returned v'∧B2 C.P w F g s b1 b2 xs' ys' v' w':=by
   obtain⟨F',ae,aa⟩:=hh;unfold SM at a0;split at a0
   ·rename_i has;split at a0
    ·rename_i k g1 h0;split at a0
     ·rename_i k1 k2 hkb ad;split at a0
      ·rename_i s1 xs1 s2 ys1 af ag;split at a0
       ·rename_i ao;simp only[Ay,Az]at a0;obtain⟨rfl,rfl,e3,e4,rfl⟩:=a0;rw[e3]at af;rw[e4]at ag;simp only[Ad,Ae]at ao;obtain⟨ab,hx1,hy1⟩:=ao;have ab:k1≠k2:=fun e=>by subst e;simp at ab
        obtain⟨hd,v,hv1,hv2⟩:=L0 aa has (fun r hr=>by simp at hr);have hk:=Au hkb;subst hk;have an:=(yL aa 0).1;rw[h0]at an;obtain⟨⟨cg,q1⟩,q2⟩:=an _ ad rfl;have ac:=aa.objs (Vo fn.ntmps);rw[ad]at ac;obtain⟨gb,cb,cs,t',p1,p2,p3,p4,p5⟩:=ac;rw[p1]at q1;simp only[Ay,Az]at q1;obtain⟨rfl,rfl⟩:=q1;have al:∀(kk:Nat) (es:List (List D)) (x:Value),nth .none s'.objs kk= .arr s es false→QR es=true→CV ae s'.objs w' F' (.arr kk) x→∃u c cs t,ae kk=some (u,c)∧x= .slice (some ⟨u,0,none⟩) es.length c∧LentOk C.P w' F' u c cs t s es:=by
         intro kk es x ho ap hv;have ac:=aa.objs kk;rw[ho]at ac;obtain⟨a1,a2,a3,a4⟩:=ac;rcases a4 with⟨_,a5⟩|⟨u,c,cs,t,a5,a6,a7,a8,a9,a10,a11,a12⟩
         ·rw[a5]at ap;simp[QR]at ap
         ·rcases hv _ _ _ ho with⟨b',c',r1,r2⟩|⟨r1,_⟩
          ·rw[a5]at r1;simp only[Ay,Az]at r1;obtain⟨rfl,rfl⟩:=r1;exact⟨u,c,cs,t,a5,r2,⟨by simpa using a6,(aa.fresh _ _ _ a5).2,a7,a8,a9,a1,a2,a3,by rw[←aa.prog];exact a11,a10⟩⟩
          ·rw[a5]at r1;simp at r1
        match hcs:cs.toList,p4 with
        |[x1,x2],p4=>
         obtain⟨⟨z1,_⟩,⟨z2,_⟩,_⟩:=p4;obtain⟨u1,c1,cs1,t1,m1,m2,m3⟩:=al _ _ _ af hx1 z1;obtain⟨u2,c2,cs2,t2,m4,m5,m6⟩:=al _ _ _ ag hy1 z2;have ah:cs= #[x1,x2]:=by apply Aa;exact hcs
         have hbx:xE (nth .none s'.objs (Vo fn.ntmps))=true:=by rw[ad];rfl
         have aj:k1≠Vo fn.ntmps:=fun e=>by rw[e,ad]at af;simp at af
         have ak:k2≠Vo fn.ntmps:=fun e=>by rw[e,ad]at ag;simp at ag
         refine⟨hd,v,hv1,v,rfl,aa.below,F',u1,c1,cs1,t1,u2,c2,cs2,t2,t',aa.fsup,fun x hx=>⟨aa.bound x hx,aa.fsub x hx⟩,hv2 F',p2,by rw[p3,ah,m2,m5],m3,m6,fun e=>?_,fun e=>?_,fun e=>?_,(aa.fresh _ _ _ m1).1,(aa.fresh _ _ _ m4).1⟩
         ·subst e;exact ab (aa.inj _ _ _ _ _ m1 m4)
         ·subst e;exact aj (aa.inj _ _ _ _ _ m1 p1)
         ·subst e;exact ak (aa.inj _ _ _ _ _ m4 p1)
       ·simp at a0
      ·simp at a0
     ·simp at a0
    ·simp at a0
   ·simp at a0
  rcases hx with rfl|rfl
  ·have he:e= .normal:=he;subst he;exact am
  ·have he:e= .ret:=he;subst he;exact am
 split at h
 ·rename_i s' hr;exact aq _ _ (.inl rfl) hr h
 ·rename_i s' hr;exact aq _ _ (.inr rfl) hr h
 ·simp at h
end
end Eng
end

section
namespace Eng
open Go Go.RowKit
def N8 (s:Nat) (ob:List Obj):V→Option (List Nat×List (List D))
 | .nilS=>some ([],[])
 | .arr k=>match nth .none ob k with
  | .arr s0 es false=>match Aw s0 s&&QR es with
   |true=>some ([k],es)
   |false=>none
  |_=>none
 |_=>none
def yf:List Nat→List (Nat×Obj)
 |[]=>[]
 |k::r=>(k,.dead)::yf r
def HX (s:Nat) (chk:List (List D)→List (List D)→List A→Bool) (mk:List (List D)→List (List D)→List A→List (List D)×List (List D)) (dst:Option Nat) (vs:List V) (ob:List Obj):R:=
 match dst,vs with
 |some d,.box k 0::r=>match nth .none ob k with
  | .box [v1,v2]=>match N8 s ob v1,N8 s ob v2,kL ob r with
   |some (k1,xs),some (k2,ys),some (al,[])=>match qq ob d&&qq ob (d+1)&&Tx k1 k2 with
    |true=> .cond (chk xs ys al=true) (Ke []) (yf (k1++k2)++[(d,.arr s (mk xs ys al).1 false),(d+1,.arr s (mk xs ys al).2 false),(k,.box [.arr d,.arr (d+1)])])
    |false=> .fail
   |_,_,_=> .fail
  |_=> .fail
 |_,_=> .fail
theorem j8 {p:Nat×Obj}:∀{l:List Nat},p∈yf l↔p.1∈l∧p.2= .dead
 |[]=>by simp[yf]
 |k::r=>by
  simp only[yf,Al];rw[j8];constructor
  ·rintro(rfl|h)
   ·exact⟨.inl rfl,rfl⟩
   ·exact⟨.inr h.1,h.2⟩
  ·rintro⟨h1|h1,h2⟩
   ·exact .inl (Prod.ext h1 h2)
   ·exact .inr ⟨h1,h2⟩
theorem KM {s:Nat} {ob:List Obj} {v:V} {ks:List Nat} {es:List (List D)} (h:N8 s ob v=some (ks,es)):(v= .nilS∧ks=[]∧es=[])∨∃k,v= .arr k∧ks=[k]∧es≠[]∧nth .none ob k= .arr s es false:=by
 unfold N8 at h;split at h
 ·simp only[Ay,Az]at h;exact .inl ⟨rfl,h.1.symm,h.2.symm⟩
 ·rename_i k;split at h
  ·rename_i s0 es0 hk;split at h
   ·rename_i hb;simp only[Ay,Az]at h;obtain⟨rfl,rfl⟩:=h;simp only[Ad]at hb;obtain rfl:=Au hb.1;exact .inr ⟨k,rfl,rfl,fun e=>by rw[e]at hb;simp[QR]at hb,hk⟩
   ·simp at h
  ·simp at h
 ·simp at h
section
variable {C:Cx} {B:Bd} {F0:Nat→Prop} {w0:World} {F:Nat→Prop} {loc:Where} {st:St} {a:Act} {w:World}
theorem Conc.adoptB {dst:Option Nat} {d k s g cg:Nat} {v1 v2:V} {xs ys:List (List D)} {dead:List Nat} {w':World} {F':Nat→Prop} {b1 b2:Option Nat} {u1 c1 u2 c2:Nat} {cs1 cs2:Array Value} {t1 t2 t':TypeId} {rv:V} {rx:Value} (h:Conc C B F0 w0 F loc st a w)
 (hd:qq st.objs d=true) (hd1:qq st.objs (d+1)=true) (hk:nth .none st.objs k= .box [v1,v2]) (hl:loc k=some (g,cg)) (hgF:¬F g)
 (hdead:∀j∈dead,∃s es,nth .none st.objs j= .arr s es false) (hX:∀x,YL g b1 b2 x→¬F x∧(x=g∨∃j∈dead,∃c,loc j=some (x,c)))
 (hbel:BelowX ⟨w.heap.size,YL g b1 b2⟩ w w') (hF1:∀x,F x→F' x) (hF2:∀x,F' x→x<w'.heap.size∧(F x∨Own ⟨w.heap.size,YL g b1 b2⟩ x)) (hgF':¬F' g)
 (hg:w'.heap[g]? =some (.cells #[.slice (some ⟨u1,0,none⟩) xs.length c1,.slice (some ⟨u2,0,none⟩) ys.length c2] t' (0,0)))
 (hL1:LentOk C.P w' F' u1 c1 cs1 t1 s xs) (hL2:LentOk C.P w' F' u2 c2 cs2 t2 s ys) (h12:u1≠u2) (h1g:u1≠g) (h2g:u2≠g) (ho1:Own ⟨w.heap.size,YL g b1 b2⟩ u1) (ho2:Own ⟨w.heap.size,YL g b1 b2⟩ u2)
 (hv:∀(loc:Where) (objs:List Obj),CV loc objs w' F' rv rx∧Ref objs rv):
 St.has C B F0 w0 (st.put dst rv (yf dead++[(d,.arr s xs false),(d+1,.arr s ys false),(k,.box [.arr d,.arr (d+1)])])) (a.put dst rx) w':=by
 obtain⟨a2,hlt⟩:=qE hd;obtain⟨a0,hlt1⟩:=qE hd1;have hkl:k<st.objs.length:=qQ (by rw[hk];simp);have ab:k≠d:=fun e=>by subst e;rw[hk]at a2;simp at a2
 have a7:k≠d+1:=fun e=>by subst e;rw[hk]at a0;simp at a0
 have a3:k∉dead:=fun e=>by obtain⟨s',a8,h1⟩:=hdead k e;rw[hk]at h1;simp at h1
 have hdd:d∉dead:=fun e=>by obtain⟨s',a8,h1⟩:=hdead d e;rw[a2]at h1;simp at h1
 have hdd1:d+1∉dead:=fun e=>by obtain⟨s',a8,h1⟩:=hdead _ e;rw[a0]at h1;simp at h1
 have a9:=hbel.size;have hnd:=fun j=>zf (yf dead) st.objs j fun p hp=>⟨(j8.1 hp).2,by
  obtain⟨s',a8,h1⟩:=hdead _ (j8.1 hp).1;exact qQ (by rw[h1];simp)⟩
 have ad:∀j,(∃p∈yf dead,p.1=j)↔j∈dead:=fun j=>⟨fun⟨p,hp,e⟩=>e▸(j8.1 hp).1,fun hj=>⟨(j,.dead),j8.2 ⟨hj,rfl⟩,rfl⟩⟩
 let us:List (Nat×Obj):=yf dead++[(d,.arr s xs false),(d+1,.arr s ys false),(k,.box [.arr d,.arr (d+1)])]
 have hn:∀j,nth .none (upds st.objs us) j=if j=k then .box [.arr d,.arr (d+1)]else if j=d+1 then .arr s ys false else if j=d then .arr s xs false else if j∈dead then .dead else nth .none st.objs j:=fun j=>by
  show nth .none (upds st.objs (yf dead++_)) j=_;rw[zr];show nth .none (upd (upd (upd (upds st.objs (yf dead)) d (.arr s xs false)) (d+1) (.arr s ys false)) k (.box [.arr d,.arr (d+1)])) j=_;have hlen:=jb (yf dead) st.objs;by_cases e0:k=j
  ·subst e0;rw[qb _ _ _ (by simp only[qi];omega),if_pos rfl]
  rw[qa _ _ _ e0,if_neg (Ax e0)];by_cases e1:d+1=j
  ·subst e1;rw[qb _ _ _ (by simp only[qi];omega),if_pos rfl]
  rw[qa _ _ _ e1,if_neg (Ax e1)];by_cases e2:d=j
  ·subst e2;rw[qb _ _ _ (by omega),if_pos rfl]
  rw[qa _ _ _ e2,if_neg (Ax e2),hnd];simp only[ad]
 have a5:∀x,Own ⟨w.heap.size,YL g b1 b2⟩ x→Own B x:=fun x hx=>by
  rcases hx with hx|hx
  ·exact .inl (Av h.hB hx)
  ·rcases(hX x hx).2 with rfl|⟨j,_,c,a1⟩
   ·exact(h.fresh _ _ _ hl).1
   ·exact(h.fresh _ _ _ a1).1
 have ag:∀x,F x→w'.heap[x]? =w.heap[x]? :=fun x hx=>hbel.block x (h.bound x hx) fun hX'=>(hX x hX').1 hx
 open Classical in
 let loc':Where:=⟨loc.P,fun j=>if j=d then some (u1,c1)else if j=d+1 then some (u2,c2)else if j∈dead then none else loc j,fun j=>if j=d then t1 else if j=d+1 then t2 else loc.ty j⟩
 have ac:∀j x y,loc' j=some (x,y)→(j=d∧x=u1∧y=c1)∨(j=d+1∧x=u2∧y=c2)∨(j≠d∧j≠d+1∧j∉dead∧loc j=some (x,y)):=fun j x y hl=>by
  simp only[loc']at hl;split at hl
  ·simp only[Ay,Az]at hl;exact .inl ⟨‹_›,hl.1.symm,hl.2.symm⟩
  ·split at hl
   ·simp only[Ay,Az]at hl;exact .inr (.inl ⟨‹_›,hl.1.symm,hl.2.symm⟩)
   ·split at hl
    ·simp at hl
    ·exact .inr (.inr ⟨‹_›,‹_›,‹_›,hl⟩)
 have a6:∀j x y,j∉dead→j≠k→loc j=some (x,y)→¬YL g b1 b2 x:=fun j x y hj hjk a1 hx=>by
  rcases(hX x hx).2 with rfl|⟨i,hi,c',hl3⟩
  ·exact hjk (h.inj _ _ _ _ _ a1 hl)
  ·exact hj (h.inj _ _ _ _ _ hl3 a1▸hi)
 have a4:∀j,nth .none st.objs j≠ .none→j≠d∧j≠d+1:=fun j hj=>⟨fun e=>by subst e;exact hj a2,fun e=>by subst e;exact hj a0⟩
 have af:Le st.objs (upds st.objs us) loc loc':=by
  refine⟨rfl,fun j hj=>?_,fun j hj=>?_,fun j o' hj hc hbx=>?_,fun j s' a8 fz' hj hc=>?_⟩
  ·obtain⟨e1,e2⟩:=a4 j hj;simp[loc',e1,e2]
  ·obtain⟨e1,e2⟩:=a4 j hj;rw[hn];by_cases e0:j=k
   ·rw[if_pos e0];simp
   ·rw[if_neg e0,if_neg e2,if_neg e1];split
    ·simp
    ·exact hj
  ·obtain⟨e1,e2⟩:=a4 j hj;rw[hn]at hc;by_cases e0:j=k
   ·subst e0;exact⟨by rw[hk];rfl,by simp only[loc'];rw[if_neg e1,if_neg e2,if_neg a3]⟩
   ·rw[if_neg e0,if_neg e2,if_neg e1]at hc;split at hc
    ·rw[←hc]at hbx;simp[xE]at hbx
    ·rename_i e;exact⟨by rw[hc];exact hbx,by simp only[loc'];rw[if_neg e1,if_neg e2,if_neg e]⟩
  ·obtain⟨e1,e2⟩:=a4 j hj;rw[hn]at hc;by_cases e0:j=k
   ·rw[if_pos e0]at hc;simp at hc
   ·rw[if_neg e0,if_neg e2,if_neg e1]at hc;split at hc
    ·simp at hc
    ·rename_i e;exact⟨⟨_,_,hc,rfl⟩,by simp only[loc'];rw[if_neg e1,if_neg e2,if_neg e]⟩
 have hbw:BelowX B w w':=⟨hbel.os,hbel.tape,hbel.output,hbel.size,fun j hj hjX=>hbel.block j (At hj h.hB) fun hx=>by
  rcases a5 j (.inr hx)with h1|h1
  ·omega
  ·exact hjX h1⟩
 have ae:∀u,Own ⟨w.heap.size,YL g b1 b2⟩ u→∀j x y,j∉dead→j≠k→loc j=some (x,y)→x≠u:=fun u hu j x y hj hjk a1 e=>by
  subst e;rcases hu with hu|hu
  ·have hu:w.heap.size≤x:=hu;have:=(h.fresh _ _ _ a1).2;omega
  ·exact a6 _ _ _ hj hjk a1 hu
 refine⟨F',loc',h.step hF1 ag af (h.below.trans hbw) (by have:=h.hB;omega) (fun j=>?_) ?_ ?_ (fun x hx=>(hF2 x hx).1) (fun x hx=>?_) (hv _ _).1 (hv loc' _).2⟩
 ·rw[hn];split
  ·rename_i e;subst e;refine⟨g,cg,_,t',by simp only[loc'];rw[if_neg ab,if_neg a7,if_neg a3];exact hl,hgF',hg,⟨⟨fun s' a8 fz' hc=>?_,rfl⟩,⟨fun s' a8 fz' hc=>?_,rfl⟩,trivial⟩,fun v hv=>?_⟩
   ·rw[hn,if_neg (Ax ab),if_neg (by omega),if_pos rfl]at hc;simp only[Af]at hc;obtain⟨rfl,rfl,rfl⟩:=hc;exact .inl ⟨u1,c1,by simp[loc'],rfl⟩
   ·rw[hn,if_neg (Ax a7),if_pos rfl]at hc;simp only[Af]at hc;obtain⟨rfl,rfl,rfl⟩:=hc;exact .inl ⟨u2,c2,by simp[loc'],rfl⟩
   ·simp only[Al,An,or_false]at hv;rcases hv with rfl|rfl
    ·show nth .none (upds st.objs us) d≠ .none;rw[hn,if_neg (Ax ab),if_neg (by omega),if_pos rfl];simp
    ·show nth .none (upds st.objs us) (d+1)≠ .none;rw[hn,if_neg (Ax a7),if_pos rfl];simp
  ·rename_i e0;split
   ·rename_i e;subst e;exact⟨hL2.room,hL2.s0,hL2.lens,.inr ⟨u2,c2,cs2,t2,by simp[loc'],by simpa using hL2.nF,hL2.blk,hL2.sz,hL2.lc,hL2.cd,by show loc.P.cellsOf t2=s;rw[h.prog];exact hL2.ct,by simp[loc']⟩⟩
   ·rename_i e1;split
    ·rename_i e;subst e;exact⟨hL1.room,hL1.s0,hL1.lens,.inr ⟨u1,c1,cs1,t1,by simp[loc'],by simpa using hL1.nF,hL1.blk,hL1.sz,hL1.lc,hL1.cd,by show loc.P.cellsOf t1=s;rw[h.prog];exact hL1.ct,by simp[loc']⟩⟩
    ·rename_i e2;split
     ·rename_i e3;show loc' j=none;simp only[loc'];rw[if_neg e2,if_neg e1,if_pos e3]
     ·rename_i e3;refine CO.le hF1 ag af (by simp only[loc'];rw[if_neg e2,if_neg e1,if_neg e3]) (by simp only[loc'];rw[if_neg e2,if_neg e1]) (fun x y a1=>?_) (h.objs j);have hf:=(h.fresh _ _ _ a1).2;have hx:=a6 _ _ _ e3 e0 a1;refine⟨hbel.block x hf hx,fun hnF hF'=>?_⟩;rcases(hF2 x hF').2 with h1|h1|h1
      ·exact hnF h1
      ·have h1:w.heap.size≤x:=h1;omega
      ·exact hx h1
 ·intro i j x y y' q1 q2;have aa:∀i x y,i∉dead→loc i=some (x,y)→x≠u1∧x≠u2:=fun i x y hi a1=>by
   by_cases hik:i=k
   ·subst hik;rw[hl]at a1;simp only[Ay,Az]at a1;obtain⟨rfl,rfl⟩:=a1;exact⟨Ax h1g,Ax h2g⟩
   ·exact⟨ae u1 ho1 i x y hi hik a1,ae u2 ho2 i x y hi hik a1⟩
  rcases ac _ _ _ q1 with⟨r1,r2,r3⟩|⟨r1,r2,r3⟩|⟨r1,r2,r3,r4⟩<;>rcases ac _ _ _ q2 with⟨z1,z2,z3⟩|⟨z1,z2,z3⟩|⟨z1,z2,z3,z4⟩
  ·rw[r1,z1]
  ·exact absurd (r2▸z2) h12
  ·exact absurd r2 (aa _ _ _ z3 z4).1
  ·exact absurd (z2▸r2) h12
  ·rw[r1,z1]
  ·exact absurd r2 (aa _ _ _ z3 z4).2
  ·exact absurd z2 (aa _ _ _ r3 r4).1
  ·exact absurd z2 (aa _ _ _ r3 r4).2
  ·exact h.inj _ _ _ _ _ r4 z4
 ·intro j x y q1;rcases ac _ _ _ q1 with⟨r1,r2,r3⟩|⟨r1,r2,r3⟩|⟨r1,r2,r3,r4⟩
  ·rw[r2];exact⟨a5 _ ho1,hL1.lt⟩
  ·rw[r2];exact⟨a5 _ ho2,hL2.lt⟩
  ·exact⟨(h.fresh _ _ _ r4).1,At (h.fresh _ _ _ r4).2 a9⟩
 ·rcases(hF2 x hx).2 with h1|h1
  ·exact h.fsub x h1
  ·exact .inr (a5 x h1)
theorem JC (hc:Conc C B F0 w0 F loc st a w) {s:Nat} {v:V} {x:Value} {ks:List Nat} {es:List (List D)} (hr:N8 s st.objs v=some (ks,es)) (hv:CV loc st.objs w F v x):
 ∃b:Option Nat,L1 C.P w F s es x b∧(∀y,b=some y→∃k c,ks=[k]∧loc k=some (y,c))∧∀j∈ks,∃s es,nth .none st.objs j= .arr s es false:=by
 rcases KM hr with⟨rfl,rfl,rfl⟩|⟨k,rfl,rfl,a1,hk⟩
 ·exact⟨none,⟨rfl,hv⟩,fun y h=>by simp at h,fun j hj=>by simp at hj⟩
 ·have a0:=hc.objs k;rw[hk]at a0;obtain⟨q1,q2,q3,q4⟩:=a0;rcases q4 with⟨_,q5⟩|⟨gb,c0,cs0,t0,q5,q6,q7,q8,q9,q10,q11,q12⟩
  ·exact absurd q5 a1
  ·rcases hv _ _ _ hk with⟨b1,c1,r1,r2⟩|⟨r1,_⟩
   ·rw[q5]at r1;simp only[Ay,Az]at r1;obtain⟨rfl,rfl⟩:=r1;exact⟨some gb,⟨a1,c0,cs0,t0,r2,⟨by simpa using q6,(hc.fresh _ _ _ q5).2,q7,q8,q9,q1,q2,q3,by rw[←hc.prog];exact q11,q10⟩⟩,fun y h=>⟨k,c0,rfl,by simp only[Ay]at h;rw[←h];exact q5⟩,fun j hj=>by simp only[Aj]at hj;subst hj;exact⟨_,_,hk⟩⟩
   ·rw[q5]at r1;simp at r1
end
section
variable {C:Cx}
theorem L2 {f s:Nat} {fn:Func} {chk:List (List D)→List (List D)→List A→Bool} {mk:List (List D)→List (List D)→List A→List (List D)×List (List D)} (hf:C.P.funcs[f]? =some fn) (hb:fn.body≠none) (hn:fn.name≠ "runtime.NumGoroutine") (hw:C.wd f=true)
 (hmk:∀xs ys al,chk xs ys al=true→Xu C f s xs ys al (mk xs ys al).1 (mk xs ys al).2):EffAt C f (HX s chk mk):=by
 refine⟨fun{B F0 w0 F loc st a w dst args ts ty pos after g} hc=>?_,fun dst vs ob ob' hh hd=>?_,fun dst vs ob hv _=>?_⟩
 ·unfold HX;split
  ·rename_i d k r a5;split
   ·rename_i v1 v2 hk;split
    ·rename_i k1 xs k2 ys al h1 h2 ag;split
     ·rename_i a0;simp only[Ad]at a0;obtain⟨⟨hd,a6⟩,ae⟩:=a0;intro hck next Q hnx
      have hG:=hmk xs ys al hck;obtain⟨x0,xr,ai⟩:∃x0 xr,args.toList=x0::xr:=by
       cases h:args.toList with
       |nil=>rw[h]at a5;simp at a5
       |cons x0 xr=>exact⟨x0,xr,rfl⟩
      rw[ai]at a5;simp only[As,List.cons.injEq]at a5;obtain⟨hx0,rfl⟩:=a5;obtain⟨hfz,a7⟩:=vn hc ag (kp hc xr);have a4:=a7 F (fun _ h=>h) (fun p hp=>by simp at hp);have ah:=(qO hc x0).1;rw[hx0]at ah;obtain⟨gb,cb,p1,p2⟩:=ah _ hk rfl;have ad:=hc.objs k;rw[hk]at ad;obtain⟨gb',cb',cs,t,q1,q2,q3,q4,q5⟩:=ad;rw[p1]at q1;simp only[Ay,Az]at q1;obtain⟨rfl,rfl⟩:=q1
      match hcs:cs.toList,q4 with
      |[y1,y2],q4=>
       obtain⟨⟨z1,_⟩,⟨z2,_⟩,_⟩:=q4;have a9:cs= #[y1,y2]:=by apply Aa;exact hcs
       obtain⟨b1,l1,l2,l3⟩:=JC hc h1 z1;obtain⟨b2,m1,m2,m3⟩:=JC hc h2 z2;have ab:∀j c,loc j=some (gb,c)→j=k:=fun j c hj=>hc.inj _ _ _ _ _ hj p1
       have a2:∀j∈k1++k2,∃s es,nth .none st.objs j= .arr s es false:=fun j hj=>by
        rcases Am.1 hj with hj|hj
        ·exact l3 j hj
        ·exact m3 j hj
       have aj:∀j∈k1++k2,∀c,loc j≠some (gb,c):=fun j hj c e=>by have:=ab j c e;subst this;obtain⟨s',es',h3⟩:=a2 _ hj;rw[hk]at h3;simp at h3
       have a1:=hG w F (xr.map a.eval) gb b1 b2 y1 y2 t hc.bound hc.inv a4 ⟨q2,(hc.fresh _ _ _ p1).2,by rw[q3,a9],l1,m1,fun e=>by
        obtain⟨j,c,e1,e2⟩:=l2 _ e;exact aj j (by rw[e1];simp) c e2,fun e=>by
        obtain⟨j,c,e1,e2⟩:=m2 _ e;exact aj j (by rw[e1];simp) c e2,fun x e e'=>by
        obtain⟨j,c,e1,e2⟩:=l2 _ e;obtain⟨j',c',e3,e4⟩:=m2 _ e';have:=hc.inj _ _ _ _ _ e2 e4;exact zQ ae j (by rw[e1];simp) (by rw[e3,this];simp)⟩
       have a3:(Ah (some ⟨gb,0,none⟩)::xr.map a.eval).toArray=args.map a.eval:=by apply Aa;rw[Ac,ai];simp[p2]
       rw[a3]at a1;refine xY hf hb hn a1 fun e w' he=>?_
       obtain⟨v,rfl,a8,F',u1,c1,cs1,t1,u2,c2,cs2,t2,t',o1,o2,o3,o4,o5,o6,o7,o8,o9,o10,o11,o12⟩:=he;refine⟨_,rfl,hnx _ _ ?_⟩;exact hc.adoptB (dead:=k1++k2) (rv:=Ke []) hd a6 hk p1 q2 a2 (fun x hx=>by
        rcases hx with rfl|hx|hx
        ·exact⟨q2,.inl rfl⟩
        ·obtain⟨j,c,e1,e2⟩:=l2 _ hx;subst hx;obtain⟨_,c',cs',t',_,hL⟩:=l1;exact⟨hL.nF,.inr ⟨j,by rw[e1];simp,c,e2⟩⟩
        ·obtain⟨j,c,e1,e2⟩:=m2 _ hx;subst hx;obtain⟨_,c',cs',t',_,hL⟩:=m1;exact⟨hL.nF,.inr ⟨j,by rw[e1];simp,c,e2⟩⟩) a8 o1 o2 o4 o5 o6 o7 o8 o9 o10 o11 o12 (fun loc objs=>WY o3)
     ·trivial
    ·trivial
   ·trivial
  ·trivial
 ·unfold HX;split
  ·rename_i d k r;have hk0:nth .none ob k=nth .none ob' k:=hh k (by
    rw[qy];exact⟨k,Ak.2 ⟨.box k 0,by simp,by simp[qk]⟩,.inl rfl⟩)
   have h1:kL ob r=kL ob' r:=jM (c:=2) fun v hv k hk=> .inl (hh k (by
    rw[qy];exact⟨k,Ak.2 ⟨v,by simp[hv],hk⟩,.inl rfl⟩))
   have hf0:=hd d (.inl rfl);have hf1:=hd (d+1) (.inr ⟨hw,d,rfl,rfl⟩);rw[←hk0];split
   ·rename_i v1 v2 hk;have hr:∀v∈[v1,v2],N8 s ob v=N8 s ob' v:=fun v hv=>by
     unfold N8;split
     ·rfl
     ·rename_i j;have:nth .none ob j=nth .none ob' j:=hh j (by
       rw[qy];exact⟨k,Ak.2 ⟨.box k 0,by simp,by simp[qk]⟩,.inr ⟨.arr j,by rw[hk];exact hv,by simp[qk]⟩⟩)
      rw[this]
     ·rfl
    rw[hr v1 (by simp),hr v2 (by simp),h1,hf0,hf1]
   ·rfl
  ·rfl
 ·unfold HX;split
  ·rename_i d k r;split
   ·rename_i v1 v2 hk;split
    ·rename_i k1 xs k2 ys al h1 h2 ag;split
     ·rename_i a0;simp only[Ad]at a0;obtain⟨⟨hd,a6⟩,ae⟩:=a0;have ac:k∈zp ob ((V.box k 0::r).flatMap qk):=by rw[qy];exact⟨k,Ak.2 ⟨.box k 0,by simp,by simp[qk]⟩,.inl rfl⟩
      refine⟨fun p hp=>?_,fun j hj=>by rw[Qb]at hj;simp at hj⟩;rcases Am.1 hp with hp|hp
      ·obtain⟨hp1,af⟩:=j8.1 hp;have hin:∃v∈[v1,v2],v= .arr p.1∧nth .none ob p.1≠ .none:=by
        rcases Am.1 hp1 with hj|hj
        ·rcases KM h1 with⟨_,rfl,_⟩|⟨j,rfl,rfl,_,aa⟩
         ·simp at hj
         ·simp only[Aj]at hj;exact⟨.arr j,by simp,by rw[hj],by rw[hj,aa];simp⟩
        ·rcases KM h2 with⟨_,rfl,_⟩|⟨j,rfl,rfl,_,aa⟩
         ·simp at hj
         ·simp only[Aj]at hj;exact⟨.arr j,by simp,by rw[hj],by rw[hj,aa];simp⟩
       obtain⟨v,hv1,hv2,hv3⟩:=hin;refine⟨.inr ⟨?_,hv3⟩,by rw[af];simp,fun u hu=>by rw[af]at hu;simp[qM]at hu⟩;rw[qy];exact⟨k,Ak.2 ⟨.box k 0,by simp,by simp[qk]⟩,.inr ⟨v,by rw[hk];exact hv1,by rw[hv2];simp[qk]⟩⟩
      ·simp only[Al,An,or_false]at hp;rcases hp with rfl|rfl|rfl
       ·exact⟨.inl ⟨.inl rfl,hd⟩,by simp,fun u hu=>by simp[qM]at hu⟩
       ·exact⟨.inl ⟨.inr ⟨hw,d,rfl,rfl⟩,a6⟩,by simp,fun u hu=>by simp[qM]at hu⟩
       ·refine⟨.inr ⟨ac,by rw[hk];simp⟩,by simp,fun u hu j hj=>?_⟩;simp only[qM,Al,An,or_false]at hu;rcases hu with rfl|rfl
        ·simp only[qk,Aj]at hj;subst hj;exact .inr ⟨hd,.arr s (mk xs ys al).1 false,by simp⟩
        ·simp only[qk,Aj]at hj;subst hj;exact .inr ⟨a6,.arr s (mk xs ys al).2 false,by simp⟩
     ·trivial
    ·trivial
   ·trivial
  ·trivial
end
end Eng
end

section
namespace Eng
open Go Go.RowKit
section
variable {C:Cx} {B:Bd} {F0:Nat→Prop} {w0:World} {F:Nat→Prop} {loc:Where} {st:St} {a:Act} {w:World}
theorem Conc.adoptG {dst:Option Nat} {d s b c:Nat} {es:List (List D)} {cs:Array Value} {t:TypeId} {w':World} {F' X:Nat→Prop} {dead:List (Nat×Obj)} {rv:V} {rx:Value} (h:Conc C B F0 w0 F loc st a w) (hd:qq st.objs d=true)
 (hdead:∀p∈dead,p.2= .dead∧p.1<st.objs.length∧nth .none st.objs p.1≠ .none) (hX:∀x,X x→¬F x∧∃p∈dead,∃c,loc p.1=some (x,c))
 (hbel:BelowX ⟨w.heap.size,X⟩ w w') (hF1:∀x,F x→F' x) (hF2:∀x,F' x→x<w'.heap.size∧(F x∨Own ⟨w.heap.size,X⟩ x)) (hb1:Own ⟨w.heap.size,X⟩ b) (hL:LentOk C.P w' F' b c cs t s es) (hv:∀(loc:Where) (objs:List Obj),nth .none objs d= .arr s es false→loc d=some (b,c)→CV loc objs w' F' rv rx∧Ref objs rv):
 St.has C B F0 w0 (st.put dst rv (dead++[(d,.arr s es false)])) (a.put dst rx) w':=by
 obtain⟨a0,hlt⟩:=qE hd;have a5:=hbel.size;have hnd:=fun k=>zf dead st.objs k fun p hp=>⟨(hdead p hp).1,(hdead p hp).2.1⟩
 have hdd:¬∃p∈dead,p.1=d:=fun⟨p,hp,e⟩=>(hdead p hp).2.2 (by rw[e];exact a0)
 have hn:∀k,nth .none (upds st.objs (dead++[(d,.arr s es false)])) k=if k=d then .arr s es false else if(∃p∈dead,p.1=k)then .dead else nth .none st.objs k:=fun k=>by
  rw[zr];show nth .none (upd (upds st.objs dead) d (.arr s es false)) k=_;by_cases hk:d=k
  ·subst hk;rw[qb _ _ _ (by rw[jb];exact hlt),if_pos rfl]
  ·rw[qa _ _ _ hk,if_neg (Ax hk),hnd]
 have a2:∀x,Own ⟨w.heap.size,X⟩ x→Own B x:=fun x hx=>by
  rcases hx with hx|hx
  ·exact .inl (Av h.hB hx)
  ·obtain⟨_,p,_,c,hl⟩:=hX x hx;exact(h.fresh _ _ _ hl).1
 have a6:∀x,F x→w'.heap[x]? =w.heap[x]? :=fun x hx=>hbel.block x (h.bound x hx) fun hX'=>(hX x hX').1 hx
 open Classical in
 let loc':Where:=⟨loc.P,fun k=>if k=d then some (b,c)else if(∃p∈dead,p.1=k)then none else loc k,fun k=>if k=d then t else loc.ty k⟩
 have a3:∀k x y,loc' k=some (x,y)→(k=d∧x=b∧y=c)∨(k≠d∧(¬∃p∈dead,p.1=k)∧loc k=some (x,y)):=fun k x y hl=>by
  simp only[loc']at hl;split at hl
  ·simp only[Ay,Az]at hl;exact .inl ⟨‹_›,hl.1.symm,hl.2.symm⟩
  ·split at hl
   ·simp at hl
   ·exact .inr ⟨‹_›,‹_›,hl⟩
 have a1:∀k x y,(¬∃p∈dead,p.1=k)→loc k=some (x,y)→¬X x:=fun k x y hk hl hx=>by obtain⟨_,p,hp,c',hl2⟩:=hX x hx;exact hk ⟨p,hp,h.inj _ _ _ _ _ hl2 hl⟩
 have a4:Le st.objs (upds st.objs (dead++[(d,.arr s es false)])) loc loc':=by
  refine⟨rfl,fun k hk=>by
   have:k≠d:=fun e=>by subst e;exact absurd a0 hk
   simp[loc',this],fun k hk=>?_,fun k o' hk hc hbx=>?_,fun k s' es' fz' hk hc=>?_⟩
  ·have:k≠d:=fun e=>by subst e;exact absurd a0 hk
   rw[hn,if_neg this];split
   ·simp
   ·exact hk
  ·have:k≠d:=fun e=>by subst e;exact absurd a0 hk
   rw[hn,if_neg this]at hc;split at hc
   ·rw[←hc]at hbx;simp[xE]at hbx
   ·rename_i e;exact⟨by rw[hc];exact hbx,by simp only[loc'];rw[if_neg this,if_neg e]⟩
  ·have:k≠d:=fun e=>by subst e;exact absurd a0 hk
   rw[hn,if_neg this]at hc;split at hc
   ·simp at hc
   ·rename_i e;exact⟨⟨_,_,hc,rfl⟩,by simp only[loc'];rw[if_neg this,if_neg e]⟩
 have hbw:BelowX B w w':=⟨hbel.os,hbel.tape,hbel.output,hbel.size,fun j hj hjX=>hbel.block j (At hj h.hB) fun hx=>by
  rcases a2 j (.inr hx)with h1|h1
  ·omega
  ·exact hjX h1⟩
 refine⟨F',loc',h.step hF1 a6 a4 (h.below.trans hbw) (by have:=h.hB;omega) (fun k=>?_) ?_ ?_ (fun x hx=>(hF2 x hx).1) (fun x hx=>?_) (hv _ _ (by rw[hn,if_pos rfl]) (by simp[loc'])).1 (hv loc' _ (by rw[hn,if_pos rfl]) (by simp[loc'])).2⟩
 ·rw[hn];split
  ·rename_i e;exact⟨hL.room,hL.s0,hL.lens,.inr ⟨b,c,cs,t,by simp[loc',e],hL.nF,hL.blk,hL.sz,hL.lc,hL.cd,by show loc.P.cellsOf t=s;rw[h.prog];exact hL.ct,by simp[loc',e]⟩⟩
  ·rename_i e1;split
   ·rename_i e2;show loc' k=none;simp only[loc'];rw[if_neg e1,if_pos e2]
   ·rename_i e2;refine CO.le hF1 a6 a4 (by simp only[loc'];rw[if_neg e1,if_neg e2]) (by simp only[loc'];rw[if_neg e1]) (fun x y hl=>?_) (h.objs k);have hf:=(h.fresh _ _ _ hl).2;have hx:=a1 _ _ _ e2 hl;refine⟨hbel.block x hf hx,fun hnF hF'=>?_⟩;rcases(hF2 x hF').2 with h1|h1|h1
    ·exact hnF h1
    ·have h1:w.heap.size≤x:=h1;omega
    ·exact hx h1
 ·intro k k' x y y' q1 q2;rcases a3 _ _ _ q1 with⟨r1,r2,r3⟩|⟨r1,r2,r3⟩<;>rcases a3 _ _ _ q2 with⟨u1,u2,u3⟩|⟨u1,u2,u3⟩
  ·rw[r1,u1]
  ·subst r2;exfalso;rcases hb1 with hb1|hb1
   ·have hb1:w.heap.size≤x:=hb1;have:=(h.fresh _ _ _ u3).2;omega
   ·exact a1 _ _ _ u2 u3 hb1
  ·subst u2;exfalso;rcases hb1 with hb1|hb1
   ·have hb1:w.heap.size≤x:=hb1;have:=(h.fresh _ _ _ r3).2;omega
   ·exact a1 _ _ _ r2 r3 hb1
  ·exact h.inj _ _ _ _ _ r3 u3
 ·intro k x y q1;rcases a3 _ _ _ q1 with⟨r1,r2,r3⟩|⟨r1,r2,r3⟩
  ·subst r2;exact⟨a2 _ hb1,hL.lt⟩
  ·have:=h.fresh _ _ _ r3;exact⟨this.1,by omega⟩
 ·rcases(hF2 x hx).2 with h1|h1
  ·exact h.fsub x h1
  ·exact .inr (a2 x h1)
theorem Conc.goneD {dst:Option Nat} {w':World} {F' X:Nat→Prop} {dead:List (Nat×Obj)} {rv:V} {rx:Value} (h:Conc C B F0 w0 F loc st a w)
 (hdead:∀p∈dead,p.2= .dead∧p.1<st.objs.length∧nth .none st.objs p.1≠ .none) (hX:∀x,X x→¬F x∧∃p∈dead,∃c,loc p.1=some (x,c))
 (hbel:BelowX ⟨w.heap.size,X⟩ w w') (hF1:∀x,F x→F' x) (hF2:∀x,F' x→x<w'.heap.size∧(F x∨Own ⟨w.heap.size,X⟩ x))
 (hv:∀(loc:Where) (objs:List Obj),CV loc objs w' F' rv rx∧Ref objs rv):St.has C B F0 w0 (st.put dst rv dead) (a.put dst rx) w':=by
 have a4:=hbel.size;have hn:=fun k=>zf dead st.objs k fun p hp=>⟨(hdead p hp).1,(hdead p hp).2.1⟩
 have a1:∀x,Own ⟨w.heap.size,X⟩ x→Own B x:=fun x hx=>by
  rcases hx with hx|hx
  ·exact .inl (Av h.hB hx)
  ·obtain⟨_,p,_,c,hl⟩:=hX x hx;exact(h.fresh _ _ _ hl).1
 have a5:∀x,F x→w'.heap[x]? =w.heap[x]? :=fun x hx=>hbel.block x (h.bound x hx) fun hX'=>(hX x hX').1 hx
 open Classical in
 let loc':Where:=⟨loc.P,fun k=>if(∃p∈dead,p.1=k)then none else loc k,loc.ty⟩
 have a2:∀k x y,loc' k=some (x,y)→(¬∃p∈dead,p.1=k)∧loc k=some (x,y):=fun k x y hl=>by
  simp only[loc']at hl;split at hl
  ·simp at hl
  ·exact⟨‹_›,hl⟩
 have a0:∀k x y,(¬∃p∈dead,p.1=k)→loc k=some (x,y)→¬X x:=fun k x y hk hl hx=>by obtain⟨_,p,hp,c',hl2⟩:=hX x hx;exact hk ⟨p,hp,h.inj _ _ _ _ _ hl2 hl⟩
 have a3:Le st.objs (upds st.objs dead) loc loc':=by
  refine⟨rfl,fun k hk=>rfl,fun k hk=>?_,fun k o' hk hc hbx=>?_,fun k s' es' fz' hk hc=>?_⟩
  ·rw[hn];split
   ·simp
   ·exact hk
  ·rw[hn]at hc;split at hc
   ·rw[←hc]at hbx;simp[xE]at hbx
   ·rename_i e;exact⟨by rw[hc];exact hbx,by simp only[loc'];rw[if_neg e]⟩
  ·rw[hn]at hc;split at hc
   ·simp at hc
   ·rename_i e;exact⟨⟨_,_,hc,rfl⟩,by simp only[loc'];rw[if_neg e]⟩
 have hbw:BelowX B w w':=⟨hbel.os,hbel.tape,hbel.output,hbel.size,fun j hj hjX=>hbel.block j (At hj h.hB) fun hx=>by
  rcases a1 j (.inr hx)with h1|h1
  ·omega
  ·exact hjX h1⟩
 refine⟨F',loc',h.step hF1 a5 a3 (h.below.trans hbw) (by have:=h.hB;omega) (fun k=>?_) ?_ ?_ (fun x hx=>(hF2 x hx).1) (fun x hx=>?_) (hv _ _).1 (hv loc' _).2⟩
 ·rw[hn];split
  ·rename_i e2;show loc' k=none;simp only[loc'];rw[if_pos e2]
  ·rename_i e2;refine CO.le hF1 a5 a3 (by simp only[loc'];rw[if_neg e2]) rfl (fun x y hl=>?_) (h.objs k);have hf:=(h.fresh _ _ _ hl).2;have hx:=a0 _ _ _ e2 hl;refine⟨hbel.block x hf hx,fun hnF hF'=>?_⟩;rcases(hF2 x hF').2 with h1|h1|h1
   ·exact hnF h1
   ·have h1:w.heap.size≤x:=h1;omega
   ·exact hx h1
 ·intro k k' x y y' q1 q2;exact h.inj _ _ _ _ _ (a2 _ _ _ q1).2 (a2 _ _ _ q2).2
 ·intro k x y q1;have:=h.fresh _ _ _ (a2 _ _ _ q1).2;exact⟨this.1,by omega⟩
 ·rcases(hF2 x hx).2 with h1|h1
  ·exact h.fsub x h1
  ·exact .inr (a1 x h1)
end
def Qx (C:Cx) (f:Nat) (al:List A) (s:Nat) (es:List (List D)) (as:List A):Prop:=
 ∀(w:World) (F:Nat→Prop) (vs:List Value),(∀b,F b→b<w.heap.size)→Inv C F w→All2 (CA w F) al vs→
  Calls C.P f vs.toArray w fun e w'=>BelowX ⟨w.heap.size,fun _=>False⟩ w w'∧
   ∃(F':Nat→Prop) (b c:Nat) (cs:Array Value) (t:TypeId) (ys:List Value),e= .returned (.tuple (.slice (some ⟨b,0,none⟩) es.length c::ys).toArray)∧(∀x,F x→F' x)∧(∀x,F' x→x<w'.heap.size∧(F x∨Own ⟨w.heap.size,fun _=>False⟩ x))∧
    Own ⟨w.heap.size,fun _=>False⟩ b∧LentOk C.P w' F' b c cs t s es∧All2 (CA w' F') as ys
def RJ (C:Cx) (st:St) (rs:List ResultVar):Option (Nat×List (List D)×List A):=
 match rs with
 | .tmp t::r::rr=>match nth .any st.tmps t with
  | .arr k=>match nth .none st.objs k with
   | .arr s es false=>match XL C st (r::rr)with
    |some as=>match Qp as&&(QR es&&!as.isEmpty)with
     |true=>some (s,es,as)
     |false=>none
    |none=>none
   |_=>none
  |_=>none
 |_=>none
def L3 (tab:Nat→List A→Option (List A)) (C:Cx) (lim n f:Nat) (al:List A):Option (Nat×List (List D)×List A):=
 match C.P.funcs[f]? with
 |none=>none
 |some fn=>match fn.body with
  |none=>none
  |some c=>match wT (YF tab C lim n) C lim c (kd fn.ntmps al)with
   |some (.normal,s)=>RJ C s fn.results.toList
   |some (.ret,s)=>RJ C s fn.results.toList
   |_=>none
def HY (chk:List A→Bool) (mk:List A→Nat×List (List D)×List A) (dst:Option Nat) (vs:List V) (ob:List Obj):R:=
 match dst with
 |none=> .fail
 |some d=>match qq ob d,kL ob vs with
  |true,some (al,us)=> .cond (chk al=true) (.tpo d (mk al).2.2) (us++[(d,.arr (mk al).1 (mk al).2.1 false)])
  |_,_=> .fail
def Qy (C:Cx) (f s:Nat) (es:List (List D)) (post res:List A):Prop:=
 ∀(w:World) (F:Nat→Prop) (vs2:List Value) (g c0:Nat) (cs0:Array Value) (t0:TypeId),(∀b,F b→b<w.heap.size)→Inv C F w→All2 (CA w F) post vs2→LentOk C.P w F g c0 cs0 t0 s es→
  Calls C.P f (.slice (some ⟨g,0,none⟩) es.length c0::vs2).toArray w fun e w'=>BelowX ⟨w.heap.size,fun b=>b=g⟩ w w'∧∃v,e= .returned v∧WS w' (Ju F ⟨w.heap.size,fun b=>b=g⟩ w') res v
def L4 (tab:Nat→List A→Option (List A)) (C:Cx) (lim n f s:Nat) (es:List (List D)) (post:List A):Option (List A):=
 match C.P.funcs[f]? with
 |none=>none
 |some fn=>match fn.body with
  |none=>none
  |some c=>match wT (YF tab C lim n) C lim c (YK fn.ntmps [] (some (s,es)) post)with
   |some (.normal,st)=>XL C st fn.results.toList
   |some (.ret,st)=>XL C st fn.results.toList
   |_=>none
def HZ (s:Nat) (chk:List (List D)→List A→Bool) (mk:List (List D)→List A→List A) (_:Option Nat) (vs:List V) (ob:List Obj):R:=
 match vs with
 | .arr k::r=>match nth .none ob k,kL ob r with
  | .arr s0 es false,some (al,[])=>match Aw s0 s&&QR es with
   |true=> .cond (chk es al=true) (Ke (mk es al)) [(k,.dead)]
   |false=> .fail
  |_,_=> .fail
 |_=> .fail
section
variable {C:Cx}
theorem L5 {fn:Func} {w:World} {B:Bd} {F:Nat→Prop} {s':St} {a':Act} {w':World} {s:Nat} {es:List (List D)} {as:List A} (hh:St.has C B F w s' a' w') (has:RJ C s' fn.results.toList=some (s,es,as)):
 a'.defers=[]∧∃v,(results fn a'.tmps).run C.P w'= .ok v w'∧BelowX B w w'∧∃(F':Nat→Prop) (b c:Nat) (cs:Array Value) (t:TypeId) (ys:List Value),Ending.returned v= .returned (.tuple (.slice (some ⟨b,0,none⟩) es.length c::ys).toArray)∧(∀x,F x→F' x)∧(∀x,F' x→x<w'.heap.size∧(F x∨Own B x))∧
  Own B b∧LentOk C.P w' F' b c cs t s es∧All2 (CA w' F') as ys:=by
 obtain⟨F',loc',h⟩:=hh;unfold RJ at has;split at has
 ·rename_i t r rr hrs;split at has
  ·rename_i k hk;split at has
   ·rename_i s0 a0 a6;split at has
    ·rename_i as0 hrd;split at has
     ·rename_i a1;simp only[Ay,Az]at has;obtain⟨rfl,rfl,rfl⟩:=has;simp only[Ad,Ae,List.isEmpty_eq_false_iff]at a1;obtain⟨us,h1,h2⟩:=v7 h hrd;have h3:All2 (CA w' F') as0 us:=h2.mono_mem fun r hr v hv=>yX hv (Xo a1.1 r hr)
      have hx:=(yL h t).1;simp only[Act.eval]at hx;rw[hk]at hx;have a3:=h.objs k;rw[a6]at a3;obtain⟨a2,hs0,a4,a3⟩:=a3;rcases a3 with⟨_,h5⟩|⟨b',c',cs,t',h4,h5,h6,h7,h8,h9,h10,h11⟩
      ·rw[h5]at a1;simp[QR]at a1
      rcases hx _ _ _ a6 with⟨b,c,hl,hv⟩|⟨hl,_,_⟩
      ·rw[h4]at hl;simp only[Ay,Az]at hl;obtain⟨rfl,rfl⟩:=hl;have a5:=h.fresh _ _ _ h4;have hl2:0<us.length:=by rw[←h2.length];exact List.length_pos_iff.2 a1.2.2
       refine⟨h.defers,.tuple (.slice (some ⟨b',0,none⟩) a0.length c'::us).toArray,?_,h.below,F',b',c',cs,t',us,rfl,h.fsup,fun x hx=>⟨h.bound x hx,h.fsub x hx⟩,a5.1,⟨by simpa using h5,a5.2,h6,h7,h8,a2,hs0,a4,by rw[←h.prog];exact h10,h9⟩,h3⟩;have h6:((fn.results.toList).mapM (Tz a'.tmps)).run C.P w'= .ok (.slice (some ⟨b',0,none⟩) a0.length c'::us) w':=by
        rw[hrs,List.mapM_cons];have h7:(Tz a'.tmps (.tmp t)).run C.P w'= .ok (.slice (some ⟨b',0,none⟩) a0.length c') w':=by show(pure (a'.tmps.getD t undef):Sem Value).run C.P w'=_;rw[hv];rfl
        simp only[Sem.run_bind,h7,Result.andThen,h1];rfl
       have h8:(results fn a'.tmps).run C.P w'= .ok (if h:(Ai (some ⟨b',0,none⟩) a0.length c'::us).toArray.size=1 then(Ai (some ⟨b',0,none⟩) a0.length c'::us).toArray[0]else .tuple (Ai (some ⟨b',0,none⟩) a0.length c'::us).toArray) w':=by
        unfold results;rw[Ab];simp only[Sem.run_bind,map_eq_pure_bind];have h5:∀g:ResultVar→Sem Value,g=Tz a'.tmps→(fn.results.toList.mapM g).run C.P w'= .ok (.slice (some ⟨b',0,none⟩) a0.length c'::us) w':=fun g hg=>by rw[hg];exact h6
        rw[h5 _ (by funext r;cases r<;>rfl)];rfl
       rw[h8,dif_neg (by simp only[Ap,Aq];omega)]
      ·rw[h4]at hl;simp at hl
     ·simp at has
    ·simp at has
   ·simp at has
  ·simp at has
 ·simp at has
theorem Vq [EffOk C] {tab:Nat→List A→Option (List A)} {lim:Nat} (hm:C.P.follows .mixedOrders=true) (htab:∀f as rs,tab f as=some rs→qe C f as rs) {n f s:Nat} {al:List A} {es:List (List D)} {as:List A}
 (h:L3 tab C lim n f al=some (s,es,as)):Qx C f al s es as:=by
 unfold L3 at h;split at h
 ·simp at h
 rename_i fn hf;split at h
 ·simp at h
 rename_i c hc;have a3:∀(x:X) (s':St),(x= .normal∨x= .ret)→wT (YF tab C lim n) C lim c (kd fn.ntmps al)=some (x,s')→RJ C s' fn.results.toList=some (s,es,as)→Qx C f al s es as:=by
  intro x s' hx hr a1 w F vs hb a0 h1;refine calls_of_wp hf hc (Code.wp_mono (fun e a' w' hp=>?_) (Zf hm (fun f as rs h=>Qt hm htab n f as rs h) lim c _ s' x _ w hr (wQ hb a0 h1)));obtain⟨he,hh⟩:=hp;have a2:=L5 (fn:=fn) hh a1;rcases hx with rfl|rfl
  ·have he:e= .normal:=he;subst he;exact a2
  ·have he:e= .ret:=he;subst he;exact a2
 split at h
 ·rename_i s' hr;exact a3 _ _ (.inl rfl) hr h
 ·rename_i s' hr;exact a3 _ _ (.inr rfl) hr h
 ·simp at h
theorem L6 {fn:Func} {w:World} {B:Bd} {F:Nat→Prop} {s':St} {a':Act} {w':World} {res:List A} (hh:St.has C B F w s' a' w') (has:XL C s' fn.results.toList=some res):
 a'.defers=[]∧∃v,(results fn a'.tmps).run C.P w'= .ok v w'∧BelowX B w w'∧∃u,Ending.returned v= .returned u∧WS w' (Ju F B w') res u:=by
 obtain⟨F',loc',a0⟩:=hh;obtain⟨us,h1,h2⟩:=v7 a0 has;refine⟨a0.defers,if h:us.toArray.size=1 then us.toArray[0]else .tuple us.toArray,?_,a0.below,_,rfl,?_⟩
 ·unfold results;rw[Ab];simp only[Sem.run_bind,map_eq_pure_bind];have h5:∀g:ResultVar→Sem Value,g=Tz a'.tmps→(fn.results.toList.mapM g).run C.P w'= .ok us w':=fun g hg=>by rw[hg];exact h1
  rw[h5 _ (by funext r;cases r<;>rfl)];rfl
 ·match res,us,h2 with
  |[a],[u],h2=>exact h2.1
  |[],[],h2=>exact⟨#[],rfl,trivial⟩
  |a::b::r,u::v::s,h2=>exact⟨(u::v::s).toArray,by simp,h2⟩
theorem Vr [EffOk C] {tab:Nat→List A→Option (List A)} {lim:Nat} (hm:C.P.follows .mixedOrders=true) (htab:∀f as rs,tab f as=some rs→qe C f as rs) {n f s:Nat} {es:List (List D)} {post res:List A}
 (h:L4 tab C lim n f s es post=some res):Qy C f s es post res:=by
 unfold L4 at h;split at h
 ·simp at h
 rename_i fn hf;split at h
 ·simp at h
 rename_i c hc;have a3:∀(x:X) (s':St),(x= .normal∨x= .ret)→wT (YF tab C lim n) C lim c (YK fn.ntmps [] (some (s,es)) post)=some (x,s')→XL C s' fn.results.toList=some res→Qy C f s es post res:=by
  intro x s' hx hr a1 w F vs2 g c0 cs0 t0 hb a0 h2 hL;refine calls_of_wp hf hc (Code.wp_mono (fun e a' w' hp=>?_) (Zf hm (fun f as rs h=>Qt hm htab n f as rs h) lim c _ s' x _ w hr (HT (vs1:=[]) hb a0 trivial h2 (fun s0 es0 he=>by simp only[Ay,Az]at he;obtain⟨rfl,rfl⟩:=he;exact hL))));obtain⟨he,hh⟩:=hp;have a2:=L6 (fn:=fn) hh a1;rcases hx with rfl|rfl
  ·have he:e= .normal:=he;subst he;exact a2
  ·have he:e= .ret:=he;subst he;exact a2
 split at h
 ·rename_i s' hr;exact a3 _ _ (.inl rfl) hr h
 ·rename_i s' hr;exact a3 _ _ (.inr rfl) hr h
 ·simp at h
theorem L7 {f:Nat} {fn:Func} {chk:List A→Bool} {mk:List A→Nat×List (List D)×List A} (hf:C.P.funcs[f]? =some fn) (hb:fn.body≠none) (hn:fn.name≠ "runtime.NumGoroutine") (hmk:∀al,chk al=true→Qx C f al (mk al).1 (mk al).2.1 (mk al).2.2):EffAt C f (HY chk mk):=by
 refine⟨fun{B F0 w0 F loc st a w dst args ts ty pos after g} hc=>?_,fun dst vs ob ob' hh hd=>?_,fun dst vs ob hv _=>?_⟩
 ·unfold HY;split
  ·trivial
  ·rename_i d;split
   ·rename_i al us hd a7;obtain⟨a3,a4⟩:=vn hc a7 (kp hc args.toList);obtain⟨F',a6,hF',hb'⟩:=hc.freezes a3 st.dirty;have a2:=a4 F' hF' hb';intro hck next Q hnx
    have hG:=hmk al hck;have a0:=hG w F' (args.toList.map a.eval) a6.bound a6.inv a2;have a1:(args.toList.map a.eval).toArray=args.map a.eval:=by apply Aa;simp
    rw[a1]at a0;refine xY hf hb hn a0 fun e w' he=>?_
    obtain⟨a5,F2,b,c,cs,t,ys,rfl,h1,h2,h3,h4,h5⟩:=he;refine⟨_,rfl,hnx _ _ ?_⟩;have h6:=a6.adoptG (dst:=some d) (d:=d) (dead:=[]) (rv:= .tpo d (mk al).2.2) (rx:= .tuple (.slice (some ⟨b,0,none⟩) (mk al).2.1.length c::ys).toArray) (jo a3 hd) (fun p hp=>by simp at hp) (fun x hx=>hx.elim) a5 h1 h2 h3 h4
     (fun loc objs q1 q2=>⟨⟨_,_,rfl,fun s' es' fz' hc=>by
      rw[q1]at hc;simp only[Af]at hc;obtain⟨rfl,rfl,rfl⟩:=hc;exact⟨b,c,q2,rfl⟩,h5⟩,by
      show nth .none objs d≠ .none;rw[q1];simp⟩)
    refine xw h6 rfl ?_;show upds (upds st.objs us) ([]++[(d,.arr (mk al).1 (mk al).2.1 false)])=upds st.objs (us++[(d,.arr (mk al).1 (mk al).2.1 false)]);rw[zr us];rfl
   ·trivial
 ·unfold HY;cases dst with
  |none=>rfl
  |some d=>
   have h1:kL ob vs=kL ob' vs:=jM (c:=2) fun v hv k hk=> .inl (hh k (by
    rw[qy];exact⟨k,Ak.2 ⟨v,hv,hk⟩,.inl rfl⟩))
   simp only[h1];rw[hd d (.inl rfl)]
 ·unfold HY;split
  ·trivial
  ·rename_i d;split
   ·rename_i al us hd a7;have a3:=yZ a7;refine⟨fun p hp=>?_,fun k hk=>?_⟩
    ·rcases Am.1 hp with hp|hp
     ·obtain⟨⟨v,hv1,hv2⟩,s',es',fz,h1,h2⟩:=a3 p hp;refine⟨.inr ⟨?_,by rw[h1];simp⟩,by rw[h2];simp,fun u hu=>by rw[h2]at hu;simp[qM]at hu⟩;rw[qy];exact⟨p.1,Ak.2 ⟨v,hv1,hv2⟩,.inl rfl⟩
     ·simp only[Aj]at hp;subst hp;exact⟨.inl ⟨.inl rfl,hd⟩,by simp,fun u hu=>by simp[qM]at hu⟩
    ·simp only[qk,Aj]at hk;subst hk;exact .inr ⟨hd,_,List.mem_append_right _ (Aj.2 rfl)⟩
   ·trivial
theorem L8 {f s:Nat} {fn:Func} {chk:List (List D)→List A→Bool} {mk:List (List D)→List A→List A} (hf:C.P.funcs[f]? =some fn) (hb:fn.body≠none) (hn:fn.name≠ "runtime.NumGoroutine")
 (hmk:∀es al,chk es al=true→Qy C f s es al (mk es al)):EffAt C f (HZ s chk mk):=by
 refine⟨fun{B F0 w0 F loc st a w dst args ts ty pos after g} hc=>?_,fun dst vs ob ob' hh hd=>?_,fun dst vs ob hv _=>?_⟩
 ·unfold HZ;split
  ·rename_i k r a4;split
   ·rename_i s0 es al hk a8;split
    ·rename_i a5;simp only[Ad]at a5;obtain rfl:=Au a5.1;intro hck next Q hnx
     have hG:=hmk es al hck;obtain⟨x0,xs,a9⟩:∃x0 xs,args.toList=x0::xs:=by
      cases h:args.toList with
      |nil=>rw[h]at a4;simp at a4
      |cons x0 xs=>exact⟨x0,xs,rfl⟩
     rw[a9]at a4;simp only[As,List.cons.injEq]at a4;obtain⟨hx0,rfl⟩:=a4;obtain⟨hfz,a6⟩:=vn hc a8 (kp hc xs);have a2:=a6 F (fun _ h=>h) (fun p hp=>by simp at hp);obtain⟨gb,c0,cs0,t0,q1,q2,hL⟩:=OG hc hx0 hk (fun e=>by rw[e]at a5;simp[QR]at a5);have a0:=hG w F (xs.map a.eval) gb c0 cs0 t0 hc.bound hc.inv a2 hL;have a1:(Ai (some ⟨gb,0,none⟩) es.length c0::xs.map a.eval).toArray=args.map a.eval:=by apply Aa;rw[Ac,a9];simp[q2]
     rw[a1]at a0;refine xY hf hb hn a0 fun e w' he=>?_
     obtain⟨a3,v,rfl,a7⟩:=he;refine⟨_,rfl,hnx _ _ ?_⟩;exact hc.goneD (dead:=[(k,.dead)]) (rv:=Ke (mk es al)) (fun p hp=>by
      simp only[Aj]at hp;subst hp;exact⟨rfl,qQ (by rw[hk];simp),by rw[hk];simp⟩) (fun x hx=>by
      have hx:x=gb:=hx;rw[hx];exact⟨hL.nF,(k,.dead),by simp,c0,q1⟩) a3 (fun x hx=> .inl hx) (fun x hx=>by
      rcases hx with hx|hx
      ·exact⟨At (hc.bound x hx) a3.size,.inl hx⟩
      ·exact⟨hx.2,.inr hx.1⟩) (fun loc objs=>WY a7)
    ·trivial
   ·trivial
  ·trivial
 ·unfold HZ;cases vs with
  |nil=>rfl
  |cons v r=>
   cases v with
   |arr k=>
    have h0:nth .none ob k=nth .none ob' k:=hh k (by
     rw[qy];exact⟨k,Ak.2 ⟨.arr k,by simp,by simp[qk]⟩,.inl rfl⟩)
    have h1:kL ob r=kL ob' r:=jM (c:=2) fun v hv k hk=> .inl (hh k (by
     rw[qy];exact⟨k,Ak.2 ⟨v,by simp[hv],hk⟩,.inl rfl⟩))
    simp only[h0,h1]
   |_=>rfl
 ·unfold HZ;split
  ·rename_i k r;split
   ·rename_i s0 es al hk a8;split
    ·refine⟨fun p hp=>?_,fun j hj=>by rw[Qb]at hj;simp at hj⟩;simp only[Aj]at hp;subst hp;refine⟨.inr ⟨?_,by rw[hk];simp⟩,by simp,fun u hu=>by simp[qM]at hu⟩;rw[qy];exact⟨k,Ak.2 ⟨.arr k,by simp,by simp[qk]⟩,.inl rfl⟩
    ·trivial
   ·trivial
  ·trivial
end
theorem Ua {C C':Cx} (hP:C'.P=C.P) (hG:C'.G=C.G) {f s:Nat} {al as:List A} {es:List (List D)} (h:Qx C f al s es as):Qx C' f al s es as:=by
 intro w F vs hb hi h2;rw[hP];exact h w F vs hb (JA hG.symm hi) h2
theorem Ub {C C':Cx} (hP:C'.P=C.P) (hG:C'.G=C.G) {f s:Nat} {es:List (List D)} {post res:List A} (h:Qy C f s es post res):Qy C' f s es post res:=by
 intro w F vs2 g c0 cs0 t0 hb hi h2 hl;rw[hP]at hl ⊢;exact h w F vs2 g c0 cs0 t0 hb (JA hG.symm hi) h2 hl
end Eng
end
