/- Points above curves, points in regions (program); points in regions (chapter 14 of the document). -/
import Derived.Test.YtfipmjpmflmbbaaGreatDPbA
import Derived.Test.YtfipmjpmflmbbaaGreatDPaD
import Derived.Test.YtfipmjpmflmbbaaGreatDPaE
import Derived.Test.YtfipmjpmflmbbaaGreatDEngA
import Derived.Test.YtfipmjpmflmbbaaGreatDEngB
import Derived.Deep.Slices
import Derived.OpenShut
import Derived.ChangeSame
import Derived.Carry
import Derived.RowKit
open Bool renaming and_eq_true→Aw, true_and→Bx
open Eng.D.int renaming injEq→F0
open Go.DataW renaming TrodAll→F2, Whole→Gv, trod→Hu, Trod→Hv
open Go.IntKind renaming wrap→Hx
open Go.Value renaming okWide→Hy
open Int renaming ofNat_eq_natCast→I0
open LawfulBEq renaming eq_of_beq→I1
open List renaming getElem_mem→I2, append_nil→I3, take_succ_eq_append_getElem→J3, mem_append→J4, drop_eq_getElem_cons→J7, getElem?_eq_getElem→J8, take_length→J9, any_eq_true→Lm, range→Lr, mem_cons_of_mem→Ls, mem_cons→Lv, mem_singleton→M0, mem_cons_self→M1, take_of_length_le→M2, drop_of_length_le→M3, mem_range→No, drop_zero→P1, drop_drop→U0, take_add→U3, mem_map→V1, foldl→W0
open List.cons renaming injEq→W1
open Nat renaming eq_of_beq_eq_true→W2, zero_le→ba, beq→bb, one_mul→bc, le_refl→bd, add_mul→be, zero_mul→bh, add_zero→bm
open Option.some renaming injEq→bs
section
namespace Eng
open Go Go.Proofs Rl
set_option maxRecDepth 1000000
theorem UY:qc CC 243 [] [aR (q4 0)]:=by
 refine wpG Tryz.func243 ((Dz ..).mpr ?_);exact⟨_,b0,rfl⟩
theorem M7 (x:Rat):qc CC 184 [aR (q4 x)] [.ag (kT (rtQ x) [])]:=by
 refine wpG Tryz.func184 ((M6 ..).mpr ?_);exact⟨_,UY,_,UY,rfl⟩
theorem Rw {r:Rt} {i j k:Nat} {x:Rat} (hr:HT i j k r) (ho:okT r) (hx:Hz i x) (h:8*i+(8*j+6*k)<298900:=by omega):
 qc CC 119 [.ag (kT r []),aR (q4 x)] [aI (sg (rv r-ofR x))]:=by
 refine wpG Tryz.func119 ((Ru ..).mpr ?_);have e:rv (rtQ x)=ofR x:=by show ofR x+ofR 0*jh 0=ofR x;rw[xH,zml,ad0]
 have h1:=G4 (s:=rtQ x) hr ⟨hx,Hz.zero,Hz.zero⟩ ho (.inl ⟨rfl,rfl⟩);rw[e]at h1;exact⟨_,_,_,M7 x,_,h1,rfl⟩
theorem mH (v:Vc):qc CC 35 [.ag (kV v)] [aP (kP (atV v))]:=by
 refine wpG Tryz.func35 ((mG ..).mpr ?_);exact⟨_,Jz,_,Jz,_,Jz,rfl⟩
theorem vQ {p q:P5} (hp:Gp p) (hq:Gp q):qc CC 115 [.ag (kT (xP p) []),.ag (kT (xP q) [])] [aI (sg (px p-px q))]:=by
 have h:=G4 hp.1.tx hq.1.tx (Qn hp.2) (Qn hq.2)
 rwa [X2,X2]at h
theorem OF {p q:P5} (hp:Gp p) (hq:Gp q):qc CC 115 [.ag (kT (yP p) []),.ag (kT (yP q) [])] [aI (sg (py p-py q))]:=by
 have h:=G4 hp.1.ty hq.1.ty (X1 hp.2) (X1 hq.2)
 rwa [KC,KC]at h
theorem XK {c:Cu} (hc:Gc c):qc CC 114 [aC (kU c)] [aB (ya c)]:=by
 refine wpG Tryz.func114 ((A9 ..).mpr ?_);have h1:=UW c.fr;have h2:=UW c.tt;rw[←jv]at h1;rw[←kj]at h2;have h3:=mF hc.2.1.1.tx hc.2.2.1.tx (Qn hc.2.1.2) (Qn hc.2.2.2);rw[X2,X2]at h3;rw[wt];unfold ya;refine brb (fun h=>?_) (fun h=>?_)
 ·rw[h,Bx];exact⟨_,_,_,h1,_,_,_,h2,_,h3,rfl⟩
 ·rw[h];rfl
theorem AH {c:Cu} {p:P5} (hc:Gc c) (hp:Gp p):qc CC 113 [aC (kU c),.ag (kT (xP p) [])] [aB (Qb c (px p))]:=by
 refine wpG Tryz.func113 ((AA ..).mpr ?_);have h1:=UW c.fr;have h2:=UW c.tt;rw[←jv]at h1;rw[←kj]at h2;refine⟨_,_,_,h1,_,vQ hc.2.1 hp,?_⟩;unfold Qb;refine brd (fun h=>?_) (fun h=>?_)
 ·rw[decide_eq_true h,Bx];exact⟨_,_,_,h2,_,vQ hp hc.2.2,rfl⟩
 ·rw[decide_eq_false h];rfl
theorem UZ {c:Cu} {p:P5} (hc:Gc c) (hp:Gp p):qc CC 63 [aC (kU c),aP (kP p)] [.c (dI (xG c p).1),aI (if(xG c p).2=true then 0 else 1)]:=by
 refine wpG Tryz.func63 ((D0 ..).mpr ?_);refine⟨_,_,_,UW p,_,AH hc hp,?_⟩;cases hb:Qb c (px p)with
 |false=>rw[XJ (by rw[hb];simp)];exact brb (fun _=>rfl) (fun h=>by cases h)
 |true=>
  have hin:=OD (p:=p) hb;have h2:(xG c p).2=true:=congrArg Prod.snd hin;rw[h2,if_pos rfl];refine brb (fun h=>by cases h) (fun _=>?_);unfold xG;rw[if_neg (by rw[hb];simp)];refine⟨_,XK hc,?_⟩;have h1:=Ds c.fr;have h2:=Ds c.tt;rw[←jv]at h1;rw[←kj]at h2;refine zH (fun h=>?_) (fun h=>?_)
  ·rw[if_pos h];refine⟨_,_,_,Ds p,_,_,_,h2,_,OF hp hc.2.2,?_⟩;refine brd (fun h3=>?_) (fun h3=>?_)
   ·rw[if_pos (show 0<sg (py p-py c.tt)from h3)]
   ·rw[if_neg (show ¬0<sg (py p-py c.tt)from h3)];refine⟨_,_,_,Ds p,_,_,_,h1,_,OF hp hc.2.1,?_⟩;refine brd (fun h4=>?_) (fun h4=>?_)
    ·rw[if_pos h4]
    ·rw[if_neg h4]
  ·rw[if_neg (by rw[h];simp),wt];cases ha:c.arc with
   |false=>
    refine brb (fun _=>?_) (fun h=>by cases h);obtain⟨arc,ln,ci,cw,fr,tt,jk⟩:=c;subst ha;have hl:HL ln:=by rcases hc.1.2 with h|h;cases h.1;exact h.2.1
    refine⟨_,AF hl hp.1 hp.2,_,wb _,?_⟩;rw[jm (Bw _) (KB _),if_pos rfl]
   |true=>
    refine brb (fun h=>by cases h) (fun _=>?_);obtain⟨arc,ln,ci,cw,fr,tt,jk⟩:=c;subst ha;have hC:HC ci:=by rcases hc.1.2 with h|h;exact h.2.1;cases h.1
    have h5:=Rw hp.1.ty (X1 hp.2) (hC.2.1.mono (by omega));rw[KC]at h5;refine⟨_,_,_,Ds p,_,h5,?_⟩;have hw2:Hx .i64 (0- -sg (civ ci p))=sg (civ ci p):=by have:=Bw (civ ci p);rw[zr];omega
    rw[if_neg (by simp)];cases cw with
    |true=>
     refine brb (fun _=>?_) (fun h=>by cases h);rw[if_pos rfl];refine brd (fun h3=>?_) (fun h3=>?_)
     ·rw[if_pos h3]
     ·rw[if_neg h3];refine brb (fun _=>⟨_,VQ hC hp.1 hp.2,?_⟩) (fun h=>by cases h);rw[hw2]
    |false=>
     refine brb (fun h=>by cases h) (fun _=>brb (fun h=>by cases h) (fun _=>?_));rw[if_neg (by simp)];refine brd (fun h3=>?_) (fun h3=>?_)
     ·rw[if_pos (show 0<sg (py p-ofR ci.y)from h3)]
     ·rw[if_neg (show ¬0<sg (py p-ofR ci.y)from h3)];exact⟨_,VQ hC hp.1 hp.2,rfl⟩
def AI (p:P5) (c:Cu):Prop:=ya c=true∨0<sg (px c.fr-px p)∨0≤sg (px p-px c.tt)
theorem ee (p:P5) (n:Int) (c:Cu):(open Classical in jl p n c=if AI p c then n else if 0<(xG c p).1 then-n else n):=by
 unfold jl AI;congr
theorem AJ {c:Cu} {p:P5} (hc:Gc c) (hp:Gp p):∃n b,qc CC 64 [aC (kU c),.ag (kT (xP p) []),aP (kP p)] [aI n,aB b]∧((b=true∧0<n)↔(¬AI p c∧0<(xG c p).1)):=by
 have h1:=UW c.fr;have h2:=UW c.tt;rw[←jv]at h1;rw[←kj]at h2;unfold AI;by_cases k1:ya c=true
 ·refine⟨0,false,?_,by simp[k1]⟩;refine wpG Tryz.func64 ((J0 ..).mpr ?_);exact⟨_,XK hc,zH (fun _=>rfl) (fun h=>by rw[k1]at h;cases h)⟩
 by_cases k2:0≤sg (px p-px c.tt)
 ·refine⟨0,false,?_,by simp[k2]⟩;refine wpG Tryz.func64 ((J0 ..).mpr ?_);exact⟨_,XK hc,zH (fun h=>absurd h k1) (fun _=>⟨_,_,_,h2,_,vQ hp hc.2.2,brd (fun _=>rfl) (fun h=>absurd k2 h)⟩)⟩
 by_cases k3:sg (px p-px c.fr)<0
 ·have a3:0<sg (px c.fr-px p):=by rw[Zx];omega
  refine⟨0,false,?_,by simp[a3]⟩;refine wpG Tryz.func64 ((J0 ..).mpr ?_);exact⟨_,XK hc,zH (fun h=>absurd h k1) (fun _=>⟨_,_,_,h2,_,vQ hp hc.2.2,brd (fun h=>absurd h k2) (fun _=>⟨_,_,_,h1,_,vQ hp hc.2.1,brd (fun _=>rfl) (fun h=>absurd k3 h)⟩)⟩)⟩
 ·have a3:¬0<sg (px c.fr-px p):=by rw[Zx];omega
  have hin:Qb c (px p)=true:=kZ.2 ⟨fun l=>k3 (yA.2 l),fun l=>k2 (Int.le_of_lt (QE.2 l))⟩;have ha:=UZ hc hp;rw[OD hin,if_pos rfl]at ha;refine⟨(xG c p).1,true,?_,by simp[k1,k2,a3]⟩;refine wpG Tryz.func64 ((J0 ..).mpr ?_);exact⟨_,XK hc,zH (fun h=>absurd h k1) (fun _=>⟨_,_,_,h2,_,vQ hp hc.2.2,brd (fun h=>absurd h k2) (fun _=>⟨_,_,_,h1,_,vQ hp hc.2.1,brd (fun h=>absurd h k3) (fun _=>⟨_,_,ha,rfl⟩)⟩)⟩)⟩
end Eng
end
section
namespace Eng
open Go Go.Proofs Rl
set_option maxRecDepth 100000
theorem Ta {l:List Cu} {k:Nat} (h:k<l.length) (p:P5) (n:Int):(l.take (k+1)).foldl (jl p) n=jl p ((l.take k).foldl (jl p) n) l[k]:=by
 rw[J3 h,List.foldl_append];rfl
def ctI (l:List Cu) (p:P5) (_ ds:List D):Prop:=∃k m:Nat,k≤l.length∧m≤k∧ds=[dI (k:Int),dI (m:Int)]∧(∀c∈l.take k,¬xG c p=(0,true))∧(l.take k).foldl (jl p) (-1)=if m%2=1 then 1 else-1
theorem OG {l:List Cu} {p:P5} (hl:∀c∈l,Mo c) (hp:Gp p) (hn:l.length≤6000000):qc CC 37 [.ag [.sl (kUs l)],aP (kP p)] [aI (xh l p)]:=by
 have hv:=AB (qc CC) (ctI l p) (zo 10000000) (kUs l) (kP p) (· =[aI (xh l p)]);refine gOk Tryz.func37 hv ?_;clear hv;rw[qt];refine⟨_,_,_,UW p,⟨0,0,ba _,bd _,rfl,by simp,rfl⟩,?_⟩;rintro _ _ ⟨k,m,hk,hm,he,a6,hf⟩;simp only[W1,F0,and_true,true_and]at he;obtain⟨rfl,rfl⟩:=he;refine brd (fun h3=>?_) (fun h3=>?_)
 ·have a3:k<l.length:=by simp only[I0]at h3;omega
  have ok1:=xf a3;have a7:=hl _ (I2 a3);have hg:=a7.1.1;refine⟨ok1,_,xa a3,_,_,UZ hg hp,?_⟩;obtain⟨n,b,ho,hb⟩:=AJ hg hp;have w1:Hx .i64 ((k:Int)+1)=((k+1:Nat):Int):=by rw[wI];rfl
  have w2:Hx .i64 ((m:Int)+1)=((m+1:Nat):Int):=by rw[wI];rfl
  have fl:=ee p ((l.take k).foldl (jl p) (-1)) l[k];rw[←Ta a3]at fl;have a8:¬xG l[k] p=(0,true)→∃n b,qc CC 64 [aC (kU l[k]),.ag (kT (xP p) []),aP (kP p)] [aI n,aB b]∧br b
   (br (toB (D.bool (decide (n>0))))
    (ctI l p [] [dI (Hx .i64 ((k:Int)+1)),dI (Hx .i64 ((m:Int)+1))]∧zo 10000000 [dI (Hx .i64 ((k:Int)+1)),dI (Hx .i64 ((m:Int)+1))]<zo 10000000 [dI (k:Int),dI (m:Int)])
    (ctI l p [] [dI (Hx .i64 ((k:Int)+1)),dI (m:Int)]∧zo 10000000 [dI (Hx .i64 ((k:Int)+1)),dI (m:Int)]<zo 10000000 [dI (k:Int),dI (m:Int)]))
   (ctI l p [] [dI (Hx .i64 ((k:Int)+1)),dI (m:Int)]∧zo 10000000 [dI (Hx .i64 ((k:Int)+1)),dI (m:Int)]<zo 10000000 [dI (k:Int),dI (m:Int)]):=by
   intro hne;have a4:∀c∈l.take (k+1),¬xG c p=(0,true):=fun c hc=>by
    rw[J3 a3]at hc;rcases J4.1 hc with hc|hc
    ·exact a6 c hc
    ·rw[M0.1 hc];exact hne
   have a5:¬(b=true∧0<n)→ctI l p [] [dI (Hx .i64 ((k:Int)+1)),dI (m:Int)]∧zo 10000000 [dI (Hx .i64 ((k:Int)+1)),dI (m:Int)]<zo 10000000 [dI (k:Int),dI (m:Int)]:=fun hh=>by
    refine⟨⟨k+1,m,a3,by omega,by rw[w1],a4,?_⟩,qy⟩;rw[fl,←hf];split
    ·rfl
    ·rename_i h1;rw[if_neg (fun h2=>hh (hb.2 ⟨h1,h2⟩))]
   refine⟨n,b,ho,zH (fun e1=>brd (fun e2=>?_) (fun e2=>a5 (fun h=>e2 h.2))) (fun e1=>a5 (fun h=>by rw[e1]at h;cases h.1))⟩;obtain⟨h1,h2⟩:=hb.1 ⟨e1,e2⟩;refine⟨⟨k+1,m+1,a3,by omega,by rw[w1,w2],a4,?_⟩,qy⟩;rw[fl,if_neg h1,if_pos h2,hf];rcases Nat.mod_two_eq_zero_or_one m with e|e
   ·rw[if_neg (by omega),if_pos (by omega)];rfl
   ·rw[if_pos e,if_neg (by omega)]
  refine brb (fun h4=>brb (fun h5=>?_) (fun h5=>a8 ?_)) (fun h4=>a8 ?_)
  ·have e1:(xG l[k] p).1=0:=by simpa using h5
   have e2:(xG l[k] p).2=true:=by
    cases hh:(xG l[k] p).2 with
    |true=>rfl
    |false=>rw[hh]at h4;simp at h4
   have on:onL l p=true:=by unfold onL;exact Lm.2 ⟨_,I2 a3,(OE a7 p).2 (Prod.ext e1 e2)⟩
   unfold xh;rw[if_pos on]
  ·intro e;rw[e]at h5;simp at h5
  ·intro e;rw[e]at h4;simp at h4
 ·have a3:k=l.length:=by simp only[I0]at h3;omega
  subst a3;rw[J9]at a6 hf;have on:¬onL l p=true:=fun h=>by unfold onL at h;obtain⟨c,hc,h⟩:=Lm.1 h;exact a6 c hc ((OE (hl c hc) p).1 h)
  unfold xh;rw[if_neg on,hf];have t:Int.tmod (m:Int) 2=((m%2:Nat):Int):=by rw[show(2:Int)=((2:Nat):Int)from rfl,←Int.ofNat_tmod]
  rw[t];refine⟨by omega,brb (fun h=>?_) (fun h=>?_)⟩
  ·have h:m%2=1:=by have:=I1 h;omega
   rw[if_pos h]
  ·have h:¬m%2=1:=fun e=>by rw[e]at h;simp at h
   rw[if_neg h]
theorem AK {l:List Cu} {p:P5} (hl:∀c∈l,Gc c) (hp:Gp p) (hn:l.length≤6000000):qc CC 65 [aL (kUs l),aP (kP p)] [aB (onL l p)]:=by
 have hv:=AC (qc CC) (fun _ ds=>∃k:Nat,k≤l.length∧ds=[dI (k:Int)]∧∀c∈l.take k,¬yU c p=true) (zo 10000000) (kUs l) (kP p) (· =[aB (onL l p)]);refine gOk Tryz.func65 hv ?_;clear hv;rw[qt];refine⟨⟨0,ba _,rfl,by simp⟩,?_⟩;rintro _ ⟨k,hk,he,a4⟩;simp only[W1,F0,and_true,true_and]at he;subst he;refine brd (fun h3=>?_) (fun h3=>?_)
 ·have a3:k<l.length:=by simp only[I0]at h3;omega
  have ok1:=xf a3;refine⟨ok1,_,xa a3,_,vJ (hl _ (I2 a3)) hp,zH (fun h=>?_) (fun h=>?_)⟩
  ·have:onL l p=true:=Lm.2 ⟨_,I2 a3,h⟩;rw[this]
  ·refine⟨⟨k+1,a3,by rw[wI];rfl,fun c hc=>?_⟩,qy⟩;rw[J3 a3]at hc;rcases J4.1 hc with hc|hc
   ·exact a4 c hc
   ·rw[M0.1 hc,h];simp
 ·have a3:k=l.length:=by simp only[I0]at h3;omega
  subst a3;rw[J9]at a4;have:onL l p=false:=by
   cases h:onL l p with
   |false=>rfl
   |true=>obtain⟨c,hc,h⟩:=Lm.1 h;exact absurd h (a4 c hc)
  rw[this]
theorem D4 (p:P5):∀(l:List Cu) (n:Int),n=1∨n= -1→l.foldl (jl p) n=1∨l.foldl (jl p) n= -1
 |[],_,h=>h
 |c::r,n,h=>D4 p r _ (by unfold jl;split;exact h;split;(rcases h with rfl|rfl;exact .inr rfl;exact .inl rfl);exact h)
def cdI (l:List Cu) (p:P5) (_ ds:List D):Prop:=∃k:Nat,k≤l.length∧ds=[dI (k:Int),dI ((l.take k).foldl (jl p) (-1))]
theorem Rx {l:List Cu} {p:P5} (hl:∀c∈l,Gc c) (hp:Gp p) (hn:l.length≤6000000):qc CC 38 [.ag [.sl (kUs l)],aP (kP p)] [aI (xh l p)]:=by
 have hv:=Rv (qc CC) (cdI l p) (zo 10000000) (kUs l) (kP p) (· =[aI (xh l p)]);refine gOk Tryz.func38 hv ?_;clear hv;rw[qt];unfold xh;refine⟨_,AK hl hp hn,zH (fun h=>by rw[if_pos h]) (fun h=>?_)⟩;rw[if_neg (by rw[h];simp)];refine⟨_,_,_,kM p,⟨0,ba _,rfl⟩,?_⟩;rintro _ _ ⟨k,hk,he⟩;simp only[W1,F0,and_true,true_and]at he;obtain⟨rfl,rfl⟩:=he;refine brd (fun h3=>?_) (fun h3=>?_)
 ·have a3:k<l.length:=by simp only[I0]at h3;omega
  have ok1:=xf a3;have hg:=hl _ (I2 a3);have hf:=Ta a3 p (-1);have fw:=D4 p (l.take k) (-1) (.inr rfl);generalize (l.take k).foldl (jl p) (-1)=n at hf fw ⊢;have go:∀v,v=jl p n l[k]→cdI l p [] [dI (Hx .i64 ((k:Int)+1)),dI v]∧zo 10000000 [dI (Hx .i64 ((k:Int)+1)),dI v]<zo 10000000 [dI (k:Int),dI n]:=fun v e=>
   ⟨⟨k+1,a3,by rw[wI,hf,e];rfl⟩,qy⟩
  have h1:=kM l[k].fr;have h2:=kM l[k].tt;rw[←jv]at h1;rw[←kj]at h2;refine⟨ok1,_,xa a3,_,Zp hg,zH (fun e=>go _ ?_) (fun e=>⟨_,_,_,h1,_,LH hg.2.1 hp,brd (fun e2=>go _ ?_) (fun e2=>⟨_,_,_,h2,_,LH hp hg.2.2,brd (fun e3=>go _ ?_) (fun e3=>?_)⟩)⟩)⟩
  ·unfold jl;rw[if_pos (.inl e)]
  ·unfold jl;rw[if_pos (.inr (.inl e2))]
  ·unfold jl;rw[if_pos (.inr (.inr e3))]
  ·obtain⟨er,ha⟩:=LI hg hp;have fl:jl p n l[k]=if 0<(xG l[k] p).1 then-n else n:=by
    unfold jl;rw[if_neg];rintro(h|h|h)
    ·rw[e]at h;cases h
    ·exact e2 h
    ·exact e3 h
   refine⟨_,_,ha,brd (fun e4=>go _ ?_) (fun e4=>go _ ?_)⟩
   ·rw[fl,if_pos e4];rcases fw with rfl|rfl<;>rfl
   ·rw[fl,if_neg e4]
 ·have a3:k=l.length:=by simp only[I0]at h3;omega
  subst a3;rw[J9]
end Eng
end
section
namespace Eng
open Go Go.Proofs Rl
set_option maxRecDepth 100000
theorem ef (l:List Cu) (p:P5): -1≤xh l p∧xh l p≤1:=by
 unfold xh;split
 ·omega
 ·rcases D4 p l (-1) (.inr rfl)with h|h<;>omega
noncomputable def dpF (p:P5) (o:Int) (f:Ft):Int:=if f.kd=4 then o else if 0≤xh f.sh p then max o f.dp else o
noncomputable def M8 (t:Int) (p:P5) (o:Int):List Ft→Int
 |[]=>o
 |f::r=>if f.kd=4∧xh f.sh p<1 then t else M8 t p (dpF p o f) r
def dpI (t:Int) (p:P5) (fs:List Ft) (_ ds:List D):Prop:=∃(k:Nat) (o:Int),k≤fs.length∧ds=[dI (k:Int),dI o]∧M8 t p o (fs.drop k)=M8 t p 0 fs
theorem Wt {t:Int} {fs:List Ft} {v:Vc} (hf:∀f∈fs,f.ok) (hv:HV v) (hn:fs.length≤1000000):qc CC 17 [ftA t fs,.ag (kV v)] [aI (M8 t (atV v) 0 fs)]:=by
 have hc:=Mz (qc CC) (dpI t (atV v) fs) (zo 10000000) t (fs.map kFt) (q4 v.x) (q4 v.y) (· =[aI (M8 t (atV v) 0 fs)]);refine gOk Tryz.func17 hc ?_;clear hc;rw[jZ];refine⟨⟨0,0,ba _,rfl,rfl⟩,?_⟩;rintro _ o ⟨k,o',hk,he,hd⟩;simp only[W1,F0,and_true,true_and]at he;obtain⟨rfl,rfl⟩:=he;refine brd (fun h3=>?_) (fun h3=>?_)
 ·have a3:k<fs.length:=by simp only[I0]at h3;omega
  have ok:=Z5 kX a3;have a4:=hf _ (I2 a3);refine⟨ok,_,_,_,_,ZW kX a3,_,Zn v,_,Rx a4.gc (C6 hv) (by have:=a4.2.2;omega),?_⟩;rw[J7 a3]at hd;have nx:∀o',¬(fs[k].kd=4∧xh fs[k].sh (atV v)<1)→o'=dpF (atV v) o fs[k]→dpI t (atV v) fs [] [dI (Hx .i64 ((k:Int)+1)),dI o']∧zo 10000000 [dI (Hx .i64 ((k:Int)+1)),dI o']<zo 10000000 [dI (k:Int),dI o]:=fun o' h1 h2=>by refine⟨⟨k+1,o',a3,by rw[wI];rfl,?_⟩,qy⟩;rw[←hd,h2];simp only[M8];rw[if_neg h1]
  refine brb (fun h4=>?_) (fun h4=>?_)
  ·have h4:fs[k].kd=4:=I1 h4;refine brd (fun h5=>?_) (fun h5=>?_)
   ·rw[←hd];simp only[M8];rw[if_pos ⟨h4,h5⟩]
   ·refine brb (fun h6=>by rw[h4]at h6;simp at h6) (fun _=>nx _ (fun h=>h5 h.2) ?_);unfold dpF;rw[if_pos h4]
  ·have h4:¬fs[k].kd=4:=fun e=>by rw[e]at h4;simp at h4
   refine brb (fun _=>brd (fun h6=>nx _ (fun h=>h4 h.1) ?_) (fun h6=>nx _ (fun h=>h4 h.1) ?_)) (fun h6=>absurd (by simpa using h6) h4)
   ·unfold dpF;rw[if_neg h4,if_pos h6];cases hh:decide (o<fs[k].dp)with
    |true=>have:=of_decide_eq_true hh;show fs[k].dp=max o fs[k].dp;omega
    |false=>have:=of_decide_eq_false hh;show o=max o fs[k].dp;omega
   ·unfold dpF;rw[if_neg h4,if_neg h6]
 ·have a3:k=fs.length:=by simp only[I0]at h3;omega
  rw[a3,M3 (bd _)]at hd;rw[←hd];rfl
noncomputable def D5:List Ft→Int
 |[]=> -1
 |f::r=>if f.kd=4 then 0 else if D5 r<0 then-1 else D5 r+1
theorem Wu:∀{fs:List Ft} {k:Nat} (h:k<fs.length),(∀f∈fs.take k,¬f.kd=4)→fs[k].kd=4→D5 fs=k
 |f::r,0,_,_,h=>by simp only[D5];rw[if_pos (show f.kd=4 from h)];rfl
 |f::r,k+1,h,hn,h4=>by have ih:=Wu (fs:=r) (k:=k) (by simpa using h) (fun g hg=>hn g (Ls _ hg)) h4;simp only[D5];rw[if_neg (hn f (M1 ..)),ih,if_neg (by omega)];rfl
theorem Wv:∀{fs:List Ft},(∀f∈fs,¬f.kd=4)→D5 fs= -1
 |[],_=>rfl
 |f::r,h=>by simp only[D5];rw[if_neg (h f (M1 ..)),Wv fun g hg=>h g (Ls _ hg)];rfl
theorem OH:∀fs:List Ft,(∀f∈fs,¬f.kd=4)∨∃k,∃h:k<fs.length,fs[k].kd=4∧∀f∈fs.take k,¬f.kd=4
 |[]=> .inl (by simp)
 |f::r=>by
  by_cases h:f.kd=4
  ·exact .inr ⟨0,by simp,h,by simp⟩
  rcases OH r with k|⟨k,hk,h4,hn⟩
  ·refine .inl fun g hg=>?_
   rcases Lv.1 hg with rfl|hg
   ·exact h
   ·exact k g hg
  ·refine .inr ⟨k+1,by simpa using hk,h4,fun g hg=>?_⟩;rcases Lv.1 hg with rfl|hg
   ·exact h
   ·exact hn g hg
theorem D6 (f:Ft):qc CC 61 [.ag (kFt f)] [aB (f.kd==4)]:=by
 have hv:=Dt (qc CC) f.nm f.kd f.dp (kUs f.sh) (· =[aB (f.kd==4)]);exact gOk Tryz.func61 hv rfl
theorem AL {fs:List Ft} (hn:fs.length≤1000000):qc CC 54 [aL (fs.map kFt),.c (.fn 61)] [aI (D5 fs)]:=by
 have hv:=A5 (qc CC) (fun _ ds=>∃k:Nat,k≤fs.length∧ds=[dI (k:Int)]∧∀f∈fs.take k,¬f.kd=4) (zo 10000000) (fs.map kFt) (· =[aI (D5 fs)]);refine gOk Tryz.func54 hv ?_;clear hv;rw[jZ];refine⟨⟨0,ba _,rfl,by simp⟩,?_⟩;rintro _ ⟨k,hk,he,a4⟩;simp only[W1,F0,and_true,true_and]at he;subst he;refine brd (fun h4=>?_) (fun h4=>?_)
 ·have a3:k<fs.length:=by simp only[I0]at h4;omega
  have ok:=Z5 kX a3;refine⟨ok,_,_,_,_,ZW kX a3,_,D6 fs[k],zH (fun h8=>?_) (fun h8=>?_)⟩
  ·rw[Wu a3 a4 (I1 h8)]
  ·refine⟨⟨k+1,a3,by rw[wI];rfl,fun f hf=>?_⟩,qy⟩;rw[J3 a3]at hf;rcases J4.1 hf with hf|hf
   ·exact a4 f hf
   ·rw[M0.1 hf];simpa using h8
 ·have a3:k=fs.length:=by simp only[I0]at h4;omega
  rw[a3,J9]at a4;rw[Wv a4]
theorem M9 {t:Int} {fs:List Ft} (hn:fs.length≤1000000):qc CC 36 [ftA t fs] [aI (D5 fs)]:=by
 have hv:=M5 (qc CC) t (fs.map kFt) (· =[aI (D5 fs)]);exact gOk Tryz.func36 hv ⟨_,AL hn,rfl⟩
def dqI (p:P5) (fs:List Ft) (_ ds:List D):Prop:=∃(k:Nat) (o:Int),k≤fs.length∧ds=[dI (k:Int),dI o]∧(fs.drop k).foldl (dpF p) o=fs.foldl (dpF p) 0
theorem D7 (t:Int) (p:P5):∀(fs:List Ft) (o:Int),(∀f∈fs,f.kd=4→¬xh f.sh p<1)→M8 t p o fs=fs.foldl (dpF p) o
 |[],_,_=>rfl
 |f::r,o,h=>by simp only[M8,W0];rw[if_neg (fun k=>h f (M1 ..) k.1 k.2)];exact D7 t p r _ fun g hg=>h g (Ls _ hg)
theorem OI (t:Int) (p:P5):∀(fs:List Ft) (o:Int) (f:Ft),f∈fs→f.kd=4→xh f.sh p<1→M8 t p o fs=t
 |g::r,o,f,hf,h4,h1=>by
  simp only[M8];split
  ·rfl
  ·rename_i hg;rcases Lv.1 hf with rfl|hf
   ·exact absurd ⟨h4,h1⟩ hg
   ·exact OI t p r _ f hf h4 h1
theorem Tb {t:Int} {fs:List Ft} {v:Vc} (hf:∀f∈fs,f.ok) (hv:HV v) (hn:fs.length≤1000000) (h1:QG fs≤1):qc CC 16 [ftA t fs,.ag (kV v)] [aI (M8 t (atV v) 0 fs)]:=by
 have hc:=Dv (qc CC) (dqI (atV v) fs) (zo 10000000) t (fs.map kFt) (q4 v.x) (q4 v.y) (· =[aI (M8 t (atV v) 0 fs)]);refine gOk Tryz.func16 hc ?_;clear hc;rw[jZ];have a7:(∀f∈fs,f.kd=4→¬xh f.sh (atV v)<1)→∀(i i_1:Int),dqI (atV v) fs [] [dI i,dI i_1]→
  br (toB (D.bool (decide (i<Int.ofNat fs.length))))
   (rO (fs.map kFt) i 4∧∃s i_2 i_3 es,cU (fs.map kFt) i 0 4 [.str s,dI i_2,dI i_3,.sl es]∧
    br (toB (D.bool (i_2 !=4)))
     (br (toB (D.bool (decide (i_3>i_1))))
      (∃i_4,qc CC 37 [.ag [.sl es],aP (kP (atV v))] [aI i_4]∧br (toB (D.bool (decide (i_4≥0))))
       (dqI (atV v) fs [] [dI (Hx .i64 (i+1)),dI i_3]∧zo 10000000 [dI (Hx .i64 (i+1)),dI i_3]<zo 10000000 [dI i,dI i_1])
       (dqI (atV v) fs [] [dI (Hx .i64 (i+1)),dI i_1]∧zo 10000000 [dI (Hx .i64 (i+1)),dI i_1]<zo 10000000 [dI i,dI i_1]))
      (dqI (atV v) fs [] [dI (Hx .i64 (i+1)),dI i_1]∧zo 10000000 [dI (Hx .i64 (i+1)),dI i_1]<zo 10000000 [dI i,dI i_1]))
     (dqI (atV v) fs [] [dI (Hx .i64 (i+1)),dI i_1]∧zo 10000000 [dI (Hx .i64 (i+1)),dI i_1]<zo 10000000 [dI i,dI i_1]))
   ([aI i_1]=[aI (M8 t (atV v) 0 fs)]):=by
  intro hp;rw[D7 t (atV v) fs 0 hp];rintro _ o ⟨k,o',hk,he,hd⟩;simp only[W1,F0,and_true,true_and]at he;obtain⟨rfl,rfl⟩:=he;refine brd (fun h3=>?_) (fun h3=>?_)
  ·have a3:k<fs.length:=by simp only[I0]at h3;omega
   have ok:=Z5 kX a3;have a5:=hf _ (I2 a3);rw[J7 a3]at hd;simp only[W0]at hd;have nx:∀o',o'=dpF (atV v) o fs[k]→dqI (atV v) fs [] [dI (Hx .i64 ((k:Int)+1)),dI o']∧zo 10000000 [dI (Hx .i64 ((k:Int)+1)),dI o']<zo 10000000 [dI (k:Int),dI o]:=fun o' h2=>
    ⟨⟨k+1,o',a3,by rw[wI];rfl,by rw[←hd,h2]⟩,qy⟩
   refine⟨ok,_,_,_,_,ZW kX a3,brb (fun h4=>?_) (fun h4=>nx _ ?_)⟩
   ·have h4:¬fs[k].kd=4:=fun e=>by rw[e]at h4;simp at h4
    refine brd (fun h5=>⟨_,OG a5.2.1 (C6 hv) (by have:=a5.2.2;omega),brd (fun h6=>nx _ ?_) (fun h6=>nx _ ?_)⟩) (fun h5=>nx _ ?_)
    ·unfold dpF;rw[if_neg h4,if_pos h6];omega
    ·unfold dpF;rw[if_neg h4,if_neg h6]
    ·unfold dpF;rw[if_neg h4];split
     ·omega
     ·rfl
   ·have h4:fs[k].kd=4:=by simpa using h4
    unfold dpF;rw[if_pos h4]
  ·have a3:k=fs.length:=by simp only[I0]at h3;omega
   rw[a3,M3 (bd _)]at hd;rw[←hd];rfl
 refine⟨_,mH v,_,M9 hn,?_⟩;have a4:dqI (atV v) fs [] [dI 0,dI 0]:=⟨0,0,ba _,rfl,rfl⟩;rcases OH fs with a6|⟨k,a3,h4,a6⟩
 rotate_left
 ·rw[Wu a3 a6 h4];have ok:=Z5 kX a3;have a5:=hf _ (I2 a3);refine brd (fun _=>⟨ok,_,mc a3,_,OG a5.2.1 (C6 hv) (by have:=a5.2.2;omega),?_⟩) (fun h=>by omega);have hw:=ef fs[k].sh (atV v);refine brb (fun h5=>?_) (fun h5=>⟨a4,a7 fun f hfm hf4=>?_⟩)
  ·have h5:¬xh fs[k].sh (atV v)=1:=fun e=>by rw[e]at h5;simp at h5
   rw[OI t (atV v) fs 0 _ (I2 a3) h4 (by omega)]
  ·have h5:xh fs[k].sh (atV v)=1:=by simpa using h5
   have only:f=fs[k]:=by
    have e:fs=fs.take k++fs[k]::fs.drop (k+1):=by rw[←J7 a3,List.take_append_drop]
    have hc:QG fs=QG (fs.take k)+(1+QG (fs.drop (k+1))):=by
     conv=>lhs;rw[e]
     unfold QG;rw[List.countP_append,List.countP_cons,if_pos (by simpa using h4)];omega
    rw[e]at hfm;rcases J4.1 hfm with h|h
    ·exact absurd hf4 (a6 f h)
    ·rcases Lv.1 h with h|h
     ·exact h
     ·have:0<QG (fs.drop (k+1)):=List.countP_pos_iff.2 ⟨f,h,by simpa using hf4⟩;omega
   rw[only,h5];omega
 ·rw[Wv a6];exact brd (fun h=>by omega) (fun _=>⟨a4,a7 fun f hfm h4=>absurd h4 (a6 f hfm)⟩)
noncomputable def fi (t:Int) (p:P5) (z:Int) (fs:List Ft):Bool:=decide (z≥Hx .i64 (0-t))&&decide (z<Hx .i64 (0-M8 t p 0 fs))
theorem MA {t z:Int} {fs:List Ft} {v:Vc} (hf:∀f∈fs,f.ok) (hv:HV v) (hn:fs.length≤1000000):qc CC 19 [ftA t fs,.ag (kV v),aI z] [aB (fi t (atV v) z fs)]:=by
 have hc:=M4 (qc CC) t (fs.map kFt) (q4 v.x) (q4 v.y) z (· =[aB (fi t (atV v) z fs)]);refine gOk Tryz.func19 hc ?_;clear hc;unfold fi;refine brd (fun h=>?_) (fun h=>?_)
 ·rw[decide_eq_true h,Bx];exact⟨_,Wt hf hv hn,rfl⟩
 ·rw[decide_eq_false h];rfl
theorem D8 {t z:Int} {fs:List Ft} {v:Vc} (hf:∀f∈fs,f.ok) (hv:HV v) (hn:fs.length≤1000000) (h1:QG fs≤1):qc CC 18 [ftA t fs,.ag (kV v),aI z] [aB (fi t (atV v) z fs)]:=by
 have hc:=Dw (qc CC) t (fs.map kFt) (q4 v.x) (q4 v.y) z (· =[aB (fi t (atV v) z fs)]);refine gOk Tryz.func18 hc ?_;clear hc;unfold fi;refine brd (fun h=>?_) (fun h=>?_)
 ·rw[decide_eq_true h,Bx];exact⟨_,Tb hf hv hn h1,rfl⟩
 ·rw[decide_eq_false h];rfl
def D9 (z:Int):Prop:= -32768≤z∧z<32768
def spV (x y:Int) (u:Nat):Vc:=⟨Rat.divInt x ((u:Int)+1),Rat.divInt y ((u:Int)+1)⟩
theorem mI {x y:Int} {u:Nat} (hx:D9 x) (hy:D9 y) (hu:u<256):HV (spV x y u):=by
 unfold D9 at hx hy;have e:(10:Nat)^20=100000000000000000000:=by decide
 exact⟨Hz.divInt (by omega) (by rw[e];omega) (by rw[e];omega),Hz.divInt (by omega) (by rw[e];omega) (by rw[e];omega)⟩
theorem AM {x y:Int} {u:Nat} (hx:D9 x) (hy:D9 y) (hu:u<256):qc CC 15 [.ag [.int .i16 x,.int .i16 y,.int .u8 (u:Int)]] [.ag (kV (spV x y u))]:=by
 have hc:=AD (qc CC) x y (u:Int) (· =[.ag (kV (spV x y u))]);refine gOk Tryz.func15 hc ?_;clear hc;unfold D9 at hx hy;rw[zr (n:=x),zr (n:=y),zr (n:=(u:Int)),zr (n:=(u:Int)+1)];exact⟨_,Jw (by omega) (by omega) (by omega),_,Jw (by omega) (by omega) (by omega),rfl⟩
theorem AN {t:Int} {fs:List Ft} (h:DN t fs=0):QG fs≤1:=by
 unfold DN at h;split at h
 ·omega
 split at h
 ·omega
 split at h
 ·omega
 split at h
 ·omega
 ·omega
theorem DA (hA:qc CC 7 [] [aB true]) {l:List It} (h:∀i∈l,i.ok) (hn:l.length≤3999999999999) {x y z:Int} {u:Nat} (hx:D9 x) (hy:D9 y) (hu:u<256):qc CC 5 [aL (l.map kIt),.ag [.int .i16 x,.int .i16 y,.int .u8 (u:Int)],aI z] [aB true]:=by
 obtain⟨t,fs,b,hb,hok⟩:=Dx h hn;have hv:=Du (qc CC) (l.map kIt) x y (u:Int) z (· =[aB true]);refine gOk Tryz.func5 hv ?_;clear hv;refine⟨_,_,_,hb,true,hA,brb (fun h=>by cases h) fun _=>brb (fun _=>⟨true,hA,rfl⟩) fun h1=>?_⟩;have h1:b=true:=by simpa using h1
 obtain⟨-,hl,hf⟩:=hok h1;refine⟨_,Mr hf,brb (fun _=>⟨true,hA,rfl⟩) fun h2=>?_⟩;have h2:DN t fs=0:=by simpa using h2
 have hp:=AN h2;have hz:=mI hx hy hu;refine⟨_,_,AM hx hy hu,_,Tb hf hz (by omega) hp,_,Wt hf hz (by omega),brb (fun _=>?_) (fun h=>by simp at h)⟩;refine⟨_,D8 hf hz (by omega) hp,_,MA hf hz (by omega),?_⟩;rw[beq_self_eq_true]
end Eng
end
section
namespace Eng
open Go Go.RowKit Go.ChangeShapes Go.WideShapes Go.Deep
inductive CT where
 |int (k:IntKind)
 |bool
 |str
 |sl (es:List CT)
def XL (f:TypeId→Option (List CT)) (P:Program):List Field→Nat→Option (List CT)
 |[],_=>some []
 |x::r,off=>match f x.type with
  |some T=>match bb x.offset off&&bb (P.cellsOf x.type) T.length with
   |true=>match XL f P r (off+T.length)with
    |some R=>some (T++R)
    |none=>none
   |false=>none
  |none=>none
def oC:Nat→List CT→List CT
 |0,_=>[]
 |n+1,T=>T++oC n T
def zD (P:Program):Nat→TypeId→Option (List CT)
 |0,_=>none
 |m+1,t=>match P.underlying t with
  |some (.int k)=>some [.int k]
  |some .bool=>some [.bool]
  |some .string=>some [.str]
  |some (.struct fs)=>match XL (zD P m) P fs.toList 0 with
   |some T=>match bb (P.cellsOf t) T.length with
    |true=>some T
    |false=>none
   |none=>none
  |some (.array n e)=>match zD P m e with
   |some T=>match bb (P.cellsOf e) T.length&&bb (P.cellsOf t) (n*T.length)with
    |true=>some (oC n T)
    |false=>none
   |none=>none
  |some (.slice e)=>match zD P m e with
   |some T=>match bb (P.cellsOf e) T.length&&Nat.blt 0 T.length with
    |true=>some [.sl T]
    |false=>none
   |none=>none
  |_=>none
mutual
def GB:CT→D→Prop
 | .int k,d=>∃n,d= .int k n∧(Lit.int k n).wf=true
 | .bool,d=>∃b,d= .bool b
 | .str,d=>∃s,d= .str s∧s.length≤maxLen
 | .sl T,d=>∃es:List (List D),d= .sl es∧es.length≤maxLen∧∀r∈es,vW T r
def vW:List CT→List D→Prop
 |[],ds=>ds=[]
 |T::Ts,ds=>∃d r,ds=d::r∧GB T d∧vW Ts r
end
theorem QI:∀{T:List CT} {ds:List D},vW T ds→ds.length=T.length
 |[],ds,h=>by simp only[vW]at h;rw[h];rfl
 |_::T,ds,h=>by simp only[vW]at h;obtain⟨d,r,rfl,_,h2⟩:=h;simp[QI h2]
theorem QJ:∀{T R:List CT} {ds es:List D},vW T ds→vW R es→vW (T++R) (ds++es)
 |[],R,ds,es,h,h'=>by simp only[vW]at h;rw[h];exact h'
 |_::T,R,ds,es,h,h'=>by simp only[vW]at h;obtain⟨d,r,rfl,h1,h2⟩:=h;show vW (_::(T++R)) (d::(r++es));rw[vW];exact⟨d,r++es,rfl,h1,QJ h2 h'⟩
theorem VR {size:Nat} (hs:0<size):∀{es:List (List D)},(∀r∈es,r.length=size)→∀j,j<es.length*size→nth .undef es.flatten j=nth .undef (nth [] es (j/size)) (j%size)
 |[],_,j,h=>by simp at h
 |r::es,hr,j,h=>by
  have hl:=hr r (by simp);rw[List.flatten_cons];by_cases hj:j<size
  ·rw[Nat.div_eq_of_lt hj,Nat.mod_eq_of_lt hj];rw[qI,qI,List.getElem?_append_left (by omega)];rfl
  ·have h2:=VR hs (es:=es) (fun r hr'=>hr r (by simp[hr'])) (j-size) (by
    rw[List.length_cons,be,bc]at h;omega)
   have e1:j/size=(j-size)/size+1:=by rw[←Nat.div_eq_sub_div hs (by omega)]
   have e2:j%size=(j-size)%size:=Nat.mod_eq_sub_mod (by omega);rw[e1,e2];show _=nth .undef (nth [] es ((j-size)/size)) ((j-size)%size);rw[←h2,qI,qI,List.getElem?_append_right (by omega),hl]
section
variable {H:Type} {enc:TypeId×Value→H} {P:Program} {w:World} {base:Nat} {spare:Nat→Bool} {held:Bool}
theorem Ww {f:TypeId→Option (List CT)} {F:Nat→Prop} {n:Nat} {cs:List Value}
 (hf:∀t T us x,f t=some T→Hu enc P w base spare held n t us=some x→∃ds,All2 (CD w F) ds us∧vW T ds):
 ∀(fs:List Field) (off:Nat) (T:List CT),XL f P fs off=some T→(∀x∈fs,∃y,Hu enc P w base spare held n x.type ((cs.drop x.offset).take (P.cellsOf x.type))=some y)→
  ∃ds,All2 (CD w F) ds ((cs.drop off).take T.length)∧vW T ds
 |[],off,T,h,_=>by simp only[XL,bs]at h;subst h;exact⟨[],by simp[All2],by simp[vW]⟩
 |x::fs,off,T,h,hy=>by
  simp only[XL]at h;split at h
  ·rename_i T1 h1;split at h
   ·rename_i hb;rw[Aw]at hb;have e1:=W2 hb.1;have e2:=W2 hb.2;split at h
    ·rename_i R hR;simp only[bs]at h;subst h;obtain⟨y,hy1⟩:=hy x (by simp);rw[e1,e2]at hy1;obtain⟨ds1,a1,b1⟩:=hf _ _ _ _ h1 hy1;obtain⟨ds2,a2,b2⟩:=Ww hf fs _ R hR (fun x hx=>hy x (by simp[hx]));refine⟨ds1++ds2,?_,QJ b1 b2⟩;rw[List.length_append,U3,U0];exact All2.append a1 a2
    ·simp at h
   ·simp at h
  ·simp at h
theorem Qr {R:D→Value→Prop} {T:List CT} {cs:List Value}:∀(n k:Nat),(∀i,i<n→∃ds,All2 R ds ((cs.drop ((k+i)*T.length)).take T.length)∧vW T ds)→
 ∃ds,All2 R ds ((cs.drop (k*T.length)).take (n*T.length))∧vW (oC n T) ds
 |0,k,_=>⟨[],by simp[All2],by simp[oC,vW]⟩
 |n+1,k,h=>by
  obtain⟨d1,a1,b1⟩:=h 0 (by omega);obtain⟨d2,a2,b2⟩:=Qr n (k+1) (fun i hi=>by
   have:=h (i+1) (by omega);rw[show k+(i+1)=k+1+i by omega]at this;exact this)
  refine⟨d1++d2,?_,QJ b1 b2⟩;rw[show(n+1)*T.length=T.length+n*T.length by rw[be,bc,Nat.add_comm],U3,U0];rw[bm]at a1;rw[be,bc]at a2;exact All2.append a1 a2
theorem XN {F:Nat→Prop} (hF:∀b,b<w.heap.size→F b):∀(m:Nat) (t:TypeId) (T:List CT) (fuel:Nat) (cs:List Value) (x:DataW H×List MemPlace),zD P m t=some T→
 Hu enc P w base spare held fuel t cs=some x→∃ds,All2 (CD w F) ds cs∧vW T ds
 |0,_,_,_,_,_,h,_=>by simp[zD]at h
 |m+1,t,T,fuel,cs,x,h,ht=>by
  simp only[zD]at h;split at h
  ·rename_i k hu;simp only[bs]at h;subst h;obtain⟨n,rfl,_,hw⟩:=DataW.trod_int hu ht;exact⟨[.int k n],⟨.int _ _,trivial⟩,by simp only[vW,GB];exact⟨_,_,rfl,⟨n,rfl,hw⟩,rfl⟩⟩
  ·rename_i hu;simp only[bs]at h;subst h;obtain⟨b,rfl,_⟩:=DataW.trod_bool hu ht;exact⟨[.bool b],⟨.bool _,trivial⟩,by simp only[vW,GB];exact⟨_,_,rfl,⟨b,rfl⟩,rfl⟩⟩
  ·rename_i hu;simp only[bs]at h;subst h;obtain⟨s,rfl,_,hs⟩:=DataW.trod_string hu ht;refine⟨[.str s.data.toList],⟨.str _,trivial⟩,?_⟩;simp only[vW,GB];refine⟨_,_,rfl,⟨_,rfl,?_⟩,rfl⟩;have:s.data.toList.length=s.size:=by simp
   rw[this];exact hs
  ·rename_i fs hu;split at h
   ·rename_i T' hT;split at h
    ·rename_i hc;simp only[bs]at h;subst h;have hc:=W2 hc;obtain⟨xs,n,_,_,al,b2,hf⟩:=DataW.trod_struct hu ht;obtain⟨ds,h1,h2⟩:=Ww (cs:=cs) (n:=n) (F:=F) (fun t T us x h1 h2=>XN hF m t T n us x h1 h2) fs.toList 0 T' hT (fun f hf'=>by
      obtain⟨i,hi,rfl⟩:=List.mem_iff_getElem.1 hf';have:=hf i fs[i] (Array.getElem?_eq_getElem (by simpa using hi));rw[J8 (by rw[b2];simpa using hi)]at this;exact⟨_,this⟩)
     rw[P1,M2 (by omega)]at h1;exact⟨ds,h1,h2⟩
    ·simp at h
   ·simp at h
  ·rename_i k e hu;split at h
   ·rename_i T' hT;split at h
    ·rename_i hc;simp only[bs]at h;subst h;rw[Aw]at hc;have ag:=W2 hc.1;have a6:=W2 hc.2;obtain⟨xs,n,_,_,al,b2,hf⟩:=DataW.trod_array hu ht;obtain⟨ds,h1,h2⟩:=Qr (R:=CD w F) (T:=T') (cs:=cs) k 0 (fun i hi=>by
      have:=hf i hi;rw[J8 (by omega),ag]at this;rw[Nat.zero_add];exact XN hF m e T' n _ _ hT this)
     rw[bh,P1,M2 (by omega)]at h1;exact⟨ds,h1,h2⟩
    ·simp at h
   ·simp at h
  ·rename_i e hu;split at h
   ·rename_i T' hT;split at h
    ·rename_i hc;simp only[bs]at h;subst h;rw[Aw]at hc;have ag:=W2 hc.1;have a6:=hc.2;rw[Nat.blt_eq]at a6;rcases open_slice hu ht with⟨rfl,_⟩|⟨a,a4,cap,k,n,Dd,Pl,rfl,_,hle,hcap,hk,_,hel⟩
     ·exact⟨[.sl []],⟨.nil _ _,trivial⟩,by simp only[vW,GB];exact⟨_,_,rfl,⟨[],rfl,by simp,by simp⟩,rfl⟩⟩
     ·by_cases hl0:a4=0
      ·subst hl0;exact⟨[.sl []],⟨.nil _ _,trivial⟩,by simp only[vW,GB];exact⟨_,_,rfl,⟨[],rfl,by simp,by simp⟩,rfl⟩⟩
      ·have hlk:a4≤k:=by rw[hk];split<;>omega
       have an:∀i,i<a4→∃ds,(∀j,j<T'.length→∃v,w.cell? (a.add (i*T'.length+j))=some v∧CD w F (nth .undef ds j) v)∧vW T' ds:=by intro i hi;obtain⟨us,h1,h2⟩:=hel i (by omega);obtain⟨ds,h3,h4⟩:=XN hF m e T' n us _ hT h2;refine⟨ds,fun j hj=>?_,h4⟩;rw[ag]at h1;obtain⟨_,hul,hc⟩:=World.cells?_some h1;have:=hc j hj;rw[add_add,J8 (by omega)]at this;have h5:=All2.nth (.undef) undef ds us j h3 (by rw[QI h4];exact hj);rw[qo undef (show j<us.length by omega)]at h5;exact⟨_,this,h5⟩
       obtain⟨es,ad⟩:=choose_lt an;have ap:a.spot=none:=by
        obtain⟨v,h1,_⟩:=(ad 0 (by omega)).1 0 a6;simp only[bh,bm,Addr.add,if_true]at h1;unfold World.cell? at h1;split at h1
        ·split at h1
         ·simp at h1
         ·rename_i hs;simpa using hs
        ·simp at h1
       obtain⟨b,o,sp⟩:=a;simp only at ap;subst ap;have a8:∀j,(⟨b,o,none⟩:Addr).add j=⟨b,o+j,none⟩:=by
        intro j;unfold Addr.add;by_cases hj:j=0
        ·subst hj;simp
        ·rw[if_neg hj]
       have hb:b<w.heap.size:=by
        obtain⟨v,h1,_⟩:=(ad 0 (by omega)).1 0 a6;rw[a8]at h1;unfold World.cell? at h1;split at h1
        ·rename_i hh;exact(Array.getElem?_eq_some_iff.1 hh).1
        ·simp at h1
       have a3:((Lr a4).map es).length=a4:=by simp
       have a5:∀r∈(Lr a4).map es,r.length=T'.length:=by intro r hr;simp only[V1,No]at hr;obtain⟨i,hi,rfl⟩:=hr;exact QI (ad i hi).2
       have a7:∀j,j<a4*T'.length→∃v,w.cell? ⟨b,o+j,none⟩=some v∧CD w F (nth .undef ((Lr a4).map es).flatten j) v:=by
        intro j hj;have hi:j/T'.length<a4:=by rw[Nat.div_lt_iff_lt_mul a6];exact hj
        obtain⟨v,h1,h2⟩:=(ad _ hi).1 (j%T'.length) (Nat.mod_lt _ a6);rw[a8,Nat.mul_comm,Nat.div_add_mod]at h1;refine⟨v,h1,?_⟩;rw[VR a6 a5 j (by rw[a3];exact hj)];have:nth [] ((Lr a4).map es) (j/T'.length)=es (j/T'.length):=by rw[qI];simp[hi]
        rw[this];exact h2
       obtain⟨vs,b1⟩:=choose_lt a7;refine⟨[.sl ((Lr a4).map es)],⟨?_,trivial⟩,?_⟩
       ·have:=CD.sl (w:=w) (F:=F) ((Lr a4).map es) b o cap T'.length vs (by rw[a3];exact hle) a5 (hF b hb) (fun j hj=>(b1 j (by rw[a3]at hj;exact hj)).1) (fun j hj=>(b1 j (by rw[a3]at hj;exact hj)).2);rw[a3]at this;exact this
       ·simp only[vW,GB];refine⟨_,_,rfl,⟨_,rfl,by rw[a3];omega,fun r hr=>?_⟩,rfl⟩;simp only[V1,No]at hr;obtain⟨i,hi,rfl⟩:=hr;exact(ad i hi).2
    ·simp at h
   ·simp at h
  ·simp at h
end
end Eng
end
section
namespace Eng
open Go Go.RowKit Go.WideShapes Go.ChangeShapes
section
variable {H:Type} {enc:TypeId×Value→H} {P:Program}
theorem Qs {f:Func} {s:ChangeSpec} {apart fresh handsOn again:Bool} {W W':World} {args:Array Value} {v:Value} {ds gs:List (DataW H)} {before pa pv:List MemPlace}
 (hW:Gv enc P f.params.toList s.vars apart W args.toList ds gs before)
 (hres:∀(b:Nat) (sp:Nat→Bool) (hd:Bool),F2 enc P W' b sp hd f.resultTypes.toList (v.resultList f.resultTypes.size) (s.fn H (ds++gs)).results [])
 (hargs:∀sp:Nat→Bool,(∀p∈before,sp p.block=true)→F2 enc P W' 0 sp true f.params.toList args.toList (s.fn H (ds++gs)).args pa)
 (hvars:∀sp:Nat→Bool,(∀p∈before,sp p.block=true)→DataW.TrodVars enc P W' sp s.vars (s.fn H (ds++gs)).vars pv)
 (hps:before=pa++pv) (hb:Below W.heap.size W W')
 (hok:∀(j:Nat) (t:TypeId) (r:Value),f.resultTypes[j]? =some t→(v.resultList f.resultTypes.size)[j]? =some r→Hy P W' .any 0 t r):
 s.post enc P f apart fresh handsOn again W args v W':=by
 have a5:∀p∈before,p.block<W.heap.size:=fun p hp=>hW.lt p hp
 have a3:∀p∈before,(fun b=>decide (b<W.heap.size)) p.block=true:=fun p hp=>by simpa using a5 p hp
 refine⟨ds,gs,before,[],pa,pv,hW,hres _ _ _,hargs _ a3,hvars _ a3,World.keptBut_mono (fun p hp=>⟨hp,?_⟩) (hb.frame (· ∈before)),fun _=>?_⟩
 ·rw[hps,J4]at hp;exact Or.inr hp
 ·obtain⟨_,_,_,_,_,hz,hn⟩:=hW;refine⟨hok,_,_,([]++pa)++pv,⟨[]++pa,pv,trodAll_append (hargs _ (fun _ _=>rfl)) (hres _ _ _),hvars _ (fun _ _=>rfl),rfl,?_,?_⟩,?_⟩
  ·intro b a6 hp;have a4:MemPlace.cell b a6∈before:=by rw[hps];simpa using hp
   rw[hb.frozen (a5 _ a4)];exact hz b a6 a4
  ·intro ha;have:=hn ha;rw[hps]at this
   simpa using this
  ·intro p hp _;rw[hps]
   simpa using hp
theorem vR (hl:laidOutB P=true) {W W':World} (hb:Below W.heap.size W W') {sp:Nat→Bool}:∀{ts:List TypeId} {vs:List Value} {ds:List (DataW H)} {ps:List MemPlace},
 (∀t∈ts,P.readableRec t=true∧t<P.types.size)→F2 enc P W 0 (fun _=>true) true ts vs ds ps→(∀x∈ps,x.block<W.heap.size)→(∀x∈ps,sp x.block=true)→
 F2 enc P W' 0 sp true ts vs ds ps
 |[],[],[],_,_,h,_,_=>h
 |t::ts,v::vs,d::ds,_,ht,h,hlt,hsp=>by obtain⟨p,q,h1,h2,rfl⟩:=h;refine⟨p,q,?_,vR hl hb (fun t' h'=>ht t' (by simp[h'])) h2 (fun x hx=>hlt x (by simp[hx])) (fun x hx=>hsp x (by simp[hx])),rfl⟩;exact WideElems.Trod_stays hl (ht t (by simp)).1 (ht t (by simp)).2 h1 (fun x hx=>hb.same (hlt x (by simp[hx]))) (fun x hx=>hsp x (by simp[hx]))
 |[],[],_::_,_,_,h,_,_=>h.elim
 |[],_::_,_,_,_,h,_,_=>by cases ‹List (DataW H)› <;>exact h.elim
 |_::_,[],_,_,_,h,_,_=>by cases ‹List (DataW H)› <;>exact h.elim
 |_::_,_::_,[],_,_,h,_,_=>h.elim
def DB (P:Program) (m:Nat) (t:TypeId) (a:A):Prop:=
 ∃T,zD P m t=some T∧((vd P t=true∧∃ds,a= .ag ds∧vW T ds)∨(vd P t=false∧∃d,a= .c d∧vW T [d]))
theorem Tc {n:Nat} {e t:TypeId} {w:World} {r:Reach} {b:Nat} {v:Value} (ht:P.underlying t=some (.array n e)) (h:Hy P w r b t v):∃cs,v= .agg cs∧cs.size=P.cellsOf t:=by
 simp only[Hy,ht]at h;obtain⟨cs,h1,h2,_⟩:=h;exact⟨cs,h1,h2⟩
theorem AO {w:World} {F:Nat→Prop} (hF:∀b,b<w.heap.size→F b) {m base b0:Nat} {r:Reach} {sp:Nat→Bool} {held:Bool} {t:TypeId} {T:List CT} {v:Value} {d:DataW H} {p:List MemPlace}
 (hT:zD P m t=some T) (hv:Hy P w r b0 t v) (h:Hv enc P w base sp held t v d p):∃a,CA w F a v∧DB P m t a:=by
 obtain⟨a4,hf⟩:=h;obtain⟨ds,h1,h2⟩:=XN hF m t T a4 _ _ hT hf;have a3:v.cells= #[v]→vd P t=false→∃a,CA w F a v∧DB P m t a:=by intro hc ht;rw[hc]at h1;have hl:=h1.length;simp only[List.length_singleton]at hl;obtain⟨d0,rfl⟩:=List.length_eq_one_iff.1 hl;exact⟨.c d0,h1.1,T,hT,.inr ⟨ht,d0,rfl,h2⟩⟩
 have ag:∀cs,v= .agg cs→vd P t=true→∃a,CA w F a v∧DB P m t a:=by intro cs hc ht;subst hc;exact⟨.ag ds,⟨cs,rfl,h1⟩,T,hT,.inl ⟨ht,ds,rfl,h2⟩⟩
 cases m with
 |zero=>simp[zD]at hT
 |succ m=>
  simp only[zD]at hT;split at hT
  ·rename_i k hu;obtain⟨n,rfl⟩:=okWide_int hu hv;exact a3 rfl (by unfold vd;rw[hu])
  ·rename_i hu;obtain⟨b,rfl⟩:=okWide_bool hu hv;exact a3 rfl (by unfold vd;rw[hu])
  ·rename_i hu;obtain⟨s,rfl⟩:=okWide_string hu hv;exact a3 rfl (by unfold vd;rw[hu])
  ·rename_i fs hu;obtain⟨cs,rfl,_⟩:=okWide_struct hu hv;exact ag cs rfl (by unfold vd;rw[hu])
  ·rename_i n e hu;obtain⟨cs,rfl,_⟩:=Tc hu hv;exact ag cs rfl (by unfold vd;rw[hu])
  ·rename_i e hu;obtain⟨a,len,cap,rfl⟩:=okWide_slice hu hv;exact a3 rfl (by unfold vd;rw[hu])
  ·simp at hT
theorem Wx {w:World} {F:Nat→Prop} (hF:∀b,b<w.heap.size→F b) {m base b0:Nat} {r:Reach} {sp:Nat→Bool} {held:Bool}:∀{ts:List TypeId} {vs:List Value} {ds:List (DataW H)} {ps:List MemPlace},
 (∀t∈ts,(zD P m t).isSome=true)→(∀(j:Nat) t v,ts[j]? =some t→vs[j]? =some v→Hy P w r b0 t v)→F2 enc P w base sp held ts vs ds ps→
 ∃as',All2 (CA w F) as' vs∧All2 (DB P m) ts as'
 |[],[],[],_,_,_,_=>⟨[],trivial,trivial⟩
 |t::ts,v::vs,d::ds,_,ht,hv,h=>by obtain⟨p,q,h1,h2,rfl⟩:=h;obtain⟨T,hT⟩:=Option.isSome_iff_exists.1 (ht t (by simp));obtain⟨a,e1,e2⟩:=AO hF hT (hv 0 t v rfl rfl) h1;obtain⟨as',e3,e4⟩:=Wx hF (fun t' h'=>ht t' (by simp[h'])) (fun j t' v' h3 h4=>hv (j+1) t' v' (by simpa using h3) (by simpa using h4)) h2;exact⟨a::as',⟨e1,e3⟩,⟨e2,e4⟩⟩
 |[],[],_::_,_,_,_,h=>h.elim
 |[],_::_,_,_,_,_,h=>by cases ‹List (DataW H)› <;>exact h.elim
 |_::_,[],_,_,_,_,h=>by cases ‹List (DataW H)› <;>exact h.elim
 |_::_,_::_,[],_,_,_,h=>h.elim
theorem oD {C:Cx} {f:Nat} {fn:Func} {s:ChangeSpec} {m bt:Nat} {apart fresh handsOn again:Bool} (hl:laidOutB C.P=true) (hbt:C.P.underlying bt=some .bool)
 (hres:fn.resultTypes= #[bt]) (hrd:∀t∈fn.params.toList,C.P.readableRec t=true∧t<C.P.types.size∧(zD C.P m t).isSome=true)
 (hvars:s.vars=[]) (hfn:∀ds:List (DataW H),ds.length=fn.params.size→s.fn H ds={results:=[.lit (.bool true)],args:=ds})
 (hg:∀al:List A,All2 (DB C.P m) fn.params.toList al→qc C f al [.c (.bool true)])
 {W:World} {base:Nat} {args:Array Value} {ds gs:List (DataW H)} {before:List MemPlace} (hi:Inv C (fun b=>b<W.heap.size) W)
 (hval:∀(j:Nat) t v,fn.params[j]? =some t→args[j]? =some v→Hy C.P W .any base t v)
 (hW:Gv enc C.P fn.params.toList s.vars apart W args.toList ds gs before):
 Calls C.P f args W fun e W'=>∃v,e= .returned v∧s.post enc C.P fn apart fresh handsOn again W args v W':=by
 have hW':=hW;have hlt:∀p∈before,p.block<W.heap.size:=fun p hp=>hW.lt p hp
 obtain⟨p,q,hA,hV,rfl,hfz,hnd⟩:=hW;rw[hvars]at hV;have hgq:gs=[]∧q=[]:=by
  cases gs with
  |nil=>exact⟨rfl,hV⟩
  |cons g gs=>exact hV.elim
 obtain⟨rfl,rfl⟩:=hgq;have a3:ds.length=fn.params.size:=by
  have key:∀{ts:List TypeId} {vs:List Value} {ds:List (DataW H)} {ps:List MemPlace},F2 enc C.P W 0 (fun _=>true) true ts vs ds ps→ds.length=ts.length:=by
   intro ts
   induction ts with
   |nil=>intro vs ds ps h;cases vs<;>cases ds<;>first|rfl|exact h.elim
   |cons t ts ih=>
    intro vs ds ps h;cases vs with
    |nil=>cases ds<;>exact h.elim
    |cons v vs=>cases ds with
     |nil=>exact h.elim
     |cons d ds=>obtain⟨p,q,_,h2,_⟩:=h;simp[ih h2]
  rw[key hA];simp
 obtain⟨al,h1,h2⟩:=Wx (F:=fun b=>b<W.heap.size) (fun _ h=>h) (m:=m) (fun t ht=>(hrd t ht).2.2) (fun j t v h3 h4=>hval j t v (by simpa using h3) (by simpa using h4)) hA;have hc:=hg al h2 W (fun b=>b<W.heap.size) args.toList (fun _ h=>h) hi h1;have e0:args.toList.toArray=args:=by simp
 rw[e0]at hc;refine hc.mono fun e W' he=>?_
 obtain⟨hb,v,rfl,hr⟩:=he;have hv:v= .bool true:=by have hr:CD _ _ (.bool true) v:=hr;cases hr;rfl
 subst hv;refine⟨_,rfl,Qs (pa:=p++[]) (pv:=[]) hW' ?_ ?_ ?_ (by simp) hb ?_⟩
 ·intro b sp hd;rw[I3,hfn ds a3,hres];exact trodAll_mk1 (shut_bool hbt true)
 ·intro sp a4;rw[I3,hfn ds a3,I3];exact vR hl hb (fun t ht=>⟨(hrd t ht).1,(hrd t ht).2.1⟩) hA (fun x hx=>hlt x (by simp[hx])) (fun x hx=>a4 x (by simp[hx]))
 ·intro sp a4;rw[I3,hfn ds a3,hvars];rfl
 ·exact ok_one hres rfl (okWide_bool_mk hbt _)
end
end Eng
end
section
namespace Eng
open Go Go.RowKit Go.WideShapes Go.ChangeShapes Go.Deep
section
variable {H:Type} {enc:TypeId×Value→H} {P:Program}
theorem AP {W:World} {F:Nat→Prop} {base:Nat} {sp:Nat→Bool} {held:Bool} {t e:TypeId} {v:Value} {d:DataW H} {p:List MemPlace} {es:List (List D)} (ht:P.underlying t=some (.slice e)) (h:Hv enc P W base sp held t v d p) (hv:CD W F (.sl es) v)
 (hw:(d.weights P t).all (· ≤reachBytes)=true):es.length*P.bytesOf e≤reachBytes:=by
 obtain⟨fuel,hf⟩:=h;obtain⟨ad,c,rfl,_⟩:=CD.slice_inv hv;have e0:(Value.slice ad es.length c).cells.toList=[.slice ad es.length c]:=rfl;rw[e0]at hf;rcases open_slice ht hf with⟨h1,_⟩|⟨a,len,cap,k,n,Dd,Pl,h1,_,hle,hcap,hk,hx,_⟩
 ·simp only[W1,and_true,Value.slice.injEq]at h1;rw[h1.2.1];simp
 ·simp only[W1,and_true,Value.slice.injEq]at h1;obtain⟨_,h2,_⟩:=h1;simp only[Prod.mk.injEq]at hx;rw[hx.1,DataW.weights,ht]at hw;simp only[List.all_cons,List.length_map,List.length_range,Aw,decide_eq_true_eq]at hw;rw[h2];exact Nat.le_trans (Nat.mul_le_mul_right _ (by omega)) hw.1
theorem mJ {C:Cx} {K:List A→Prop} {f:Nat} {fn:Func} {s:ChangeSpec} {m bt:Nat} {apart fresh handsOn again:Bool} (hl:laidOutB C.P=true) (hbt:C.P.underlying bt=some .bool)
 (hres:fn.resultTypes= #[bt]) (hrd:∀t∈fn.params.toList,C.P.readableRec t=true∧t<C.P.types.size∧(zD C.P m t).isSome=true)
 (hvars:s.vars=[]) (hfn:∀ds:List (DataW H),ds.length=fn.params.size→s.fn H ds={results:=[.lit (.bool true)],args:=ds})
 (hg:∀al:List A,All2 (DB C.P m) fn.params.toList al→K al→qc C f al [.c (.bool true)])
 {W:World} {base:Nat} {args:Array Value} {ds gs:List (DataW H)} {before:List MemPlace} (hi:Inv C (fun b=>b<W.heap.size) W)
 (hval:∀(j:Nat) t v,fn.params[j]? =some t→args[j]? =some v→Hy C.P W .any base t v)
 (hW:Gv enc C.P fn.params.toList s.vars apart W args.toList ds gs before)
 (hK:∀(al:List A) (p:List MemPlace),All2 (CA W (fun b=>b<W.heap.size)) al args.toList→F2 enc C.P W 0 (fun _=>true) true fn.params.toList args.toList ds p→K al):
 Calls C.P f args W fun e W'=>∃v,e= .returned v∧s.post enc C.P fn apart fresh handsOn again W args v W':=by
 have hW':=hW;have hlt:∀p∈before,p.block<W.heap.size:=fun p hp=>hW.lt p hp
 obtain⟨p,q,hA,hV,rfl,hfz,hnd⟩:=hW;rw[hvars]at hV;have hgq:gs=[]∧q=[]:=by
  cases gs with
  |nil=>exact⟨rfl,hV⟩
  |cons g gs=>exact hV.elim
 obtain⟨rfl,rfl⟩:=hgq;have a3:ds.length=fn.params.size:=by
  have key:∀{ts:List TypeId} {vs:List Value} {ds:List (DataW H)} {ps:List MemPlace},F2 enc C.P W 0 (fun _=>true) true ts vs ds ps→ds.length=ts.length:=by
   intro ts
   induction ts with
   |nil=>intro vs ds ps h;cases vs<;>cases ds<;>first|rfl|exact h.elim
   |cons t ts ih=>
    intro vs ds ps h;cases vs with
    |nil=>cases ds<;>exact h.elim
    |cons v vs=>cases ds with
     |nil=>exact h.elim
     |cons d ds=>obtain⟨p,q,_,h2,_⟩:=h;simp[ih h2]
  rw[key hA];simp
 obtain⟨al,h1,h2⟩:=Wx (F:=fun b=>b<W.heap.size) (fun _ h=>h) (m:=m) (fun t ht=>(hrd t ht).2.2) (fun j t v h3 h4=>hval j t v (by simpa using h3) (by simpa using h4)) hA;have hc:=hg al h2 (hK al _ h1 hA) W (fun b=>b<W.heap.size) args.toList (fun _ h=>h) hi h1;have e0:args.toList.toArray=args:=by simp
 rw[e0]at hc;refine hc.mono fun e W' he=>?_
 obtain⟨hb,v,rfl,hr⟩:=he;have hv:v= .bool true:=by have hr:CD _ _ (.bool true) v:=hr;cases hr;rfl
 subst hv;refine⟨_,rfl,Qs (pa:=p++[]) (pv:=[]) hW' ?_ ?_ ?_ (by simp) hb ?_⟩
 ·intro b sp hd;rw[I3,hfn ds a3,hres];exact trodAll_mk1 (shut_bool hbt true)
 ·intro sp a4;rw[I3,hfn ds a3,I3];exact vR hl hb (fun t ht=>⟨(hrd t ht).1,(hrd t ht).2.1⟩) hA (fun x hx=>hlt x (by simp[hx])) (fun x hx=>a4 x (by simp[hx]))
 ·intro sp a4;rw[I3,hfn ds a3,hvars];rfl
 ·exact ok_one hres rfl (okWide_bool_mk hbt _)
end
end Eng
end
