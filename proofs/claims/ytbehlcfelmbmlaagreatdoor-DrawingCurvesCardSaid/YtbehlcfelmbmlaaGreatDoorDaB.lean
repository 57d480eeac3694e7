/- Chapter 22's reference: names, layers, entities, a drawing's error. -/
import Derived.Test.YtbehlcfelmbmlaaGreatDoorDaA
import Derived.Test.YtbehlcfelmbmlaaGreatDoorCtxB
import Derived.KernelRfl
open Bool renaming eq_iff_iff→Aa, true_and→Ab, and_true→Ac, and_eq_true→Ad
open Eng.D renaming bool→Ae, int→Af, sl→Ah
open Eng.D.int renaming injEq→Ai
open Eng.Rw renaming cs→Aj, few_rd→Ak
open Go.IntKind renaming wrap→Al
open Int renaming ofNat_eq_natCast→Am, toNat_natCast→An, ofNat→Ao, toNat→Ap
open List renaming take_succ_eq_append_getElem→Aq, length_map→Ar, take_length→As, getElem_mem→At, all_append→Au, drop_eq_getElem_cons→Av, all_eq_true→Aw, length→Ax, getElem_map→Ay, drop_length→Az, mem_cons→A0, map_cons→A1, all_cons→A2, all_nil→A3
open List.cons renaming injEq→A4
section
namespace Eng
open Go Go.Proofs
set_option maxRecDepth 1000000
theorem QW (c:UInt8):qe CC 162 [.c (.int .u8 c.toNat)] [.c (.bool (ltr c))]:=by
 refine qf (anns:=an0) mixedT Tryz.func162 ?_;rw[Gu];unfold ltr;have e1:(decide ((c.toNat:Int)≥97))=decide (97≤c.toNat):=decide_eq_decide.2 (by omega);have e2:(decide ((c.toNat:Int)≤122))=decide (c.toNat≤122):=decide_eq_decide.2 (by omega);have e3:(decide ((c.toNat:Int)≥65))=decide (65≤c.toNat):=decide_eq_decide.2 (by omega);have e4:(decide ((c.toNat:Int)≤90))=decide (c.toNat≤90):=decide_eq_decide.2 (by omega);rw[e1,e2,e3,e4];cases decide (97≤c.toNat)<;>cases decide (c.toNat≤122)<;>cases decide (65≤c.toNat)<;>cases decide (c.toNat≤90)<;>rfl
theorem GO (c:UInt8):qe CC 257 [.c (.int .u8 c.toNat)] [.c (.bool (isD c))]:=by
 refine qf (anns:=an0) mixedT Tryz.func257 ?_;rw[Tl];unfold isD;have e1:(decide ((c.toNat:Int)≥48))=decide (48≤c.toNat):=decide_eq_decide.2 (by omega);have e2:(decide ((c.toNat:Int)≤57))=decide (c.toNat≤57):=decide_eq_decide.2 (by omega);rw[e1,e2];cases decide (48≤c.toNat)<;>cases decide (c.toNat≤57)<;>rfl
theorem u8b (c:UInt8) (n:Nat) (hn:n<256):(((c.toNat:Nat):Int)==(n:Int))=decide (c=UInt8.ofNat n):=Rz c n hn
theorem TB {s:List UInt8} (hs:s.length≤1073741824):qe CC 163 [.c (.str s)] [.c (.int .i64 ((ZG nmc s:Nat):Int))]:=by
 refine qf (anns:=fun _=>⟨[.slot 3 (.int .i64 0)],[],fun _ ds=>∃k:Nat,k≤s.length∧ds=[.int .i64 (k:Int)]∧ZG nmc s=k+ZG nmc (s.drop k),fun ds=>(s.length-toI (nth .undef ds 0)).toNat⟩) mixedT Tryz.func163 ?_;rw[Na];simp only[Am];refine⟨⟨0,by omega,rfl,by simp⟩,?_⟩;rintro n ⟨k,hk,he,hl⟩;simp only[A4,Ai,true_and,and_true]at he;subst he;refine brd (fun h=>?_) (fun h=>?_)
 ·have hkl:k<s.length:=by omega
  rw[An];have a0:nmc (nth 0 s k)=true→(∃k':Nat,k'≤s.length∧[Af .i64 (Al .i64 ((k:Int)+1))]=[.int .i64 (k':Int)]∧ZG nmc s=k'+ZG nmc (s.drop k'))∧(s.length-toI (nth .undef [Af .i64 (Al .i64 ((k:Int)+1))] 0)).toNat<(s.length-toI (nth .undef [Af .i64 (k:Int)] 0)).toNat:=fun hc=>by
   have hw:Al .i64 ((k:Int)+1)=((k+1:Nat):Int):=by rw[xL (by omega) (by omega)];omega
   rw[hw];refine⟨⟨k+1,by omega,rfl,?_⟩,by simp only[nth,toI];omega⟩;rw[hl,UL hkl hc];omega
  have hb:(0:Int)≤(k:Int)∧(k:Int)<(s.length:Int):=⟨by omega,by omega⟩;have a1:ltr (nth 0 s k)=true∨isD (nth 0 s k)=true∨nth 0 s k=95∨nth 0 s k=45→nmc (nth 0 s k)=true:=fun h=>by
   unfold nmc;rcases h with h|h|h|h
   ·rw[h];rfl
   ·rw[h];simp
   ·rw[h];decide
   ·rw[h];decide
  have a3:=u8b (nth 0 s k) 95 (by omega);have a2:=u8b (nth 0 s k) 45 (by omega);refine⟨hb,_,QW _,jC (fun h1=>a0 (a1 (.inl h1))) (fun h1=>⟨hb,_,GO _,jC (fun h2=>a0 (a1 (.inr (.inl h2)))) (fun h2=>⟨hb,brb (fun h3=>a0 (a1 (.inr (.inr (.inl ?_))))) (fun h3=>⟨hb,brb (fun h4=>a0 (a1 (.inr (.inr (.inr ?_))))) (fun h4=>?_)⟩)⟩)⟩)⟩
  ·rw[show(95:Int)=((95:Nat):Int)from rfl,a3]at h3;exact of_decide_eq_true h3
  ·rw[show(45:Int)=((45:Nat):Int)from rfl,a2]at h4;exact of_decide_eq_true h4
  ·rw[show(95:Int)=((95:Nat):Int)from rfl,a3]at h3;rw[show(45:Int)=((45:Nat):Int)from rfl,a2]at h4;have h3:¬nth 0 s k=95:=of_decide_eq_false h3;have h4:¬nth 0 s k=45:=of_decide_eq_false h4;have hno:nmc (nth 0 s k)=false:=by unfold nmc;rw[h1,h2,decide_eq_false h3,decide_eq_false h4];rfl
   rw[hl,JS (.inr hno)];simp
 ·rw[hl,JS (.inl (by omega))];simp
theorem Yq {s:List UInt8} (hs:s.length≤1073741824):qe CC 90 [.c (.str s)] [.c (.bool (JP s))]:=by
 refine qf (anns:=an0) mixedT Tryz.func90 ?_;rw[Gw,Gj];simp only[Am];have hz:Ap 0=0:=rfl;refine brd (fun h=>brd (fun h2=>⟨⟨by omega,by omega⟩,_,by rw[hz];exact QW _,jC (fun h3=>⟨_,TB hs,?_⟩) (fun h3=>?_)⟩) (fun h2=>?_)) (fun h=>?_)
 ·have a0:s.isEmpty=false:=by cases s with|nil=>simp at h|cons _ _=>rfl
  rw[a0,decide_eq_true (by omega:s.length≤24),h3];have:(((ZG nmc s:Nat):Int)==(s.length:Int))=decide (ZG nmc s=s.length):=by rw[Aa];simp only[beq_iff_eq,decide_eq_true_eq];omega
  rw[this];rfl
 ·have a0:s.isEmpty=false:=by cases s with|nil=>simp at h|cons _ _=>rfl
  rw[a0,decide_eq_true (by omega:s.length≤24),h3];rfl
 ·have a0:s.isEmpty=false:=by cases s with|nil=>simp at h|cons _ _=>rfl
  rw[a0,decide_eq_false (by omega:¬s.length≤24)];rfl
 ·have a0:s.isEmpty=true:=by cases s with|nil=>rfl|cons _ _=>simp only[List.length_cons]at h;omega
  rw[a0];rfl
def GP (l:Ly):List D:=[.str l.name,.int .i64 l.kind,.int .i64 l.depth]
theorem GQ {l:Ly} (hs:l.name.length≤1073741824):qe CC 44 [.ag (GP l)] [.c (.bool (SR l))]:=by
 have hn:=Yq hs;refine qf (anns:=an0) mixedT Tryz.func44 ?_;have er:A.ag (GP l)= .ag [.str l.name,.int .i64 l.kind,.int .i64 l.depth]:=rfl;rw[er,Tm];unfold SR;generalize JP l.name=N at *;generalize l.kind=k at *;generalize l.depth=d at *;by_cases k1:k=1
 ·subst k1;refine brb (fun h=>?_) (fun h=>?_)<;>(refine brb (fun _=>?_) (fun h=>by simp at h);refine brb (fun _=>?_) (fun h=>by simp at h);refine⟨_,hn,jC (fun hN=>?_) (fun hN=>?_)⟩<;>(congr 3;first|(simp_all;done)|(simp_all;omega)|(simp_all;rw[Aa];simp)))
 ·refine brb (fun h=>?_) (fun h=>?_)<;>(refine brb (fun h1=>by simp at h1;exact absurd h1 k1) (fun _=>?_);by_cases k3:k=3)<;>first
   |(subst k3;refine brb (fun _=>?_) (fun h=>by simp at h);refine⟨_,hn,jC (fun hN=>?_) (fun hN=>?_)⟩<;>(congr 3;first|(simp_all;done)|(simp_all;omega)|(simp_all;rw[Aa];simp)))
   |(refine brb (fun h1=>by simp at h1;exact absurd h1 k3) (fun _=>?_)
     by_cases k2:k=2
     ·subst k2;refine brb (fun _=>?_) (fun h=>by simp at h);refine brb (fun _=>?_) (fun h=>by simp at h);refine⟨_,hn,jC (fun hN=>?_) (fun hN=>?_)⟩<;>(congr 3;first|(simp_all;done)|(simp_all;omega)|(simp_all;rw[Aa];simp))
     ·refine brb (fun h1=>by simp at h1;exact absurd h1 k2) (fun _=>?_);by_cases k4:k=4
      ·subst k4;refine brb (fun _=>?_) (fun h=>by simp at h);refine⟨_,hn,jC (fun hN=>?_) (fun hN=>?_)⟩<;>(congr 3;first|(simp_all;done)|(simp_all;omega)|(simp_all;rw[Aa];simp))
      ·refine brb (fun h1=>by simp at h1;exact absurd h1 k4) (fun _=>?_);congr 3;first|(simp_all;done)|(simp_all;omega))
def GR (s:List UInt8):List Ly→Nat→Int
 |[],_=> -1
 |l::r,i=>if l.name=s then(i:Int)else GR s r (i+1)
def fndZ (ls:List Ly) (s:List UInt8):Int:=GR s ls 0
theorem za {α:Type} {f:α→List D} {l:List α} {i:Nat} (h:i<l.length):nth [] (l.map f) i=f l[i]:=by
 rw[qn _ (by rw[Ar];exact h),Ay]
theorem NZ {s:List UInt8} {ls:List Ly} {k:Nat} (h:k<ls.length):GR s (ls.drop k) k=if ls[k].name=s then(k:Int)else GR s (ls.drop (k+1)) (k+1):=by
 rw[Av h];rfl
theorem WL {s:List UInt8}:∀{ls:List Ly} {k:Nat},GR s ls k<0↔s∉ls.map (·.name)
 |[],k=>by simp[GR]
 |l::r,k=>by
  rw[GR,A1,A0];by_cases h:l.name=s
  ·rw[if_pos h];simp[h]
  ·rw[if_neg h,WL];simp[Ne.symm h]
theorem QX {s:List UInt8}:∀{ls:List Ly} {i k:Nat} (h:i<ls.length),ls[i].name=s→(GR s ls k<((k+i:Nat):Int)↔s∈(ls.take i).map (·.name))
 |[],i,k,h,_=>by simp at h
 |l::r,0,k,h,hs=>by have:l.name=s:=hs;rw[GR,if_pos this];simp
 |l::r,i+1,k,h,hs=>by
  rw[GR,List.take_succ_cons,A1,A0];by_cases hl:l.name=s
  ·rw[if_pos hl];exact⟨fun _=> .inl hl.symm,fun _=>by omega⟩
  ·rw[if_neg hl];have:=QX (k:=k+1) (ls:=r) (i:=i) (by simpa using h) (by simpa using hs);rw[show k+1+i=k+(i+1)by omega]at this;rw[this];exact⟨fun h=> .inr h,fun h=>h.resolve_left (Ne.symm hl)⟩
theorem WM {ls:List Ly} {s:List UInt8} (hl:ls.length≤1073741824):qe CC 45 [.c (.sl (ls.map GP)),.c (.str s)] [.c (.int .i64 (fndZ ls s))]:=by
 refine qf (anns:=fun _=>⟨[.slot 5 (.int .i64 0)],[],fun _ ds=>∃k:Nat,k≤ls.length∧ds=[.int .i64 (k:Int)]∧GR s (ls.drop k) k=fndZ ls s,fun ds=>(ls.length-toI (nth .undef ds 0)).toNat⟩) mixedT Tryz.func45 ?_;rw[Nb];simp only[Am,Ar];refine⟨⟨0,by omega,rfl,rfl⟩,?_⟩;rintro n ⟨k,hk,he,hf⟩;simp only[A4,Ai,true_and,and_true]at he;subst he;refine brd (fun h=>?_) (fun h=>?_)
 ·have a0:k<ls.length:=by omega
  rw[An,za a0];rw[NZ a0]at hf;refine⟨⟨by omega,by omega,rfl⟩,_,⟨rfl,by simp[GP]⟩,brb (fun h2=>?_) (fun h2=>?_)⟩
  ·have h2:ls[k].name=s:=by simpa using h2
   rw[if_pos h2]at hf;rw[hf]
  ·have h2:¬ls[k].name=s:=by simpa using h2
   rw[if_neg h2]at hf;have hw:Al .i64 ((k:Int)+1)=((k+1:Nat):Int):=by rw[xL (by omega) (by omega)];omega
   rw[hw];exact⟨⟨k+1,by omega,rfl,hf⟩,by simp only[nth,toI];omega⟩
 ·have:k=ls.length:=by omega
  subst this;rw[Az]at hf;rw[←hf];rfl
structure Er where
 kind:Int
 layer:List UInt8
 pts:List (Rw×Rw)
 rad:Rw
def ZQ (p:Rw×Rw):List D:=p.1.cs++p.2.cs
def ZD (e:Er):List D:=[.int .i64 e.kind,.str e.layer,.sl (e.pts.map ZQ)]++e.rad.cs
def Er.o (e:Er):EnO:=⟨e.kind,e.layer,e.pts.map fun p=>(vr p.1,vr p.2),vr e.rad⟩
def Er.few (e:Er):Prop:=(∀p∈e.pts,p.1.rd∧p.2.rd)∧e.rad.rd
def GS (p:Rw×Rw):Bool:=zP (vr p.1)&&zP (vr p.2)
theorem Er.ok_eq (e:Er):yh e.o=(decide (1≤e.kind∧e.kind≤3)&&(decide (e.pts.length=JQ e.kind)&&(e.pts.all GS&&(decide (e.kind≠3)||(zP (vr e.rad)&&SS (vr e.rad)))))):=by
 unfold yh Er.o;simp only[Ar,List.all_map];rfl
theorem Yr (k:Int):(1≤k∧k≤3∧0<JQ k∧JQ k≤3∧(JQ k=1↔k=3))∨(¬(1≤k∧k≤3)∧JQ k=0):=by
 unfold JQ;by_cases h1:k=1
 ·subst h1;simp
 ·by_cases h2:k=2
  ·subst h2;simp
  ·by_cases h3:k=3
   ·subst h3;simp
   ·rw[if_neg h1,if_neg h2,if_neg h3];exact .inr ⟨by omega,rfl⟩
theorem xD {α:Type} {p:α→Bool} {l:List α} {k:Nat} (hk:k<l.length) (h:p l[k]=false):l.all p=false:=by
 rw[←Bool.not_eq_true];intro h2;have:=Aw.1 h2 l[k] (At hk);rw[h]at this;simp at this
theorem Oa (x:Rat):0<x.num↔0<x:=by
 constructor
 ·intro h;have h1:0≤x:=Rat.num_nonneg.1 (by omega);have h2:x≠0:=fun h0=>by rw[h0]at h;exact absurd h (by decide)
  grind
 ·exact NS
set_option maxHeartbeats 1000000 in
theorem Ys {e:Er} (hf:e.few) (hl:e.pts.length≤1073741824):qe CC 46 [.ag (ZD e)] [.c (.bool (yh e.o))]:=by
 have hE:=e.ok_eq;have a2:=fun(p:Rw×Rw) (hp:p∈e.pts)=>And.intro (Ko (hf.1 p hp).1) (Ko (hf.1 p hp).2)
 have a4:=Ko hf.2;refine qf (anns:=WR (fun _=>⟨[.slot 4 (.int .i64 0)],[],fun _ ds=>∃j:Nat,j≤e.pts.length∧ds=[.int .i64 (j:Int)]∧(e.pts.take j).all GS=true,fun ds=>(e.pts.length-toI (nth .undef ds 0)).toNat⟩)
  9 ⟨[.slot 3 (.int .i64 0)],[],fun _ ds=>ds=[.int .i64 ((JQ e.kind:Nat):Int)],fun _=>0⟩) mixedT Tryz.func46 ?_
 have er:A.ag (ZD e)= .ag [.int .i64 e.kind,.str e.layer,.sl (e.pts.map ZQ),.bool e.rad.p,.sl (raw e.rad.l),.bool e.rad.q,.sl (raw e.rad.m)]:=rfl;rw[er,Gx];have a5:A.ag e.rad.cs= .ag [.bool e.rad.p,.sl (raw e.rad.l),.bool e.rad.q,.sl (raw e.rad.m)]:=rfl;rw[a5]at a4;simp only[Am,Ar];generalize yh e.o=R at *;refine⟨?_,?_⟩
 ·by_cases h1:e.kind=1
  ·rw[h1];refine brb (fun _=>rfl) (fun h=>by simp at h)
  ·refine brb (fun h=>by simp at h;exact absurd h h1) (fun _=>?_);by_cases h2:e.kind=2
   ·rw[h2];refine brb (fun _=>rfl) (fun h=>by simp at h)
   ·refine brb (fun h=>by simp at h;exact absurd h h2) (fun _=>?_);by_cases h3:e.kind=3
    ·rw[h3];refine brb (fun _=>rfl) (fun h=>by simp at h)
    ·refine brb (fun h=>by simp at h;exact absurd h h3) (fun _=>?_);unfold JQ;rw[if_neg h1,if_neg h2,if_neg h3];rfl
 intro n he;simp only[A4,Ai,true_and,and_true]at he;subst he;have hc:=Yr e.kind;refine brb (fun h=>?_) (fun h=>brb (fun h2=>?_) (fun h2=>brb (fun h3=>?_) (fun h3=>?_)))
 ·have h:JQ e.kind=0:=by simp at h;omega
  have hk:¬(1≤e.kind∧e.kind≤3):=hc.elim (fun h'=>by omega) (fun h'=>by exact h'.1);rw[hE,decide_eq_false hk];rfl
 ·have h2:¬e.pts.length=JQ e.kind:=by simp at h2;omega
  rw[hE,decide_eq_false h2];simp
 ·have h2:e.pts.length=JQ e.kind:=by simp at h2;omega
  have h3:JQ e.kind=1:=by simp at h3;omega
  have hk:1≤e.kind∧e.kind≤3:=hc.elim (fun h'=>by exact⟨h'.1,h'.2.1⟩) (fun h'=>by omega);have a6:e.kind=3:=hc.elim (fun h'=>by exact h'.2.2.2.2.1 h3) (fun h'=>by omega);rw[decide_eq_true hk,decide_eq_true h2,a6]at hE;simp only[Ab,ne_eq,not_true_eq_false,decide_false,Bool.false_or]at hE;refine⟨_,a4,?_⟩;cases hr:zP (vr e.rad)with
  |false=>refine brb (fun _=>?_) (fun h=>by simp at h);rw[hE,hr];simp
  |true=>
   refine brb (fun h=>by simp at h) (fun _=>?_);obtain⟨ha,_⟩:=jV hr;have a8:e.rad.ok=true:=by
    unfold vr at ha;by_cases h:e.rad.ok=true
    ·exact h
    ·rw[if_neg h]at ha;simp at ha
   have hv:vr e.rad=some e.rad.val:=by unfold vr;rw[if_pos a8]
   have hcs:=Rw.val_cs a8;have a7:=qR e.rad.val;have hC:qC e.rad.val=A.ag [.bool e.rad.p,.sl (raw e.rad.l),.bool e.rad.q,.sl (raw e.rad.m)]:=by unfold qC;rw[←hcs];rfl
   rw[hC]at a7;have a3:SS (vr e.rad)=decide (sgn e.rad.val.num=1):=by rw[hv];show decide (0<e.rad.val)=_;rw[decide_eq_decide,Kl];exact(Oa _).symm
   rw[hr,a3,Ab]at hE;refine⟨_,a7,brb (fun h=>?_) (fun h=>?_)⟩
   ·have h:¬sgn e.rad.val.num=1:=by simpa using h
    rw[hE,decide_eq_false h];simp
   ·have h:sgn e.rad.val.num=1:=by simpa using h
    rw[decide_eq_true h,Ac]at hE;clear h a7 a3 hr;refine⟨⟨0,by omega,rfl,by simp⟩,?_⟩;rintro n ⟨j,hj,he,a0⟩;simp only[A4,Ai,true_and,and_true]at he;subst he;refine brd (fun h=>?_) (fun h=>?_)
    ·have a1:j<e.pts.length:=by omega
     obtain⟨hx,hy⟩:=a2 e.pts[j] (At a1);rw[An,za a1];refine⟨⟨by omega,by omega,by simp[ZQ,Aj]⟩,_,_,_,_,⟨rfl,by simp[ZQ,Aj]⟩,_,hx,brb (fun h4=>?_) (fun h4=>⟨⟨by omega,by omega,by simp[ZQ,Aj]⟩,_,_,_,_,⟨rfl,by simp[ZQ,Aj]⟩,_,hy,brb (fun h5=>?_) (fun h5=>?_)⟩)⟩
     ·rw[hE,xD a1 (by unfold GS;simp at h4;rw[h4];rfl)]
     ·rw[hE,xD a1 (by unfold GS;simp at h5;rw[h5];simp)]
     ·have hw:Al .i64 ((j:Int)+1)=((j+1:Nat):Int):=by rw[xL (by omega) (by omega)];omega
      rw[hw];refine⟨⟨j+1,by omega,rfl,?_⟩,by simp only[nth,toI];omega⟩;rw[Aq a1,Au,a0];simp at h4 h5;simp[GS,h4,h5]
    ·have:j=e.pts.length:=by omega
     subst this;rw[As]at a0;rw[hE,a0]
 ·have h2:e.pts.length=JQ e.kind:=by simp at h2;omega
  have h3:JQ e.kind≠1:=by simp at h3;omega
  have h0:JQ e.kind≠0:=by simp at h;omega
  have hk:1≤e.kind∧e.kind≤3:=hc.elim (fun h'=>by exact⟨h'.1,h'.2.1⟩) (fun h'=>by exact absurd h'.2 h0);have a6:e.kind≠3:=hc.elim (fun h'=>by exact fun h=>h3 (h'.2.2.2.2.2 h)) (fun h'=>by exact absurd h'.2 h0);rw[decide_eq_true hk,decide_eq_true h2,decide_eq_true a6]at hE;simp only[Ab,Bool.true_or,Ac]at hE;clear h;refine⟨⟨0,by omega,rfl,by simp⟩,?_⟩;rintro n ⟨j,hj,he,a0⟩;simp only[A4,Ai,true_and,and_true]at he;subst he;refine brd (fun h=>?_) (fun h=>?_)
  ·have a1:j<e.pts.length:=by omega
   obtain⟨hx,hy⟩:=a2 e.pts[j] (At a1);rw[An,za a1];refine⟨⟨by omega,by omega,by simp[ZQ,Aj]⟩,_,_,_,_,⟨rfl,by simp[ZQ,Aj]⟩,_,hx,brb (fun h4=>?_) (fun h4=>⟨⟨by omega,by omega,by simp[ZQ,Aj]⟩,_,_,_,_,⟨rfl,by simp[ZQ,Aj]⟩,_,hy,brb (fun h5=>?_) (fun h5=>?_)⟩)⟩
   ·rw[hE,xD a1 (by unfold GS;simp at h4;rw[h4];rfl)]
   ·rw[hE,xD a1 (by unfold GS;simp at h5;rw[h5];simp)]
   ·have hw:Al .i64 ((j:Int)+1)=((j+1:Nat):Int):=by rw[xL (by omega) (by omega)];omega
    rw[hw];refine⟨⟨j+1,by omega,rfl,?_⟩,by simp only[nth,toI];omega⟩;rw[Aq a1,Au,a0];simp at h4 h5;simp[GS,h4,h5]
  ·have:j=e.pts.length:=by omega
   subst this;rw[As]at a0;rw[hE,a0]
def drA (ls:List Ly) (es:List Er):A:= .ag [.sl (ls.map GP),.sl (es.map ZD)]
def Ob (ls:List Ly) (es:List Er):Nat:=Zt ls (es.map Er.o)
theorem TE {ls:List Ly} {k:Nat} (h:k<ls.length):yg (ls.take k) (ls.drop k)=match JR (ls.take k) ls[k]with
 |0=>yg (ls.take (k+1)) (ls.drop (k+1))
 |e=>e:=by
 rw[Av h,yg,←Aq h];generalize JR (ls.take k) ls[k]=x;cases x<;>rfl
theorem GT {ls:List Ly} {es:List EnO} {k:Nat} (h:k<es.length):kz ls (es.drop k)=match ju ls es[k]with
 |0=>kz ls (es.drop (k+1))
 |e=>e:=by
 rw[Av h,kz];generalize ju ls es[k]=x;cases x<;>rfl
theorem GU {ls:List Ly} {es:List Er} (hn:∀l∈ls,l.name.length≤1000) (hf:∀e∈es,e.few∧e.pts.length≤1000):qe CC 16 [drA ls es] [.c (.int .i64 ((Ob ls es:Nat):Int))]:=by
 refine qf (anns:=Vn
  ⟨[.slot 3 (.int .i64 0)],[],fun _ ds=>∃k:Nat,k≤ls.length∧ds=[.int .i64 (k:Int)]∧yg (ls.take k) (ls.drop k)=yg [] ls,fun ds=>(ls.length-toI (nth .undef ds 0)).toNat⟩
  ⟨[.slot 4 (.int .i64 0)],[],fun _ ds=>∃k:Nat,k≤es.length∧ds=[.int .i64 (k:Int)]∧kz ls ((es.map Er.o).drop k)=kz ls (es.map Er.o),fun ds=>(es.length-toI (nth .undef ds 0)).toNat⟩) mixedT Tryz.func16 ?_
 unfold drA;rw[Tn];simp only[Am,Ar];have hv:Ob ls es=if 20<ls.length∨200<es.length then 3 else match yg [] ls with|0=>kz ls (es.map Er.o)|e=>e:=by unfold Ob Zt;rw[Ar];generalize yg [] ls=x;cases x<;>rfl
 refine brd (fun h=>?_) (fun h=>brd (fun h2=>?_) (fun h2=>?_))
 ·rw[hv,if_pos (.inl (by omega))];rfl
 ·rw[hv,if_pos (.inr (by omega))];rfl
 rw[if_neg (by omega)]at hv;generalize Ob ls es=V at *;refine⟨⟨0,by omega,rfl,rfl⟩,?_⟩;rintro n ⟨k,hk,he,a0⟩;simp only[A4,Ai,true_and,and_true]at he;subst he;refine brd (fun h3=>?_) (fun h3=>?_)
 ·have a1:k<ls.length:=by omega
  rw[An,za a1];rw[TE a1]at a0;have hly:=GQ (l:=ls[k]) (by have:=hn _ (At a1);omega);have a5:=WM (ls:=ls) (s:=ls[k].name) (by omega);refine⟨⟨by omega,by omega,rfl⟩,_,_,_,⟨rfl,by simp[GP]⟩,_,hly,?_⟩;have a3:∀x,x=JR (ls.take k) ls[k]→x≠0→V=x:=fun x hx h0=>by
   rw[hv];rw[←hx]at a0;cases x with
   |zero=>exact absurd rfl h0
   |succ x=>simp only at a0;rw[←a0];rfl
  cases hok:SR ls[k]with
  |false=>refine brb (fun _=>?_) (fun h=>by simp at h);rw[a3 1 (by unfold JR;rw[hok];rfl) (by omega)];rfl
  |true=>
   refine brb (fun h=>by simp at h) (fun _=>⟨⟨by omega,by omega,rfl⟩,_,⟨rfl,by simp[GP]⟩,_,a5,?_⟩);have a6:=QX (s:=ls[k].name) (k:=0) a1 rfl;rw[Nat.zero_add]at a6;refine brd (fun h4=>?_) (fun h4=>?_)
   ·rw[a3 5 (by unfold JR;rw[if_pos hok,if_pos (a6.1 h4)]) (by omega)];rfl
   ·have a7:JR (ls.take k) ls[k]=0:=by unfold JR;rw[if_pos hok,if_neg (fun h=>h4 (a6.2 h))]
    rw[a7]at a0;have hw:Al .i64 ((k:Int)+1)=((k+1:Nat):Int):=by rw[xL (by omega) (by omega)];omega
    rw[hw];exact⟨⟨k+1,by omega,rfl,a0⟩,by simp only[nth,toI];omega⟩
 ·have a1:k=ls.length:=by omega
  subst a1;rw[As,Az]at a0;have a0:0=yg [] ls:=a0;rw[←a0]at hv;simp only at hv;clear h3 a0;refine⟨⟨0,by omega,rfl,rfl⟩,?_⟩;rintro n ⟨k,hk,he,a0⟩;simp only[A4,Ai,true_and,and_true]at he;subst he;refine brd (fun h3=>?_) (fun h3=>?_)
  ·have a1:k<es.length:=by omega
   have hkm:k<(es.map Er.o).length:=by rw[Ar];exact a1
   rw[An,za a1];rw[GT hkm,Ay]at a0;have hfe:=hf _ (At a1);have hen:=Ys hfe.1 (by omega);have a5:=WM (ls:=ls) (s:=es[k].layer) (by omega);have a4:=WL (s:=es[k].layer) (ls:=ls) (k:=0);have a3:∀x,x=ju ls es[k].o→x≠0→V=x:=fun x hx h0=>by
    rw[hv];rw[←hx]at a0;cases x with
    |zero=>exact absurd rfl h0
    |succ x=>simp only at a0;rw[←a0]
   have a2:es[k].o.layer=es[k].layer:=rfl;refine⟨⟨by omega,by omega,by simp[ZD,Aj]⟩,_,⟨rfl,by simp[ZD,Aj]⟩,_,a5,brd (fun h4=>?_) (fun h4=>⟨⟨by omega,by omega,by simp[ZD,Aj]⟩,_,_,_,_,_,_,_,⟨rfl,by simp[ZD,Aj]⟩,_,hen,?_⟩)⟩
   ·rw[a3 4 (by unfold ju;rw[a2,if_neg (a4.1 h4)]) (by omega)];rfl
   ·have a8:es[k].layer∈ls.map (·.name):=by
     by_cases h:es[k].layer∈ls.map (·.name)
     ·exact h
     ·exact absurd (a4.2 h) h4
    cases hok:yh es[k].o with
    |false=>refine brb (fun _=>?_) (fun h=>by simp at h);rw[a3 1 (by unfold ju;rw[a2,if_pos a8,hok];rfl) (by omega)];rfl
    |true=>
     refine brb (fun h=>by simp at h) (fun _=>?_);have a7:ju ls es[k].o=0:=by unfold ju;rw[a2,if_pos a8,if_pos hok]
     rw[a7]at a0;have hw:Al .i64 ((k:Int)+1)=((k+1:Nat):Int):=by rw[xL (by omega) (by omega)];omega
     rw[hw];exact⟨⟨k+1,by omega,rfl,a0⟩,by simp only[nth,toI];omega⟩
  ·have a1:k=es.length:=by omega
   subst a1;rw[List.drop_eq_nil_of_le (by rw[Ar];exact Nat.le_refl _)]at a0;have a0:0=kz ls (es.map Er.o):=a0;rw[hv,←a0];rfl
end Eng
end

section
open Go Go.Proofs Eng
set_option maxRecDepth 1000000
namespace Eng
section
variable (Gv:Nat→List A→List A→Prop) (Q:List A→Prop) (I0 I1 I2 I3:List D→List D→Prop) (M0 M1 M2 M3:List D→Nat)
theorem Yt (J3:List D→List D→Prop) (ls es:List (List D)):wpF CC Gv (WR (Rb ⟨[.slot 3 (.int .i64 0)],[],I0,M0⟩ ⟨[.slot 4 (.int .i64 0)],[],I1,M1⟩ ⟨[.slot 6 (.int .i64 0)],[.slot 4 (.int .i64 0)],I2,M2⟩) 3 ⟨[],[],J3,fun _=>0⟩) Tryz.f9 [.ag [.sl ls,.sl es]] Q=(
 br (toB (Ae (decide ((Ao ls.length)>25)))) (Q [A.c (Ae false)]) (br (toB (Ae (decide ((Ao es.length)>12)))) (br (toB (Ae (decide ((Ao es.length)<199)))) (Q [A.c (Ae false)]) (br (toB (Ae (decide ((Ao es.length)>203)))) (Q [A.c (Ae false)]) (J3 [] []))) (br (toB (Ae (decide ((Ao es.length)>203)))) (Q [A.c (Ae false)]) (J3 [] [])))∧(J3 [] []→I0 [] [Af .i64 0]∧∀(n:Int),I0 [] [Af .i64 n]→br (toB (Ae (decide (n<(Ao ls.length))))) ((0≤n∧n<(Ao ls.length)∧Ax (nth [] ls (Ap n))=3)∧∃s,cut (nth [] ls (Ap n)) 0 1 [D.str s]∧br (toB (Ae (decide ((Ao s.length)>60)))) (Q [A.c (Ae false)]) (I0 [] [Af .i64 (Al .i64 (n+1))]∧M0 [Af .i64 (Al .i64 (n+1))]<M0 [Af .i64 n])) (I1 [] [Af .i64 0]∧∀(n:Int),I1 [] [Af .i64 n]→br (toB (Ae (decide (n<(Ao es.length))))) ((0≤n∧n<(Ao es.length)∧Ax (nth [] es (Ap n))=7)∧∃n1 s e1 b e2 b1 e3,cut (nth [] es (Ap n)) 0 7 [Af .i64 n1,D.str s,Ah e1,Ae b,Ah e2,Ae b1,Ah e3]∧br (toB (Ae (decide ((Ao e1.length)>5)))) (Q [A.c (Ae false)]) (br (toB (Ae (decide ((Ao s.length)>60)))) (Q [A.c (Ae false)]) (∃b2,Gv 28 [A.ag [Ae b,Ah e2,Ae b1,Ah e3]] [A.c (Ae b2)]∧br (toB (Ae !b2)) (Q [A.c (Ae false)]) (I2 [Af .i64 n] [Af .i64 0]∧∀(n2:Int),I2 [Af .i64 n] [Af .i64 n2]→br (toB (Ae (decide (n2<(Ao e1.length))))) ((0≤n2∧n2<(Ao e1.length)∧Ax (nth [] e1 (Ap n2))=8)∧∃b es b3 e4,cut (nth [] e1 (Ap n2)) 0 4 [Ae b,Ah es,Ae b3,Ah e4]∧∃b4,Gv 28 [A.ag [Ae b,Ah es,Ae b3,Ah e4]] [A.c (Ae b4)]∧br (toB (Ae !b4)) (Q [A.c (Ae false)]) ((0≤n2∧n2<(Ao e1.length)∧Ax (nth [] e1 (Ap n2))=8)∧∃b es b5 e5,cut (nth [] e1 (Ap n2)) 4 4 [Ae b,Ah es,Ae b5,Ah e5]∧∃b6,Gv 28 [A.ag [Ae b,Ah es,Ae b5,Ah e5]] [A.c (Ae b6)]∧br (toB (Ae !b6)) (Q [A.c (Ae false)]) (I2 [Af .i64 n] [Af .i64 (Al .i64 (n2+1))]∧M2 [Af .i64 (Al .i64 (n2+1))]<M2 [Af .i64 n2]))) (I1 [] [Af .i64 (Al .i64 (n+1))]∧M1 [Af .i64 (Al .i64 (n+1))]<M1 [Af .i64 n]))))) (Q [A.c (Ae true)])))):=by kernel_rfl
end
end Eng
end

section
namespace Eng
open Go Go.Proofs
set_option maxRecDepth 100000
def shN (x:Rw):Bool:=decide (x.l.length≤6)&&decide (x.m.length≤6)
theorem vk {x:Rw}:shN x=true↔x.few:=by
 unfold shN Rw.few;rw[Ad,decide_eq_true_eq,decide_eq_true_eq]
theorem y6 (x:Rw):qe CC 28 [.ag x.cs] [.c (.bool (shN x))]:=by
 obtain⟨p,l,q,m⟩:=x;refine qf (anns:=an0) mixedT Tryz.func28 ?_;simp only[Aj];rw[To];simp only[Am,qh,shN];have e1:decide ((l.length:Int)≤6)=decide (l.length≤6):=decide_eq_decide.2 (by omega);have e2:decide ((m.length:Int)≤6)=decide (m.length≤6):=decide_eq_decide.2 (by omega);rw[e1,e2];cases decide (l.length≤6)<;>rfl
def smE (e:Er):Bool:=decide (e.pts.length≤5)&&(decide (e.layer.length≤60)&&(shN e.rad&&e.pts.all fun p=>shN p.1&&shN p.2))
def smR (ls:List Ly) (es:List Er):Bool:=decide (ls.length≤25)&&(decide (es.length≤12∨(199≤es.length∧es.length≤203))&&((ls.all fun l=>decide (l.name.length≤60))&&es.all smE))
set_option maxHeartbeats 1000000 in
theorem GV (ls:List Ly) (es:List Er):qe CC 9 [drA ls es] [.c (.bool (smR ls es))]:=by
 refine qf (anns:=WR (Rb
  ⟨[.slot 3 (.int .i64 0)],[],fun _ ds=>∃k:Nat,k≤ls.length∧ds=[.int .i64 (k:Int)]∧((ls.take k).all fun l=>decide (l.name.length≤60))=true,fun ds=>(ls.length-toI (nth .undef ds 0)).toNat⟩
  ⟨[.slot 4 (.int .i64 0)],[],fun _ ds=>∃k:Nat,k≤es.length∧ds=[.int .i64 (k:Int)]∧(es.take k).all smE=true,fun ds=>(es.length-toI (nth .undef ds 0)).toNat⟩
  ⟨[.slot 6 (.int .i64 0)],[.slot 4 (.int .i64 0)],fun gs ds=>∃j:Nat,j≤5∧ds=[.int .i64 (j:Int)]∧∀e,es[(toI (nth .undef gs 0)).toNat]? =some e→j≤e.pts.length∧((e.pts.take j).all fun p=>shN p.1&&shN p.2)=true,fun ds=>(100-toI (nth .undef ds 0)).toNat⟩)
  3 ⟨[],[],fun _ _=>ls.length≤25∧(es.length≤12∨(199≤es.length∧es.length≤203)),fun _=>0⟩) mixedT Tryz.func9 ?_
 unfold drA;rw[Yt];simp only[Am,Ar];have a0:¬(ls.length≤25∧(es.length≤12∨(199≤es.length∧es.length≤203)))→[A.c (Ae false)]=[A.c (Ae (smR ls es))]:=fun h=>by
  unfold smR;by_cases h1:ls.length≤25
  ·rw[decide_eq_true h1,decide_eq_false (fun h2=>h ⟨h1,h2⟩)];rfl
  ·rw[decide_eq_false h1];rfl
 refine⟨brd (fun h=>a0 (by omega)) (fun h=>brd (fun h2=>brd (fun h3=>a0 (by omega)) (fun h3=>brd (fun h4=>a0 (by omega)) (fun h4=>⟨by omega,by omega⟩))) (fun h2=>brd (fun h4=>a0 (by omega)) (fun h4=>⟨by omega,by omega⟩))),?_⟩;rintro⟨hl,he⟩;have hR:smR ls es=((ls.all fun l=>decide (l.name.length≤60))&&es.all smE):=by unfold smR;rw[decide_eq_true hl,decide_eq_true he];rfl
 rw[hR];clear a0 hR;refine⟨⟨0,by omega,rfl,rfl⟩,?_⟩;rintro n ⟨k,hk,a3,a1⟩;simp only[A4,Ai,true_and,and_true]at a3;subst a3;refine brd (fun h=>?_) (fun h=>?_)
 ·have a2:k<ls.length:=by omega
  rw[An,za a2];refine⟨⟨by omega,by omega,rfl⟩,_,⟨rfl,by simp[GP]⟩,brd (fun h2=>?_) (fun h2=>?_)⟩
  ·rw[xD a2 (decide_eq_false (by omega))];rfl
  ·have hw:Al .i64 ((k:Int)+1)=((k+1:Nat):Int):=by rw[xL (by omega) (by omega)];omega
   rw[hw];refine⟨⟨k+1,by omega,rfl,?_⟩,by simp only[nth,toI];omega⟩;rw[Aq a2,Au,a1];simp only[Ab,A2,A3,Ac];exact decide_eq_true (by omega)
 ·have a2:k=ls.length:=by omega
  subst a2;rw[As]at a1;rw[a1,Ab];clear h a1;refine⟨⟨0,by omega,rfl,rfl⟩,?_⟩;rintro n ⟨k,hk,a3,a1⟩;simp only[A4,Ai,true_and,and_true]at a3;subst a3;refine brd (fun h=>?_) (fun h=>?_)
  ·have a2:k<es.length:=by omega
   rw[An,za a2];have a0:smE es[k]=false→[A.c (Ae false)]=[A.c (Ae (es.all smE))]:=fun h=>by rw[xD a2 h]
   have a5:es[k]? =some es[k]:=List.getElem?_eq_getElem a2;generalize hE:es[k]=e at *;have a7:=y6 e.rad;refine⟨⟨by omega,by omega,by simp[ZD,Aj]⟩,_,_,_,_,_,_,_,⟨rfl,by simp[ZD,Aj]⟩,?_⟩;simp only[Ar];refine brd (fun h2=>a0 ?_) (fun h2=>brd (fun h3=>a0 ?_) (fun h3=>⟨_,a7,brb (fun h4=>a0 ?_) (fun h4=>?_)⟩))
   ·unfold smE;rw[decide_eq_false (by omega)];rfl
   ·unfold smE;rw[decide_eq_false (by omega:¬e.layer.length≤60)];simp
   ·unfold smE;simp at h4;rw[h4];simp
   have h4:shN e.rad=true:=by simpa using h4
   have hI:(toI (nth D.undef [Af .i64 (k:Int)] 0)).toNat=k:=by simp[nth,toI]
   simp only[hI,a5,Option.some.injEq,forall_eq'];refine⟨⟨0,by omega,rfl,by omega,rfl⟩,?_⟩;rintro n ⟨j,hj,a3,hjl,a6⟩;simp only[A4,Ai,true_and,and_true]at a3;subst a3;refine brd (fun h5=>?_) (fun h5=>?_)
   ·have a4:j<e.pts.length:=by omega
    have hx:=y6 e.pts[j].1;have hy:=y6 e.pts[j].2;have a8:(shN e.pts[j].1&&shN e.pts[j].2)=false→smE e=false:=fun h=>by unfold smE;rw[xD (p:=fun p=>shN p.1&&shN p.2) a4 h];simp
    rw[An,za a4];refine⟨⟨by omega,by omega,by simp[ZQ,Aj]⟩,_,_,_,_,⟨rfl,by simp[ZQ,Aj]⟩,_,hx,brb (fun h6=>a0 (a8 ?_)) (fun h6=>⟨⟨by omega,by omega,by simp[ZQ,Aj]⟩,_,_,_,_,⟨rfl,by simp[ZQ,Aj]⟩,_,hy,brb (fun h7=>a0 (a8 ?_)) (fun h7=>?_)⟩)⟩
    ·simp at h6;rw[h6];rfl
    ·simp at h7;rw[h7];simp
    ·have hw:Al .i64 ((j:Int)+1)=((j+1:Nat):Int):=by rw[xL (by omega) (by omega)];omega
     rw[hw];refine⟨⟨j+1,by omega,rfl,by omega,?_⟩,by simp only[nth,toI];omega⟩;rw[Aq a4,Au,a6];simp at h6 h7;simp[h6,h7]
   ·have:j=e.pts.length:=by omega
    subst this;rw[As]at a6;have hw:Al .i64 ((k:Int)+1)=((k+1:Nat):Int):=by rw[xL (by omega) (by omega)];omega
    rw[hw];refine⟨⟨k+1,by omega,rfl,?_⟩,by simp only[nth,toI];omega⟩;rw[Aq a2,Au,a1,hE];simp only[Ab,A2,A3,Ac];unfold smE;rw[decide_eq_true (by omega:e.pts.length≤5),decide_eq_true (by omega:e.layer.length≤60),h4,a6];rfl
  ·have:k=es.length:=by omega
   subst this;rw[As]at a1;rw[a1]
theorem GW {ls:List Ly} {es:List Er} (h:smR ls es=true):ls.length≤25∧es.length≤203∧(∀l∈ls,l.name.length≤60)∧∀e∈es,e.few∧e.pts.length≤5∧e.layer.length≤60:=by
 simp only[smR,Ad,decide_eq_true_eq,Aw]at h;obtain⟨h1,h2,h3,h4⟩:=h;refine⟨h1,by omega,h3,fun e he=>?_⟩;have:=h4 e he;simp only[smE,Ad,decide_eq_true_eq,Aw]at this;obtain⟨g1,g2,g3,g4⟩:=this;exact⟨⟨fun p hp=>⟨Ak (vk.1 (g4 p hp).1),Ak (vk.1 (g4 p hp).2)⟩,Ak (vk.1 g3)⟩,g1,g2⟩
def WN (ls:List Ly) (es:List Er):Bool:=decide (es.length≤12)&&(smR ls es&&decide (Ob ls es=0))
theorem GX (ls:List Ly) (es:List Er):qe CC 17 [drA ls es] [.c (.bool (WN ls es))]:=by
 have hs:=GV ls es;refine qf (anns:=an0) mixedT Tryz.func17 ?_;have ed:drA ls es= .ag [.sl (ls.map GP),.sl (es.map ZD)]:=rfl;rw[ed,Tp];simp only[Am,Ar];unfold WN;refine brd (fun h=>⟨_,hs,jC (fun h2=>?_) (fun h2=>?_)⟩) (fun h=>?_)
 ·obtain⟨h3,h4,h5,h6⟩:=GW h2;have hv:=GU (ls:=ls) (es:=es) (fun l hl=>by have:=h5 l hl;omega) (fun e he=>⟨(h6 e he).1,by have:=(h6 e he).2.1;omega⟩);refine⟨_,hv,?_⟩;rw[decide_eq_true (by omega:es.length≤12),h2];have:(((Ob ls es:Nat):Int)==0)=decide (Ob ls es=0):=by rw[Aa];simp
  rw[this];rfl
 ·rw[decide_eq_true (by omega:es.length≤12),h2];rfl
 ·rw[decide_eq_false (by omega:¬es.length≤12)];rfl
end Eng
end
