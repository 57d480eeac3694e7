/- Chapter 22's reference: names, layers, entities, a drawing's error. -/
import Derived.Test.YtbehlcfelmbmlaaGreatDoorDaA
import Derived.Test.YtbehlcfelmbmlaaGreatDoorCtxB
import Derived.KernelRfl
open Bool renaming eq_iff_iff→Aw, true_and→Bx, and_true→Dd
open Eng.D.int renaming injEq→F0
open Eng.Rw renaming cs→F2
open Go.IntKind renaming wrap→Gv
open Int renaming toNat_natCast→Hu, ofNat_eq_natCast→Hv
open List renaming length_map→Hx, take_succ_eq_append_getElem→Hy, getElem_mem→I0, drop_eq_getElem_cons→I1, take_length→I2, drop_length→J3, getElem_map→J4, all_append→J6, mem_cons→J7, map_cons→J9
open List.cons renaming injEq→Lm
section
namespace Eng
open Go Go.Proofs
set_option maxRecDepth 1000000
theorem vp (c:UInt8):qf CC 162 [.c (.int .u8 c.toNat)] [.c (.bool (ltr c))]:=by
 refine qg (anns:=an0) mixedT Tryz.func162 ?_;rw[M5];unfold ltr;have e1:(decide ((c.toNat:Int)≥97))=decide (97≤c.toNat):=decide_eq_decide.2 (by omega);have e2:(decide ((c.toNat:Int)≤122))=decide (c.toNat≤122):=decide_eq_decide.2 (by omega);have e3:(decide ((c.toNat:Int)≥65))=decide (65≤c.toNat):=decide_eq_decide.2 (by omega);have e4:(decide ((c.toNat:Int)≤90))=decide (c.toNat≤90):=decide_eq_decide.2 (by omega);rw[e1,e2,e3,e4];cases decide (97≤c.toNat)<;>cases decide (c.toNat≤122)<;>cases decide (65≤c.toNat)<;>cases decide (c.toNat≤90)<;>rfl
theorem Zg (c:UInt8):qf CC 257 [.c (.int .u8 c.toNat)] [.c (.bool (isD c))]:=by
 refine qg (anns:=an0) mixedT Tryz.func257 ?_;rw[PZ];unfold isD;have e1:(decide ((c.toNat:Int)≥48))=decide (48≤c.toNat):=decide_eq_decide.2 (by omega);have e2:(decide ((c.toNat:Int)≤57))=decide (c.toNat≤57):=decide_eq_decide.2 (by omega);rw[e1,e2];cases decide (48≤c.toNat)<;>cases decide (c.toNat≤57)<;>rfl
theorem u8b (c:UInt8) (n:Nat) (hn:n<256):(((c.toNat:Nat):Int)==(n:Int))=decide (c=UInt8.ofNat n):=CY c n hn
theorem HU {s:List UInt8} (hs:s.length≤1073741824):qf CC 163 [.c (.str s)] [.c (.int .i64 ((zc nmc s:Nat):Int))]:=by
 refine qg (anns:=fun _=>⟨[.slot 3 (.int .i64 0)],[],fun _ ds=>∃k:Nat,k≤s.length∧ds=[.int .i64 (k:Int)]∧zc nmc s=k+zc nmc (s.drop k),fun ds=>(s.length-toI (nth .undef ds 0)).toNat⟩) mixedT Tryz.func163 ?_;rw[B9];simp only[Hv];refine⟨⟨0,by omega,rfl,by simp⟩,?_⟩;rintro n ⟨k,hk,he,hl⟩;simp only[Lm,F0,true_and,and_true]at he;subst he;refine brd (fun h=>?_) (fun h=>?_)
 ·have hkl:k<s.length:=by omega
  rw[Hu];have a0:nmc (nth 0 s k)=true→(∃k':Nat,k'≤s.length∧[D.int .i64 (Gv .i64 ((k:Int)+1))]=[.int .i64 (k':Int)]∧zc nmc s=k'+zc nmc (s.drop k'))∧(s.length-toI (nth .undef [D.int .i64 (Gv .i64 ((k:Int)+1))] 0)).toNat<(s.length-toI (nth .undef [D.int .i64 (k:Int)] 0)).toNat:=fun hc=>by
   have hw:Gv .i64 ((k:Int)+1)=((k+1:Nat):Int):=by rw[qK (by omega) (by omega)];omega
   rw[hw];refine⟨⟨k+1,by omega,rfl,?_⟩,by simp only[nth,toI];omega⟩;rw[hl,vg hkl hc];omega
  have hb:(0:Int)≤(k:Int)∧(k:Int)<(s.length:Int):=⟨by omega,by omega⟩;have a1:ltr (nth 0 s k)=true∨isD (nth 0 s k)=true∨nth 0 s k=95∨nth 0 s k=45→nmc (nth 0 s k)=true:=fun h=>by
   unfold nmc;rcases h with h|h|h|h
   ·rw[h];rfl
   ·rw[h];simp
   ·rw[h];decide
   ·rw[h];decide
  have a3:=u8b (nth 0 s k) 95 (by omega);have a2:=u8b (nth 0 s k) 45 (by omega);refine⟨hb,_,vp _,jm (fun h1=>a0 (a1 (.inl h1))) (fun h1=>⟨hb,_,Zg _,jm (fun h2=>a0 (a1 (.inr (.inl h2)))) (fun h2=>⟨hb,brb (fun h3=>a0 (a1 (.inr (.inr (.inl ?_))))) (fun h3=>⟨hb,brb (fun h4=>a0 (a1 (.inr (.inr (.inr ?_))))) (fun h4=>?_)⟩)⟩)⟩)⟩
  ·rw[show(95:Int)=((95:Nat):Int)from rfl,a3]at h3;exact of_decide_eq_true h3
  ·rw[show(45:Int)=((45:Nat):Int)from rfl,a2]at h4;exact of_decide_eq_true h4
  ·rw[show(95:Int)=((95:Nat):Int)from rfl,a3]at h3;rw[show(45:Int)=((45:Nat):Int)from rfl,a2]at h4;have h3:¬nth 0 s k=95:=of_decide_eq_false h3;have h4:¬nth 0 s k=45:=of_decide_eq_false h4;have hno:nmc (nth 0 s k)=false:=by unfold nmc;rw[h1,h2,decide_eq_false h3,decide_eq_false h4];rfl
   rw[hl,zm (.inr hno)];simp
 ·rw[hl,zm (.inl (by omega))];simp
theorem Ty {s:List UInt8} (hs:s.length≤1073741824):qf CC 90 [.c (.str s)] [.c (.bool (kh s))]:=by
 refine qg (anns:=an0) mixedT Tryz.func90 ?_;rw[M6,KT];simp only[Hv];have hz:Int.toNat 0=0:=rfl;refine brd (fun h=>brd (fun h2=>⟨⟨by omega,by omega⟩,_,by rw[hz];exact vp _,jm (fun h3=>⟨_,HU hs,?_⟩) (fun h3=>?_)⟩) (fun h2=>?_)) (fun h=>?_)
 ·have a0:s.isEmpty=false:=by cases s with|nil=>simp at h|cons _ _=>rfl
  rw[a0,decide_eq_true (by omega:s.length≤24),h3];have:(((zc nmc s:Nat):Int)==(s.length:Int))=decide (zc nmc s=s.length):=by rw[Aw];simp only[beq_iff_eq,decide_eq_true_eq];omega
  rw[this];rfl
 ·have a0:s.isEmpty=false:=by cases s with|nil=>simp at h|cons _ _=>rfl
  rw[a0,decide_eq_true (by omega:s.length≤24),h3];rfl
 ·have a0:s.isEmpty=false:=by cases s with|nil=>simp at h|cons _ _=>rfl
  rw[a0,decide_eq_false (by omega:¬s.length≤24)];rfl
 ·have a0:s.isEmpty=true:=by cases s with|nil=>rfl|cons _ _=>simp only[List.length_cons]at h;omega
  rw[a0];rfl
def vP (l:Ly):List D:=[.str l.name,.int .i64 l.kind,.int .i64 l.depth]
theorem MT {l:Ly} (hs:l.name.length≤1073741824):qf CC 44 [.ag (vP l)] [.c (.bool (y3 l))]:=by
 have hn:=Ty hs;refine qg (anns:=an0) mixedT Tryz.func44 ?_;have er:A.ag (vP l)= .ag [.str l.name,.int .i64 l.kind,.int .i64 l.depth]:=rfl;rw[er,Ra];unfold y3;generalize kh l.name=N at *;generalize l.kind=k at *;generalize l.depth=d at *;by_cases k1:k=1
 ·subst k1;refine brb (fun h=>?_) (fun h=>?_)<;>(refine brb (fun _=>?_) (fun h=>by simp at h);refine brb (fun _=>?_) (fun h=>by simp at h);refine⟨_,hn,jm (fun hN=>?_) (fun hN=>?_)⟩<;>(congr 3;first|(simp_all;done)|(simp_all;omega)|(simp_all;rw[Aw];simp)))
 ·refine brb (fun h=>?_) (fun h=>?_)<;>(refine brb (fun h1=>by simp at h1;exact absurd h1 k1) (fun _=>?_);by_cases k3:k=3)<;>first
   |(subst k3;refine brb (fun _=>?_) (fun h=>by simp at h);refine⟨_,hn,jm (fun hN=>?_) (fun hN=>?_)⟩<;>(congr 3;first|(simp_all;done)|(simp_all;omega)|(simp_all;rw[Aw];simp)))
   |(refine brb (fun h1=>by simp at h1;exact absurd h1 k3) (fun _=>?_)
     by_cases k2:k=2
     ·subst k2;refine brb (fun _=>?_) (fun h=>by simp at h);refine brb (fun _=>?_) (fun h=>by simp at h);refine⟨_,hn,jm (fun hN=>?_) (fun hN=>?_)⟩<;>(congr 3;first|(simp_all;done)|(simp_all;omega)|(simp_all;rw[Aw];simp))
     ·refine brb (fun h1=>by simp at h1;exact absurd h1 k2) (fun _=>?_);by_cases k4:k=4
      ·subst k4;refine brb (fun _=>?_) (fun h=>by simp at h);refine⟨_,hn,jm (fun hN=>?_) (fun hN=>?_)⟩<;>(congr 3;first|(simp_all;done)|(simp_all;omega)|(simp_all;rw[Aw];simp))
      ·refine brb (fun h1=>by simp at h1;exact absurd h1 k4) (fun _=>?_);congr 3;first|(simp_all;done)|(simp_all;omega))
def MB (s:List UInt8):List Ly→Nat→Int
 |[],_=> -1
 |l::r,i=>if l.name=s then(i:Int)else MB s r (i+1)
def FK (ls:List Ly) (s:List UInt8):Int:=MB s ls 0
theorem qM {α:Type} {f:α→List D} {l:List α} {i:Nat} (h:i<l.length):nth [] (l.map f) i=f l[i]:=by
 rw[qn _ (by rw[Hx];exact h),J4]
theorem MU {s:List UInt8} {ls:List Ly} {k:Nat} (h:k<ls.length):MB s (ls.drop k) k=if ls[k].name=s then(k:Int)else MB s (ls.drop (k+1)) (k+1):=by
 rw[I1 h];rfl
theorem Wn {s:List UInt8}:∀{ls:List Ly} {k:Nat},MB s ls k<0↔s∉ls.map (·.name)
 |[],k=>by simp[MB]
 |l::r,k=>by
  rw[MB,J9,J7];by_cases h:l.name=s
  ·rw[if_pos h];simp[h]
  ·rw[if_neg h,Wn];simp[Ne.symm h]
theorem QI {s:List UInt8}:∀{ls:List Ly} {i k:Nat} (h:i<ls.length),ls[i].name=s→(MB s ls k<((k+i:Nat):Int)↔s∈(ls.take i).map (·.name))
 |[],i,k,h,_=>by simp at h
 |l::r,0,k,h,hs=>by have:l.name=s:=hs;rw[MB,if_pos this];simp
 |l::r,i+1,k,h,hs=>by
  rw[MB,List.take_succ_cons,J9,J7];by_cases hl:l.name=s
  ·rw[if_pos hl];exact⟨fun _=> .inl hl.symm,fun _=>by omega⟩
  ·rw[if_neg hl];have:=QI (k:=k+1) (ls:=r) (i:=i) (by simpa using h) (by simpa using hs);rw[show k+1+i=k+(i+1)by omega]at this;rw[this];exact⟨fun h=> .inr h,fun h=>h.resolve_left (Ne.symm hl)⟩
theorem HV {ls:List Ly} {s:List UInt8} (hl:ls.length≤1073741824):qf CC 45 [.c (.sl (ls.map vP)),.c (.str s)] [.c (.int .i64 (FK ls s))]:=by
 refine qg (anns:=fun _=>⟨[.slot 5 (.int .i64 0)],[],fun _ ds=>∃k:Nat,k≤ls.length∧ds=[.int .i64 (k:Int)]∧MB s (ls.drop k) k=FK ls s,fun ds=>(ls.length-toI (nth .undef ds 0)).toNat⟩) mixedT Tryz.func45 ?_;rw[BA];simp only[Hv,Hx];refine⟨⟨0,by omega,rfl,rfl⟩,?_⟩;rintro n ⟨k,hk,he,hf⟩;simp only[Lm,F0,true_and,and_true]at he;subst he;refine brd (fun h=>?_) (fun h=>?_)
 ·have a0:k<ls.length:=by omega
  rw[Hu,qM a0];rw[MU a0]at hf;refine⟨⟨by omega,by omega,rfl⟩,_,⟨rfl,by simp[vP]⟩,brb (fun h2=>?_) (fun h2=>?_)⟩
  ·have h2:ls[k].name=s:=by simpa using h2
   rw[if_pos h2]at hf;rw[hf]
  ·have h2:¬ls[k].name=s:=by simpa using h2
   rw[if_neg h2]at hf;have hw:Gv .i64 ((k:Int)+1)=((k+1:Nat):Int):=by rw[qK (by omega) (by omega)];omega
   rw[hw];exact⟨⟨k+1,by omega,rfl,hf⟩,by simp only[nth,toI];omega⟩
 ·have:k=ls.length:=by omega
  subst this;rw[J3]at hf;rw[←hf];rfl
structure Er where
 kind:Int
 layer:List UInt8
 pts:List (Rw×Rw)
 rad:Rw
def Xq (p:Rw×Rw):List D:=p.1.cs++p.2.cs
def Zh (e:Er):List D:=[.int .i64 e.kind,.str e.layer,.sl (e.pts.map Xq)]++e.rad.cs
def Er.o (e:Er):EnO:=⟨e.kind,e.layer,e.pts.map fun p=>(vr p.1,vr p.2),vr e.rad⟩
def Er.few (e:Er):Prop:=(∀p∈e.pts,p.1.rd∧p.2.rd)∧e.rad.rd
def Tz (p:Rw×Rw):Bool:=xU (vr p.1)&&xU (vr p.2)
theorem Er.ok_eq (e:Er):vT e.o=(decide (1≤e.kind∧e.kind≤3)&&(decide (e.pts.length=wt e.kind)&&(e.pts.all Tz&&(decide (e.kind≠3)||(xU (vr e.rad)&&A3 (vr e.rad)))))):=by
 unfold vT Er.o;simp only[Hx,List.all_map];rfl
theorem Kg (k:Int):(1≤k∧k≤3∧0<wt k∧wt k≤3∧(wt k=1↔k=3))∨(¬(1≤k∧k≤3)∧wt k=0):=by
 unfold wt;by_cases h1:k=1
 ·subst h1;simp
 ·by_cases h2:k=2
  ·subst h2;simp
  ·by_cases h3:k=3
   ·subst h3;simp
   ·rw[if_neg h1,if_neg h2,if_neg h3];exact .inr ⟨by omega,rfl⟩
theorem xz {α:Type} {p:α→Bool} {l:List α} {k:Nat} (hk:k<l.length) (h:p l[k]=false):l.all p=false:=by
 rw[←Bool.not_eq_true];intro h2;have:=List.all_eq_true.1 h2 l[k] (I0 hk);rw[h]at this;simp at this
theorem MV (x:Rat):0<x.num↔0<x:=by
 constructor
 ·intro h;have h1:0≤x:=Rat.num_nonneg.1 (by omega);have h2:x≠0:=fun h0=>by rw[h0]at h;exact absurd h (by decide)
  grind
 ·exact CR
set_option maxHeartbeats 1000000 in
theorem T0 {e:Er} (hf:e.few) (hl:e.pts.length≤1073741824):qf CC 46 [.ag (Zh e)] [.c (.bool (vT e.o))]:=by
 have hE:=e.ok_eq;have a2:=fun(p:Rw×Rw) (hp:p∈e.pts)=>And.intro (Gz (hf.1 p hp).1) (Gz (hf.1 p hp).2)
 have a4:=Gz hf.2;refine qg (anns:=wB (fun _=>⟨[.slot 4 (.int .i64 0)],[],fun _ ds=>∃j:Nat,j≤e.pts.length∧ds=[.int .i64 (j:Int)]∧(e.pts.take j).all Tz=true,fun ds=>(e.pts.length-toI (nth .undef ds 0)).toNat⟩)
  9 ⟨[.slot 3 (.int .i64 0)],[],fun _ ds=>ds=[.int .i64 ((wt e.kind:Nat):Int)],fun _=>0⟩) mixedT Tryz.func46 ?_
 have er:A.ag (Zh e)= .ag [.int .i64 e.kind,.str e.layer,.sl (e.pts.map Xq),.bool e.rad.p,.sl (raw e.rad.l),.bool e.rad.q,.sl (raw e.rad.m)]:=rfl;rw[er,M7];have a5:A.ag e.rad.cs= .ag [.bool e.rad.p,.sl (raw e.rad.l),.bool e.rad.q,.sl (raw e.rad.m)]:=rfl;rw[a5]at a4;simp only[Hv,Hx];generalize vT e.o=R at *;refine⟨?_,?_⟩
 ·by_cases h1:e.kind=1
  ·rw[h1];refine brb (fun _=>rfl) (fun h=>by simp at h)
  ·refine brb (fun h=>by simp at h;exact absurd h h1) (fun _=>?_);by_cases h2:e.kind=2
   ·rw[h2];refine brb (fun _=>rfl) (fun h=>by simp at h)
   ·refine brb (fun h=>by simp at h;exact absurd h h2) (fun _=>?_);by_cases h3:e.kind=3
    ·rw[h3];refine brb (fun _=>rfl) (fun h=>by simp at h)
    ·refine brb (fun h=>by simp at h;exact absurd h h3) (fun _=>?_);unfold wt;rw[if_neg h1,if_neg h2,if_neg h3];rfl
 intro n he;simp only[Lm,F0,true_and,and_true]at he;subst he;have hc:=Kg e.kind;refine brb (fun h=>?_) (fun h=>brb (fun h2=>?_) (fun h2=>brb (fun h3=>?_) (fun h3=>?_)))
 ·have h:wt e.kind=0:=by simp at h;omega
  have hk:¬(1≤e.kind∧e.kind≤3):=hc.elim (fun h'=>by omega) (fun h'=>by exact h'.1);rw[hE,decide_eq_false hk];rfl
 ·have h2:¬e.pts.length=wt e.kind:=by simp at h2;omega
  rw[hE,decide_eq_false h2];simp
 ·have h2:e.pts.length=wt e.kind:=by simp at h2;omega
  have h3:wt e.kind=1:=by simp at h3;omega
  have hk:1≤e.kind∧e.kind≤3:=hc.elim (fun h'=>by exact⟨h'.1,h'.2.1⟩) (fun h'=>by omega);have a6:e.kind=3:=hc.elim (fun h'=>by exact h'.2.2.2.2.1 h3) (fun h'=>by omega);rw[decide_eq_true hk,decide_eq_true h2,a6]at hE;simp only[Bx,ne_eq,not_true_eq_false,decide_false,Bool.false_or]at hE;refine⟨_,a4,?_⟩;cases hr:xU (vr e.rad)with
  |false=>refine brb (fun _=>?_) (fun h=>by simp at h);rw[hE,hr];simp
  |true=>
   refine brb (fun h=>by simp at h) (fun _=>?_);obtain⟨ha,_⟩:=jP hr;have a8:e.rad.ok=true:=by
    unfold vr at ha;by_cases h:e.rad.ok=true
    ·exact h
    ·rw[if_neg h]at ha;simp at ha
   have hv:vr e.rad=some e.rad.val:=by unfold vr;rw[if_pos a8]
   have hcs:=Rw.val_cs a8;have a7:=Td e.rad.val;have hC:xk e.rad.val=A.ag [.bool e.rad.p,.sl (raw e.rad.l),.bool e.rad.q,.sl (raw e.rad.m)]:=by unfold xk;rw[←hcs];rfl
   rw[hC]at a7;have a3:A3 (vr e.rad)=decide (sgn e.rad.val.num=1):=by rw[hv];show decide (0<e.rad.val)=_;rw[decide_eq_decide,Gw];exact(MV _).symm
   rw[hr,a3,Bx]at hE;refine⟨_,a7,brb (fun h=>?_) (fun h=>?_)⟩
   ·have h:¬sgn e.rad.val.num=1:=by simpa using h
    rw[hE,decide_eq_false h];simp
   ·have h:sgn e.rad.val.num=1:=by simpa using h
    rw[decide_eq_true h,Dd]at hE;clear h a7 a3 hr;refine⟨⟨0,by omega,rfl,by simp⟩,?_⟩;rintro n ⟨j,hj,he,a0⟩;simp only[Lm,F0,true_and,and_true]at he;subst he;refine brd (fun h=>?_) (fun h=>?_)
    ·have a1:j<e.pts.length:=by omega
     obtain⟨hx,hy⟩:=a2 e.pts[j] (I0 a1);rw[Hu,qM a1];refine⟨⟨by omega,by omega,by simp[Xq,F2]⟩,_,_,_,_,⟨rfl,by simp[Xq,F2]⟩,_,hx,brb (fun h4=>?_) (fun h4=>⟨⟨by omega,by omega,by simp[Xq,F2]⟩,_,_,_,_,⟨rfl,by simp[Xq,F2]⟩,_,hy,brb (fun h5=>?_) (fun h5=>?_)⟩)⟩
     ·rw[hE,xz a1 (by unfold Tz;simp at h4;rw[h4];rfl)]
     ·rw[hE,xz a1 (by unfold Tz;simp at h5;rw[h5];simp)]
     ·have hw:Gv .i64 ((j:Int)+1)=((j+1:Nat):Int):=by rw[qK (by omega) (by omega)];omega
      rw[hw];refine⟨⟨j+1,by omega,rfl,?_⟩,by simp only[nth,toI];omega⟩;rw[Hy a1,J6,a0];simp at h4 h5;simp[Tz,h4,h5]
    ·have:j=e.pts.length:=by omega
     subst this;rw[I2]at a0;rw[hE,a0]
 ·have h2:e.pts.length=wt e.kind:=by simp at h2;omega
  have h3:wt e.kind≠1:=by simp at h3;omega
  have h0:wt e.kind≠0:=by simp at h;omega
  have hk:1≤e.kind∧e.kind≤3:=hc.elim (fun h'=>by exact⟨h'.1,h'.2.1⟩) (fun h'=>by exact absurd h'.2 h0);have a6:e.kind≠3:=hc.elim (fun h'=>by exact fun h=>h3 (h'.2.2.2.2.2 h)) (fun h'=>by exact absurd h'.2 h0);rw[decide_eq_true hk,decide_eq_true h2,decide_eq_true a6]at hE;simp only[Bx,Bool.true_or,Dd]at hE;clear h;refine⟨⟨0,by omega,rfl,by simp⟩,?_⟩;rintro n ⟨j,hj,he,a0⟩;simp only[Lm,F0,true_and,and_true]at he;subst he;refine brd (fun h=>?_) (fun h=>?_)
  ·have a1:j<e.pts.length:=by omega
   obtain⟨hx,hy⟩:=a2 e.pts[j] (I0 a1);rw[Hu,qM a1];refine⟨⟨by omega,by omega,by simp[Xq,F2]⟩,_,_,_,_,⟨rfl,by simp[Xq,F2]⟩,_,hx,brb (fun h4=>?_) (fun h4=>⟨⟨by omega,by omega,by simp[Xq,F2]⟩,_,_,_,_,⟨rfl,by simp[Xq,F2]⟩,_,hy,brb (fun h5=>?_) (fun h5=>?_)⟩)⟩
   ·rw[hE,xz a1 (by unfold Tz;simp at h4;rw[h4];rfl)]
   ·rw[hE,xz a1 (by unfold Tz;simp at h5;rw[h5];simp)]
   ·have hw:Gv .i64 ((j:Int)+1)=((j+1:Nat):Int):=by rw[qK (by omega) (by omega)];omega
    rw[hw];refine⟨⟨j+1,by omega,rfl,?_⟩,by simp only[nth,toI];omega⟩;rw[Hy a1,J6,a0];simp at h4 h5;simp[Tz,h4,h5]
  ·have:j=e.pts.length:=by omega
   subst this;rw[I2]at a0;rw[hE,a0]
def drA (ls:List Ly) (es:List Er):A:= .ag [.sl (ls.map vP),.sl (es.map Zh)]
def JK (ls:List Ly) (es:List Er):Nat:=wx ls (es.map Er.o)
theorem HW {ls:List Ly} {k:Nat} (h:k<ls.length):xR (ls.take k) (ls.drop k)=match xV (ls.take k) ls[k]with
 |0=>xR (ls.take (k+1)) (ls.drop (k+1))
 |e=>e:=by
 rw[I1 h,xR,←Hy h];generalize xV (ls.take k) ls[k]=x;cases x<;>rfl
theorem V9 {ls:List Ly} {es:List EnO} {k:Nat} (h:k<es.length):z7 ls (es.drop k)=match xD ls es[k]with
 |0=>z7 ls (es.drop (k+1))
 |e=>e:=by
 rw[I1 h,z7];generalize xD ls es[k]=x;cases x<;>rfl
theorem yD {ls:List Ly} {es:List Er} (hn:∀l∈ls,l.name.length≤1000) (hf:∀e∈es,e.few∧e.pts.length≤1000):qf CC 16 [drA ls es] [.c (.int .i64 ((JK ls es:Nat):Int))]:=by
 refine qg (anns:=JW
  ⟨[.slot 3 (.int .i64 0)],[],fun _ ds=>∃k:Nat,k≤ls.length∧ds=[.int .i64 (k:Int)]∧xR (ls.take k) (ls.drop k)=xR [] ls,fun ds=>(ls.length-toI (nth .undef ds 0)).toNat⟩
  ⟨[.slot 4 (.int .i64 0)],[],fun _ ds=>∃k:Nat,k≤es.length∧ds=[.int .i64 (k:Int)]∧z7 ls ((es.map Er.o).drop k)=z7 ls (es.map Er.o),fun ds=>(es.length-toI (nth .undef ds 0)).toNat⟩) mixedT Tryz.func16 ?_
 unfold drA;rw[Rb];simp only[Hv,Hx];have hv:JK ls es=if 20<ls.length∨200<es.length then 3 else match xR [] ls with|0=>z7 ls (es.map Er.o)|e=>e:=by unfold JK wx;rw[Hx];generalize xR [] ls=x;cases x<;>rfl
 refine brd (fun h=>?_) (fun h=>brd (fun h2=>?_) (fun h2=>?_))
 ·rw[hv,if_pos (.inl (by omega))];rfl
 ·rw[hv,if_pos (.inr (by omega))];rfl
 rw[if_neg (by omega)]at hv;generalize JK ls es=V at *;refine⟨⟨0,by omega,rfl,rfl⟩,?_⟩;rintro n ⟨k,hk,he,a0⟩;simp only[Lm,F0,true_and,and_true]at he;subst he;refine brd (fun h3=>?_) (fun h3=>?_)
 ·have a1:k<ls.length:=by omega
  rw[Hu,qM a1];rw[HW a1]at a0;have hly:=MT (l:=ls[k]) (by have:=hn _ (I0 a1);omega);have a5:=HV (ls:=ls) (s:=ls[k].name) (by omega);refine⟨⟨by omega,by omega,rfl⟩,_,_,_,⟨rfl,by simp[vP]⟩,_,hly,?_⟩;have a3:∀x,x=xV (ls.take k) ls[k]→x≠0→V=x:=fun x hx h0=>by
   rw[hv];rw[←hx]at a0;cases x with
   |zero=>exact absurd rfl h0
   |succ x=>simp only at a0;rw[←a0];rfl
  cases hok:y3 ls[k]with
  |false=>refine brb (fun _=>?_) (fun h=>by simp at h);rw[a3 1 (by unfold xV;rw[hok];rfl) (by omega)];rfl
  |true=>
   refine brb (fun h=>by simp at h) (fun _=>⟨⟨by omega,by omega,rfl⟩,_,⟨rfl,by simp[vP]⟩,_,a5,?_⟩);have a6:=QI (s:=ls[k].name) (k:=0) a1 rfl;rw[Nat.zero_add]at a6;refine brd (fun h4=>?_) (fun h4=>?_)
   ·rw[a3 5 (by unfold xV;rw[if_pos hok,if_pos (a6.1 h4)]) (by omega)];rfl
   ·have a7:xV (ls.take k) ls[k]=0:=by unfold xV;rw[if_pos hok,if_neg (fun h=>h4 (a6.2 h))]
    rw[a7]at a0;have hw:Gv .i64 ((k:Int)+1)=((k+1:Nat):Int):=by rw[qK (by omega) (by omega)];omega
    rw[hw];exact⟨⟨k+1,by omega,rfl,a0⟩,by simp only[nth,toI];omega⟩
 ·have a1:k=ls.length:=by omega
  subst a1;rw[I2,J3]at a0;have a0:0=xR [] ls:=a0;rw[←a0]at hv;simp only at hv;clear h3 a0;refine⟨⟨0,by omega,rfl,rfl⟩,?_⟩;rintro n ⟨k,hk,he,a0⟩;simp only[Lm,F0,true_and,and_true]at he;subst he;refine brd (fun h3=>?_) (fun h3=>?_)
  ·have a1:k<es.length:=by omega
   have hkm:k<(es.map Er.o).length:=by rw[Hx];exact a1
   rw[Hu,qM a1];rw[V9 hkm,J4]at a0;have hfe:=hf _ (I0 a1);have hen:=T0 hfe.1 (by omega);have a5:=HV (ls:=ls) (s:=es[k].layer) (by omega);have a4:=Wn (s:=es[k].layer) (ls:=ls) (k:=0);have a3:∀x,x=xD ls es[k].o→x≠0→V=x:=fun x hx h0=>by
    rw[hv];rw[←hx]at a0;cases x with
    |zero=>exact absurd rfl h0
    |succ x=>simp only at a0;rw[←a0]
   have a2:es[k].o.layer=es[k].layer:=rfl;refine⟨⟨by omega,by omega,by simp[Zh,F2]⟩,_,⟨rfl,by simp[Zh,F2]⟩,_,a5,brd (fun h4=>?_) (fun h4=>⟨⟨by omega,by omega,by simp[Zh,F2]⟩,_,_,_,_,_,_,_,⟨rfl,by simp[Zh,F2]⟩,_,hen,?_⟩)⟩
   ·rw[a3 4 (by unfold xD;rw[a2,if_neg (a4.1 h4)]) (by omega)];rfl
   ·have a8:es[k].layer∈ls.map (·.name):=by
     by_cases h:es[k].layer∈ls.map (·.name)
     ·exact h
     ·exact absurd (a4.2 h) h4
    cases hok:vT es[k].o with
    |false=>refine brb (fun _=>?_) (fun h=>by simp at h);rw[a3 1 (by unfold xD;rw[a2,if_pos a8,hok];rfl) (by omega)];rfl
    |true=>
     refine brb (fun h=>by simp at h) (fun _=>?_);have a7:xD ls es[k].o=0:=by unfold xD;rw[a2,if_pos a8,if_pos hok]
     rw[a7]at a0;have hw:Gv .i64 ((k:Int)+1)=((k+1:Nat):Int):=by rw[qK (by omega) (by omega)];omega
     rw[hw];exact⟨⟨k+1,by omega,rfl,a0⟩,by simp only[nth,toI];omega⟩
  ·have a1:k=es.length:=by omega
   subst a1;rw[List.drop_eq_nil_of_le (by rw[Hx];exact Nat.le_refl _)]at a0;have a0:0=z7 ls (es.map Er.o):=a0;rw[hv,←a0];rfl
end Eng
end

section
open Go Go.Proofs Eng
set_option maxRecDepth 1000000
namespace Eng
end Eng
end

section
namespace Eng
open Go Go.Proofs
set_option maxRecDepth 100000
theorem MX (l:Ly) (s:List UInt8):qf CC 116 [.ag (vP l),.c (.ptr [.str s])] [.c (.bool (l.name==s))]:=by
 refine qg (anns:=an0) mixedT Tryz.func116 ?_;unfold vP;rw[Rd];exact⟨_,⟨rfl,by simp⟩,rfl⟩
theorem R3 {ls:List Ly} {s:List UInt8} (hl:ls.length≤1073741824):qf CC 115 [.c (.sl (ls.map vP)),.c (.clo 116 [.ptr [.str s]])] [.c (.int .i64 (FK ls s))]:=by
 refine qg (anns:=fun _=>⟨[.slot 8 (.int .i64 0)],[],fun _ ds=>∃k:Nat,k≤ls.length∧ds=[.int .i64 (k:Int)]∧MB s (ls.drop k) k=FK ls s,fun ds=>(ls.length-toI (nth .undef ds 0)).toNat⟩) mixedT Tryz.func115 ?_;rw[BB];simp only[Hv,Hx];refine⟨⟨0,by omega,rfl,rfl⟩,?_⟩;rintro n ⟨k,hk,he,hf⟩;simp only[Lm,F0,true_and,and_true]at he;subst he;refine brd (fun h=>?_) (fun h=>?_)
 ·have a0:k<ls.length:=by omega
  rw[Hu,qM a0];rw[MU a0]at hf;refine⟨⟨by omega,by omega,rfl⟩,_,_,_,⟨rfl,by simp[vP]⟩,_,MX ls[k] s,jm (fun h2=>?_) (fun h2=>?_)⟩
  ·have h2:ls[k].name=s:=by simpa using h2
   rw[if_pos h2]at hf;rw[hf]
  ·have h2:¬ls[k].name=s:=by simpa using h2
   rw[if_neg h2]at hf;have hw:Gv .i64 ((k:Int)+1)=((k+1:Nat):Int):=by rw[qK (by omega) (by omega)];omega
   rw[hw];exact⟨⟨k+1,by omega,rfl,hf⟩,by simp only[nth,toI];omega⟩
 ·have:k=ls.length:=by omega
  subst this;rw[J3]at hf;rw[←hf];rfl
theorem HX {ls:List Ly} {s:List UInt8} (hl:ls.length≤1073741824):qf CC 61 [.c (.sl (ls.map vP)),.c (.str s)] [.c (.int .i64 (FK ls s))]:=by
 refine qg (anns:=an0) mixedT Tryz.func61 ?_;rw[BC];exact⟨_,R3 hl,rfl⟩
end Eng
end
