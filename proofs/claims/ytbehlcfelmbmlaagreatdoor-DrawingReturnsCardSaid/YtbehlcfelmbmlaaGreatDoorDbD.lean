/- The verification conditions of functions, printed by a program (vcgen.py) and checked by the kernel. -/
import Derived.Test.YtbehlcfelmbmlaaGreatDoorCtxB
import Derived.Test.YtbehlcfelmbmlaaGreatDoorTxA
import Derived.Test.YtbehlcfelmbmlaaGreatDoorDbC
import Derived.Test.YtbehlcfelmbmlaaGreatDoorLexA
import Derived.Test.YtbehlcfelmbmlaaGreatDoorDbB
import Derived.KernelRfl
open Bool renaming and_eq_true→Aw, or_eq_true→Bx
open Eng.D renaming int→Dd, str→F0, sl→F2, bool→Hu
open Go.IntKind renaming wrap→Hv, i64→Hx
open Int renaming toNat_natCast→Hy, toNat→J3, ofNat→J4
open List renaming length_append→J6, length_cons→J7, length_nil→J9, length→Lm, flatMap_cons→Lr, flatMap_append→Ls, append_assoc→Lv, map_cons→No, getElem?_eq_getElem→Pl, getElem_mem→P1, mem_of_mem_take→Ts, take_length→T1, length_take→U0, flatMap_map→U3, length_map→V1, append_nil→W0, mem_map→W1, map_nil→W2
open List.cons renaming injEq→ae
section
namespace Eng
open Go Go.Proofs
set_option maxRecDepth 1000000
section
variable (Gv:Nat→List A→List A→Prop) (Q:List A→Prop) (I0 I1 I2 I3:List D→List D→Prop) (M0 M1 M2 M3:List D→Nat)
theorem Kn (ls es:List (List D)):wpF CC Gv (Gl ⟨[.slot 20 (.int .i64 0),.bld 5 76 88],[],I0,M0⟩ ⟨[.slot 44 (.int .i64 0),.bld 5 76 88],[],I1,M1⟩ ⟨[.slot 61 (.int .i64 0),.bld 5 76 48],[.slot 44 (.int .i64 0)],I2,M2⟩) Tryz.f10 [.ag [.sl ls,.sl es]] Q=(
 ∃n,Gv 12 [A.ag [F2 ls,F2 es]] [A.c (Dd .i64 n)]∧br (toB (Hu (n !=0))) (Q [A.c (F0 []),A.c (Dd .i64 n)]) (I0 [] [Dd .i64 0,F2 []]∧∀(n:Int) (e1:List (List D)),I0 [] [Dd .i64 n,F2 e1]→br (toB (Hu (decide (n<(J4 ls.length))))) ((0≤n∧n<(J4 ls.length)∧Lm (nth [] ls (J3 n))=3)∧∃s n1 n2,cut (nth [] ls (J3 n)) 0 3 [F0 s,Dd .i64 n1,Dd .i64 n2]∧room (6+s.length)∧room (Lm (108::97::121::101::114::32::s)+1)∧(0≤n1∧n1<5)∧∃s1,cut (nth [] [[F0 []],[F0 [112,111,99,107,101,116]],[F0 [105,115,108,97,110,100]],[F0 [104,111,108,101]],[F0 [112,114,111,102,105,108,101]]] (J3 n1)) 0 1 [F0 s1]∧room (Lm (108::97::121::101::114::32::((([]++s))++[32]))+s1.length)∧room (Lm (108::97::121::101::114::32::((((([]++s))++([32])))++s1))+1)∧∃s2,Gv 30 [A.c (Dd .i64 n2)] [A.c (F0 s2)]∧room (Lm (108::97::121::101::114::32::((((((([]++s))++([32])))++s1))++[32]))+s2.length)∧room (Lm (108::97::121::101::114::32::((((((((([]++s))++([32])))++s1))++([32])))++s2))+1)∧room (e1.length+Lm ([Dd .u8 108]::[Dd .u8 97]::[Dd .u8 121]::[Dd .u8 101]::[Dd .u8 114]::[Dd .u8 32]::(qp (((((((((((([]++s))++([32])))++s1))++([32])))++s2))++([10]))))))∧I0 [] [Dd .i64 (Hv .i64 (n+1)),F2 (e1++[Dd .u8 108]::[Dd .u8 97]::[Dd .u8 121]::[Dd .u8 101]::[Dd .u8 114]::[Dd .u8 32]::(qp (((((((((((([]++s))++([32])))++s1))++([32])))++s2))++([10])))))]∧M0 [Dd .i64 (Hv .i64 (n+1)),F2 (e1++[Dd .u8 108]::[Dd .u8 97]::[Dd .u8 121]::[Dd .u8 101]::[Dd .u8 114]::[Dd .u8 32]::(qp (((((((((((([]++s))++([32])))++s1))++([32])))++s2))++([10])))))]<M0 [Dd .i64 n,F2 e1]) (I1 [] [Dd .i64 0,F2 e1]∧∀(n:Int) (e2:List (List D)),I1 [] [Dd .i64 n,F2 e2]→br (toB (Hu (decide (n<(J4 es.length))))) ((0≤n∧n<(J4 es.length)∧Lm (nth [] es (J3 n))=7)∧∃n1 s e3 b e4 b1 e5,cut (nth [] es (J3 n)) 0 7 [Dd .i64 n1,F0 s,F2 e3,Hu b,F2 e4,Hu b1,F2 e5]∧(0≤n1∧n1<4)∧∃s1,cut (nth [] [[F0 [],Dd .i64 0],[F0 [108,105,110,101],Dd .i64 2],[F0 [97,114,99],Dd .i64 3],[F0 [99,105,114,99,108,101],Dd .i64 1]] (J3 n1)) 0 1 [F0 s1]∧room (s1.length+1)∧room (Lm (s1++[32])+s.length)∧room (e2.length+Lm (qp (s1++[32]++s)))∧I2 [Dd .i64 n] [Dd .i64 0,F2 (e2++qp (s1++[32]++s))]∧∀(n2:Int) (es:List (List D)),I2 [Dd .i64 n] [Dd .i64 n2,F2 es]→br (toB (Hu (decide (n2<(J4 e3.length))))) ((0≤n2∧n2<(J4 e3.length)∧Lm (nth [] e3 (J3 n2))=8)∧∃b e6 b2 e7 b3 e8 b4 e9,cut (nth [] e3 (J3 n2)) 0 8 [Hu b,F2 e6,Hu b2,F2 e7,Hu b3,F2 e8,Hu b4,F2 e9]∧∃s,Gv 31 [A.ag [Hu b,F2 e6,Hu b2,F2 e7]] [A.c (F0 s)]∧room (1+s.length)∧room (Lm (32::s)+1)∧∃s2,Gv 31 [A.ag [Hu b3,F2 e8,Hu b4,F2 e9]] [A.c (F0 s2)]∧room (Lm (32::((([]++s))++[32]))+s2.length)∧room (es.length+Lm ([Dd .u8 32]::(qp (((((([]++s))++([32])))++s2)))))∧I2 [Dd .i64 n] [Dd .i64 (Hv .i64 (n2+1)),F2 (es++[Dd .u8 32]::(qp (((((([]++s))++([32])))++s2))))]∧M2 [Dd .i64 (Hv .i64 (n2+1)),F2 (es++[Dd .u8 32]::(qp (((((([]++s))++([32])))++s2))))]<M2 [Dd .i64 n2,F2 es]) (br (toB (Hu (n1==3))) (∃s,Gv 31 [A.ag [Hu b,F2 e4,Hu b1,F2 e5]] [A.c (F0 s)]∧room (1+s.length)∧room (es.length+Lm ([Dd .u8 32]::(qp (([]++s)))))∧room (Lm (es++[Dd .u8 32]::(qp (([]++s))))+1)∧I1 [] [Dd .i64 (Hv .i64 (n+1)),F2 (es++[Dd .u8 32]::(qp (([]++s)))++[[Dd .u8 10]])]∧M1 [Dd .i64 (Hv .i64 (n+1)),F2 (es++[Dd .u8 32]::(qp (([]++s)))++[[Dd .u8 10]])]<M1 [Dd .i64 n,F2 e2]) (room (es.length+1)∧I1 [] [Dd .i64 (Hv .i64 (n+1)),F2 (es++[[Dd .u8 10]])]∧M1 [Dd .i64 (Hv .i64 (n+1)),F2 (es++[[Dd .u8 10]])]<M1 [Dd .i64 n,F2 e2]))) ((e2≠[]∧jK e2=true)∧Q [A.c (F0 (zH e2)),A.c (Dd .i64 0)])))):=by kernel_rfl
end
end Eng
end

section
namespace Eng
open Go Go.Proofs
set_option maxRecDepth 100000
def JL (a:Rat):List UInt8:=32::X3 (a/1000)
def Dn (p:V2):List UInt8:=JL p.x++JL p.y
theorem QN (c:UInt8) (a:List UInt8):∀r:List (List UInt8),wE c (a::r)=a++r.flatMap fun w=>c::w
 |[]=>by simp[wE]
 |b::r=>by rw[wE,QN c b r];simp
theorem G8 (l:Ly):kF (zK l)++[10]=[108,97,121,101,114,32]++l.name++[32]++JZ l.kind++[32]++mm l.depth++[10]:=by
 unfold kF zK;simp only[No,W2,QN];simp[xB]
theorem Do (e:En):kF (xQ e)=X4 e.kind++[32]++e.layer++(X5 e).flatMap JL:=by
 unfold kF xQ;simp only[No,QN,Lr];have:∀l:List Rat,((l.map Eu).map (·.2)).flatMap (fun w=>32::w)=l.flatMap JL:=by
  intro l
  induction l with
  |nil=>rfl
  |cons a l ih=>simp only[No,Lr,ih];rfl
 rw[this];simp
theorem RJ (e:En):(X5 e).flatMap JL=e.pts.flatMap Dn++(if e.kind=3 then JL e.rad else []):=by
 unfold X5;rw[Ls];congr 1
 ·generalize e.pts=ps
  induction ps with
  |nil=>rfl
  |cons p ps ih=>simp only[Lr,Ls,ih];simp[Dn]
 ·split<;>simp
end Eng
end

section
namespace Eng
open Go Go.Proofs
set_option maxRecDepth 100000
theorem jB {x:Rw} (hf:x.rd) (h:xU (vr x)=true):A.ag x.cs=xk x.val∧Sz 54 x.val∧(X3 (x.val/1000)).length≤37:=by
 unfold vr at h;by_cases hx:x.ok=true
 ·rw[if_pos hx]at h;have h1:=Rw.val_cs hx;have hb:decide (-10000000≤x.val∧x.val≤10000000)=true:=by have h':vd x.val=true:=h;unfold vd at h';simp only[Aw]at h';exact h'.1
  have hb:=of_decide_eq_true hb;exact⟨by rw[h1];rfl,Rw.rd_sz hf hx hb.1 hb.2,YP h⟩
 ·rw[if_neg hx]at h;simp[xU]at h
def lnL (l:Ly):List UInt8:=kF (zK l)++[10]
def hdE (e:Er):List UInt8:=X4 e.kind++[32]++e.layer
def ptW (p:Rw×Rw):List UInt8:=JL p.1.val++JL p.2.val
def rdW (e:Er):List UInt8:=if e.kind=3 then JL e.rad.val else []
def lnE (e:Er):List UInt8:=hdE e++e.pts.flatMap ptW++rdW e++[10]
theorem xx {α:Type} {f:α→List UInt8} {n:Nat}:∀{l:List α},(∀a∈l,(f a).length≤n)→(l.flatMap f).length≤n*l.length
 |[],_=>by simp
 |a::l,h=>by
  have h1:=h a (by simp);have h2:=xx (f:=f) (n:=n) (l:=l) fun b hb=>h b (by simp[hb])
  rw[Lr,J6,J7,Nat.mul_succ];omega
theorem je {α:Type} {f:α→List UInt8} {l:List α} {k:Nat} (h:k<l.length):(l.take (k+1)).flatMap f=(l.take k).flatMap f++f l[k]:=by
 rw[List.take_succ_eq_append_getElem h,Ls];simp
theorem Wt {l:Ly} (h:y3 l=true):(lnL l).length≤100:=by
 unfold lnL;rw[G8];have hk:=Qs l.kind;unfold y3 at h;simp only[Aw,Bx,decide_eq_true_eq]at h;have hn:=kI h.1;have hd:l.depth.natAbs<10^23:=by omega
 have hm:=Rm hd;simp only[J6,J7,J9];omega
theorem ktab {k:Int} (h:1≤k∧k≤4):nth [] [[F0 []],[F0 [(112:UInt8),(111:UInt8),(99:UInt8),(107:UInt8),(101:UInt8),(116:UInt8)]],
 [F0 [(105:UInt8),(115:UInt8),(108:UInt8),(97:UInt8),(110:UInt8),(100:UInt8)]],
 [F0 [(104:UInt8),(111:UInt8),(108:UInt8),(101:UInt8)]],
 [F0 [(112:UInt8),(114:UInt8),(111:UInt8),(102:UInt8),(105:UInt8),(108:UInt8),(101:UInt8)]]] (J3 k)=[F0 (JZ k)]:=by
 have:k=1∨k=2∨k=3∨k=4:=by omega
 rcases this with rfl|rfl|rfl|rfl<;>rfl
theorem stab {k:Int} (h:1≤k∧k≤3):∃n,nth [] [[F0 [],Dd Hx (0:Int)],[F0 [(108:UInt8),(105:UInt8),(110:UInt8),(101:UInt8)],Dd Hx (2:Int)],
 [F0 [(97:UInt8),(114:UInt8),(99:UInt8)],Dd Hx (3:Int)],
 [F0 [(99:UInt8),(105:UInt8),(114:UInt8),(99:UInt8),(108:UInt8),(101:UInt8)],Dd Hx (1:Int)]] (J3 k)=[F0 (X4 k),Dd .i64 n]:=by
 have:k=1∨k=2∨k=3:=by omega
 rcases this with rfl|rfl|rfl<;>exact⟨_,rfl⟩
theorem yj {l:Ly} (h:y3 l=true):1≤l.kind∧l.kind≤4∧l.name.length≤24∧l.depth.natAbs<10^23:=by
 unfold y3 at h;simp only[Aw,Bx,decide_eq_true_eq]at h;have hn:=kI h.1;exact⟨by omega,by omega,hn,by omega⟩
structure EOk (e:Er):Prop where
 few:e.few
 kind:1≤e.kind∧e.kind≤3
 name:e.layer.length≤24
 pts:e.pts.length≤3
 ok:∀p∈e.pts,xU (vr p.1)=true∧xU (vr p.2)=true
 rad:e.kind=3→xU (vr e.rad)=true
theorem yJ {x:Rat} (h:(X3 (x/1000)).length≤37):(JL x).length≤38:=by
 unfold JL;simp only[J7];omega
theorem EOk.pt {e:Er} (h:EOk e) {p:Rw×Rw} (hp:p∈e.pts):(ptW p).length≤76:=by
 obtain⟨h1,h2⟩:=h.ok p hp;have a:=yJ (jB (h.few.1 p hp).1 h1).2.2;have b:=yJ (jB (h.few.1 p hp).2 h2).2.2;unfold ptW;rw[J6];omega
theorem EOk.hd {e:Er} (h:EOk e):(hdE e).length≤31:=by
 have:=vI e.kind;have:=h.name;unfold hdE;simp only[J6,J7,J9];omega
theorem EOk.rd {e:Er} (h:EOk e):(rdW e).length≤38:=by
 unfold rdW;split
 ·rename_i hk;exact yJ (jB h.few.2 (h.rad hk)).2.2
 ·simp
theorem EOk.len {e:Er} (h:EOk e):(lnE e).length≤400:=by
 have h1:=h.hd;have h2:=h.rd;have h3:=xx (f:=ptW) (n:=76) fun p hp=>h.pt hp
 have h4:=h.pts;unfold lnE;simp only[J6,J7,J9];omega
end Eng
end

section
namespace Eng
open Go Go.Proofs
set_option maxRecDepth 100000
def txR (ls:List Ly) (es:List Er):List UInt8:=ls.flatMap lnL++es.flatMap lnE
set_option maxHeartbeats 1000000 in
theorem Lh {ls:List Ly} {es:List Er} (h0:ls≠[]) (hl:∀l∈ls,y3 l=true) (he:∀e∈es,EOk e) (hls:ls.length≤20) (hes:es.length≤200) (hV:JK ls es=0):qf CC 10 [drA ls es] [.c (.str (txR ls es)),.c (.int .i64 0)]:=by
 have a6:=Zk (ls:=ls) (es:=es) (fun l h=>by have:=(yj (hl l h)).2.2.1;omega) (fun e h=>⟨(he e h).few,by have:=(he e h).pts;omega⟩);rw[hV]at a6;have hLT:=fun k=>xx (f:=lnL) (n:=100) (l:=ls.take k) fun l h=>Wt (hl l (Ts h))
 have hLTa:=xx (f:=lnL) (n:=100) (l:=ls) fun l h=>Wt (hl l h)
 have hET:=fun k=>xx (f:=lnE) (n:=400) (l:=es.take k) fun e h=>(he e (Ts h)).len
 refine qg (anns:=Gl
  ⟨[.slot 20 (.int .i64 0),.bld 5 76 88],[],fun _ ds=>∃k:Nat,k≤ls.length∧ds=[.int .i64 (k:Int),.sl (qp ((ls.take k).flatMap lnL))],fun ds=>(ls.length-toI (nth .undef ds 0)).toNat⟩
  ⟨[.slot 44 (.int .i64 0),.bld 5 76 88],[],fun _ ds=>∃k:Nat,k≤es.length∧ds=[.int .i64 (k:Int),.sl (qp (ls.flatMap lnL++(es.take k).flatMap lnE))],fun ds=>(es.length-toI (nth .undef ds 0)).toNat⟩
  ⟨[.slot 61 (.int .i64 0),.bld 5 76 48],[.slot 44 (.int .i64 0)],fun gs ds=>∀e,es[(toI (nth .undef gs 0)).toNat]? =some e→∃j:Nat,j≤e.pts.length∧ds=[.int .i64 (j:Int),.sl (qp (ls.flatMap lnL++(es.take (toI (nth .undef gs 0)).toNat).flatMap lnE++hdE e++(e.pts.take j).flatMap ptW))],fun ds=>(10-toI (nth .undef ds 0)).toNat⟩) mixedT Tryz.func10 ?_
 unfold drA at *;rw[Kn];simp only[Int.ofNat_eq_natCast,V1];refine⟨_,a6,brb (fun h=>by simp at h) (fun _=>⟨⟨0,by omega,rfl⟩,?_⟩)⟩;rintro n r1 ⟨k,hk,a2⟩;simp only[ae,D.int.injEq,D.sl.injEq,true_and,and_true]at a2;obtain⟨rfl,rfl⟩:=a2;refine brd (fun h=>?_) (fun h=>?_)
 ·have a0:k<ls.length:=by omega
  obtain⟨k1,k2,k3,k4⟩:=yj (hl _ (P1 a0));have hdp:0≤ls[k].depth∧ls[k].depth≤10000000:=by have h:=hl _ (P1 a0);unfold y3 at h;simp only[Aw,Bx,decide_eq_true_eq]at h;omega
  have hm:=FM (n:=ls[k].depth) (by omega) (by omega);have hml:=Rm k4;have hw:Hv .i64 ((k:Int)+1)=((k+1:Nat):Int):=by rw[qK (by omega) (by omega)];omega
  have hkw:=Qs ls[k].kind;have hL:=hLT k;rw[U0]at hL;rw[Hy,qM a0,hw];have a5:=G8 ls[k];have a8:=je (f:=lnL) a0;refine⟨⟨by omega,by omega,rfl⟩,_,_,_,⟨rfl,by simp[vP]⟩,by unfold room;omega,by unfold room;simp only[J7];omega,⟨by omega,by omega⟩,JZ ls[k].kind,⟨by rw[ktab ⟨k1,k2⟩];rfl,by rw[ktab ⟨k1,k2⟩];simp⟩,?_⟩;refine⟨by unfold room;simp only[J7,J6,J9];omega,by unfold room;simp only[J7,J6,J9];omega,_,hm,by unfold room;simp only[J7,J6,J9];omega,by unfold room;simp only[J7,J6,J9];omega,?_⟩;refine⟨by unfold room;simp only[J7,J6,J9,qu];omega,⟨k+1,a0,?_⟩,by simp only[nth,toI];omega⟩;rw[a8,j8];unfold lnL;rw[a5];simp only[qp,List.map_append,No,W2,Lv,List.nil_append,List.cons_append];rfl
 ·have a0:k=ls.length:=by omega
  subst a0;rw[T1];refine⟨⟨0,by omega,by simp⟩,?_⟩;rintro n r2 ⟨k,hk2,a2⟩;simp only[ae,D.int.injEq,D.sl.injEq,true_and,and_true]at a2;obtain⟨rfl,rfl⟩:=a2;have hE:=hET k;rw[U0]at hE;refine brd (fun h2=>?_) (fun h2=>?_)
  ·have a0:k<es.length:=by omega
   have a1:=he _ (P1 a0);have a8:=je (f:=lnE) a0;have hw:Hv .i64 ((k:Int)+1)=((k+1:Nat):Int):=by rw[qK (by omega) (by omega)];omega
   have hsl:=vI es[k].kind;have hnl:=a1.name;have hpl:=a1.pts;have hhd:=a1.hd;obtain⟨sn,a9⟩:=stab a1.kind;have hkk:=a1.kind;rw[Hy,qM a0,hw];refine⟨⟨by omega,by omega,by simp[Zh,Rw.cs]⟩,_,_,_,_,_,_,_,⟨rfl,by simp[Zh,Rw.cs]⟩,⟨by omega,by omega⟩,X4 es[k].kind,⟨by rw[a9];rfl,by rw[a9];simp⟩,?_⟩;refine⟨by unfold room;omega,by unfold room;simp only[J6,J7,J9];omega,by unfold room;rw[qu,qu];simp only[J6,J7,J9];omega,?_,?_⟩
   ·intro e hg;simp only[nth,toI,Hy]at hg ⊢;rw[Pl a0,Option.some.injEq]at hg;subst hg;refine⟨0,by omega,?_⟩;rw[←j8];simp only[List.take_zero,List.flatMap_nil,W0];rfl
   ·intro j' r3 hI;have hI:=hI es[k] (by simp only[nth,toI,Hy];exact Pl a0);simp only[nth,toI,Hy]at hI;obtain⟨j,hj,a2⟩:=hI;simp only[ae,D.int.injEq,D.sl.injEq,true_and,and_true]at a2;obtain⟨rfl,rfl⟩:=a2;have hP:=xx (f:=ptW) (n:=76) (l:=es[k].pts.take j) fun p hp=>a1.pt (Ts hp)
    rw[U0]at hP;simp only[V1];refine brd (fun h3=>?_) (fun h3=>?_)
    ·have a4:j<es[k].pts.length:=by omega
     have a3:=P1 a4;obtain⟨o1,o2⟩:=a1.ok _ a3;obtain⟨c1,s1,t1⟩:=jB (a1.few.1 _ a3).1 o1;obtain⟨c2,s2,t2⟩:=jB (a1.few.1 _ a3).2 o2;have g1:=Zj s1;have g2:=Zj s2;rw[←c1]at g1;rw[←c2]at g2;have hsp:=je (f:=ptW) a4;have hwj:Hv .i64 ((j:Int)+1)=((j+1:Nat):Int):=by rw[qK (by omega) (by omega)];omega
     rw[Hy,qM a4,hwj];refine⟨⟨by omega,by omega,by simp[Xq,Rw.cs]⟩,_,_,_,_,_,_,_,_,⟨rfl,by simp[Xq,Rw.cs]⟩,_,g1,by unfold room;omega,by unfold room;simp only[J7];omega,_,g2,by unfold room;simp only[J7,J6,J9];omega,?_⟩;refine⟨by unfold room;rw[qu];simp only[J7,J6,J9,qu];omega,fun e hg=>?_,by simp only[nth,toI];omega⟩;simp only[nth,toI,Hy]at hg ⊢;rw[Pl a0,Option.some.injEq]at hg;subst hg;refine⟨j+1,a4,?_⟩;rw[hsp,←Lv,j8 _ (ptW _)];unfold ptW JL;simp;rfl
    ·have a4:j=es[k].pts.length:=by omega
     subst a4;rw[T1]at hP ⊢;have ad:∀u:List UInt8,rdW es[k]=u→
      (∃k':Nat,k'≤es.length∧[Dd .i64 ((k+1:Nat):Int),F2 (qp (ls.flatMap lnL++(es.take k).flatMap lnE++hdE es[k]++es[k].pts.flatMap ptW)++qp u++qp [10])]=[.int .i64 (k':Int),.sl (qp (ls.flatMap lnL++(es.take k').flatMap lnE))])∧
       ((es.length:Int)-toI (nth .undef [Dd .i64 ((k+1:Nat):Int),F2 (qp (ls.flatMap lnL++(es.take k).flatMap lnE++hdE es[k]++es[k].pts.flatMap ptW)++qp u++qp [10])] 0)).toNat<((es.length:Int)-toI (nth .undef [Dd .i64 (k:Int),F2 (qp (ls.flatMap lnL++(es.take k).flatMap lnE))] 0)).toNat:=fun u hu=>by
      refine⟨⟨k+1,a0,?_⟩,by simp only[nth,toI];omega⟩;rw[a8];unfold lnE;rw[hu,←j8,←j8];simp only[Lv]
     have e3:((es[k].kind:Int)==3)=decide (es[k].kind=3):=by rw[Bool.eq_iff_iff];simp
     rw[e3];refine brd (fun h4=>?_) (fun h4=>?_)
     ·obtain⟨c1,s1,t1⟩:=jB a1.few.2 (a1.rad h4);have g1:=Zj s1;rw[←c1]at g1;have a7:=ad (JL es[k].rad.val) (by unfold rdW;rw[if_pos h4]);refine⟨_,g1,by unfold room;omega,by unfold room;rw[qu];simp only[J7,J6,J9,qu];omega,by unfold room;simp only[J7,J6,J9,qu];omega,a7⟩
     ·have a7:=ad [] (by unfold rdW;rw[if_neg h4]);have e0:qp []=[]:=rfl;rw[e0,W0]at a7;refine⟨by unfold room;rw[qu];simp only[J6];omega,a7⟩
  ·have a0:k=es.length:=by omega
   subst a0;rw[T1];refine⟨⟨fun e=>?_,ko _⟩,by rw[kn];rfl⟩;have:=congrArg Lm e;rw[qu,J6]at this;cases ls with
   |nil=>exact h0 rfl
   |cons a r=>simp[lnL]at this
end Eng
end

section
namespace Eng
open Go Go.Proofs
set_option maxRecDepth 100000
theorem Zp:∀{ls:List Ly} {es:List EnO},z7 ls es=0→∀e∈es,xD ls e=0
 |_,[],_,e,he=>by simp at he
 |ls,x::es,h,e,he=>by
  rw[z7]at h;have hk:xD ls x=0:=by
   cases hx:xD ls x with
   |zero=>rfl
   |succ n=>rw[hx]at h;simp at h
  rw[hk]at h;rcases List.mem_cons.1 he with rfl|he
  ·exact hk
  ·exact Zp h e he
theorem kP {ls:List Ly} {es:List Er} (hf:∀e∈es,e.few) (h:JK ls es=0):(∀l∈ls,y3 l=true)∧(∀e∈es,EOk e)∧ls.length≤20∧es.length≤200:=by
 unfold JK wx at h;rw[V1]at h;split at h
 ·omega
 rename_i hlen;have h1:xR [] ls=0:=by
  cases hx:xR [] ls with
  |zero=>rfl
  |succ n=>rw[hx]at h;simp at h
 rw[h1]at h;have h2:=Qn h1;have h3:=Zp (show z7 ls (es.map Er.o)=0 from h);refine⟨h2,fun e he=>?_,by omega,by omega⟩;have hk:=h3 e.o (W1.2 ⟨e,he,rfl⟩);unfold xD at hk;split at hk
 ·rename_i hin;split at hk
  ·rename_i a0;rw[e.ok_eq]at a0;simp only[Aw,Bx,decide_eq_true_eq]at a0;obtain⟨q1,q2,q3,q4⟩:=a0;obtain⟨l,hl,hn⟩:=W1.1 hin;have hn:l.name=e.layer:=hn;refine⟨hf e he,q1,?_,?_,fun p hp=>?_,fun hk3=>?_⟩
   ·rw[←hn];exact(yj (h2 l hl)).2.2.1
   ·have:=Kg e.kind;rcases this with h|h
    ·omega
    ·exact absurd q1 h.1
   ·have:=List.all_eq_true.1 q3 p hp;unfold Tz at this;rw[Aw]at this;exact this
   ·rcases q4 with h|h
    ·exact absurd hk3 h
    ·exact h.1
  ·omega
 ·omega
end Eng
end

section
namespace Eng
open Go Go.Proofs
set_option maxRecDepth 100000
theorem Ko {x:Rw} (h:xU (vr x)=true):vr x=some x.val:=by
 unfold vr at h ⊢;by_cases hx:x.ok=true
 ·rw[if_pos hx]
 ·rw[if_neg hx]at h;simp[xU]at h
theorem FN {e:Er} (h:EOk e):lnE e=kF (xQ (jO e.o))++[10]:=by
 rw[Do,RJ];have hp:(jO e.o).pts.flatMap Dn=e.pts.flatMap ptW:=by
  have hq:(jO e.o).pts=e.pts.map fun p=>(⟨(vr p.1).getD 0,(vr p.2).getD 0⟩:V2):=by unfold jO Er.o;simp only[List.map_map];rfl
  rw[hq];have ho:=h.ok;generalize e.pts=ps at ho
  induction ps with
  |nil=>rfl
  |cons p ps ih=>obtain⟨o1,o2⟩:=ho p (by simp);rw[No,Lr,Lr,ih (fun q hq=>ho q (by simp[hq])),Ko o1,Ko o2];rfl
 have hr:(if(jO e.o).kind=3 then JL (jO e.o).rad else [])=rdW e:=by
  unfold rdW;have hk:(jO e.o).kind=e.kind:=rfl;rw[hk];by_cases h3:e.kind=3
  ·rw[if_pos h3,if_pos h3];have:(jO e.o).rad=(vr e.rad).getD 0:=by unfold jO Er.o;simp only[h3,if_true]
   rw[this,Ko (h.rad h3)];rfl
  ·rw[if_neg h3,if_neg h3]
 rw[hp,hr];unfold lnE hdE;have hk:(jO e.o).kind=e.kind:=rfl;have hl:(jO e.o).layer=e.layer:=rfl;rw[hk,hl];simp only[Lv]
theorem FO {ls:List Ly} {es:List Er} (h:∀e∈es,EOk e):txR ls es=Kb ls (es.map fun e=>jO e.o):=by
 unfold txR Kb X8;rw[Ls,U3,U3,U3];congr 1
 induction es with
 |nil=>rfl
 |cons e es ih=>rw[Lr,Lr,ih (fun x hx=>h x (by simp[hx])),FN (h e (by simp))]
end Eng
end

section
namespace Eng
open Go Go.Proofs
set_option maxRecDepth 100000
end Eng
end
