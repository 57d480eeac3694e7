/- The verification conditions of functions, printed by a program (vcgen.py) and checked by the kernel. -/
import Derived.Test.YtbehlcfelmbmlaaGreatDoorCtxB
import Derived.Test.YtbehlcfelmbmlaaGreatDoorTxA
import Derived.Test.YtbehlcfelmbmlaaGreatDoorDcA
import Derived.Test.YtbehlcfelmbmlaaGreatDoorDbD
import Derived.KernelRfl
open Eng.A renaming ag→Aw, c→Bx
open Eng.D renaming bool→Dd, sl→F0, int→F2, str→Hu
open Go.IntKind renaming wrap→Hv
open Int renaming ofNat→Hx, toNat→Hy, toNat_natCast→I2, ofNat_eq_natCast→J3
open List renaming length→J4, getElem_mem→J6, length_map→J7
open List.cons renaming injEq→J9
open Nat renaming le_refl→Lm
section
namespace Eng
open Go Go.Proofs
set_option maxRecDepth 1000000
theorem NK (Gv:Nat→List A→List A→Prop) (p1:Bool) (l1:List (List D)) (q1:Bool) (m1:List (List D)) (p2:Bool) (l2:List (List D)) (q2:Bool) (m2:List (List D)) (Q:List A→Prop):wpF CC Gv an0 Tryz.f26 [.ag [.bool p1,.sl l1,.bool q1,.sl m1],.ag [.bool p2,.sl l2,.bool q2,.sl m2]] Q=(
 ∃b,Gv 67 [Aw [Dd p1,F0 l1],Aw [Dd p2,F0 l2]] [Bx (Dd b)]∧br b (∃b,Gv 67 [Aw [Dd q1,F0 m1],Aw [Dd q2,F0 m2]] [Bx (Dd b)]∧Q [Bx (Dd b)]) (Q [Bx (Dd false)])):=by kernel_rfl
theorem NL (Gv:Nat→List A→List A→Prop) (p1:Bool) (l1:List (List D)) (q1:Bool) (m1:List (List D)) (p2:Bool) (l2:List (List D)) (q2:Bool) (m2:List (List D)) (p3:Bool) (l3:List (List D)) (q3:Bool) (m3:List (List D)) (p4:Bool) (l4:List (List D)) (q4:Bool) (m4:List (List D)) (Q:List A→Prop):wpF CC Gv an0 Tryz.f86 [.ag [.bool p1,.sl l1,.bool q1,.sl m1,.bool p2,.sl l2,.bool q2,.sl m2],.ag [.bool p3,.sl l3,.bool q3,.sl m3,.bool p4,.sl l4,.bool q4,.sl m4]] Q=(
 ∃b,Gv 26 [Aw [Dd p1,F0 l1,Dd q1,F0 m1],Aw [Dd p3,F0 l3,Dd q3,F0 m3]] [Bx (Dd b)]∧br b (∃b,Gv 26 [Aw [Dd p2,F0 l2,Dd q2,F0 m2],Aw [Dd p4,F0 l4,Dd q4,F0 m4]] [Bx (Dd b)]∧Q [Bx (Dd b)]) (Q [Bx (Dd false)])):=by kernel_rfl
end Eng
end

section
open Go Go.Proofs Eng
set_option maxRecDepth 1000000
namespace Eng
theorem L7 (Gv:Nat→List A→List A→Prop) (I0:List D→List D→Prop) (M0:List D→Nat) (k1:Int) (n1:List UInt8) (ps1:List (List D)) (p1:Bool) (l1:List (List D)) (q1:Bool) (m1:List (List D)) (k2:Int) (n2:List UInt8) (ps2:List (List D)) (p2:Bool) (l2:List (List D)) (q2:Bool) (m2:List (List D)) (Q:List A→Prop):wpF CC Gv (fun _=>⟨[.slot 5 (.int .i64 0)],[],I0,M0⟩) Tryz.f41 [.ag [.int .i64 k1,.str n1,.sl ps1,.bool p1,.sl l1,.bool q1,.sl m1],.ag [.int .i64 k2,.str n2,.sl ps2,.bool p2,.sl l2,.bool q2,.sl m2]] Q=(
 br (toB (Dd (k1 !=k2))) (Q [Bx (Dd false)]) (br (toB (Dd !n1==n2)) (Q [Bx (Dd false)]) (br (toB (Dd ((Hx ps1.length) !=(Hx ps2.length)))) (Q [Bx (Dd false)]) (br (toB (Dd (k1==3))) (∃b,Gv 26 [Aw [Dd p1,F0 l1,Dd q1,F0 m1],Aw [Dd p2,F0 l2,Dd q2,F0 m2]] [Bx (Dd b)]∧br (toB (Dd !b)) (Q [Bx (Dd false)]) (I0 [] [F2 .i64 0]∧∀(n:Int),I0 [] [F2 .i64 n]→br (toB (Dd (decide (n<(Hx ps1.length))))) ((0≤n∧n<(Hx ps1.length)∧J4 (nth [] ps1 (Hy n))=8)∧∃b es b1 e1 b2 e2 b3 e3,cut (nth [] ps1 (Hy n)) 0 8 [Dd b,F0 es,Dd b1,F0 e1,Dd b2,F0 e2,Dd b3,F0 e3]∧(0≤n∧n<(Hx ps2.length)∧J4 (nth [] ps2 (Hy n))=8)∧∃b4 e4 b5 e5 b6 e6 b7 e7,cut (nth [] ps2 (Hy n)) 0 8 [Dd b4,F0 e4,Dd b5,F0 e5,Dd b6,F0 e6,Dd b7,F0 e7]∧∃b8,Gv 86 [Aw [Dd b,F0 es,Dd b1,F0 e1,Dd b2,F0 e2,Dd b3,F0 e3],Aw [Dd b4,F0 e4,Dd b5,F0 e5,Dd b6,F0 e6,Dd b7,F0 e7]] [Bx (Dd b8)]∧br (toB (Dd !b8)) (Q [Bx (Dd false)]) (I0 [] [F2 .i64 (Hv .i64 (n+1))]∧M0 [F2 .i64 (Hv .i64 (n+1))]<M0 [F2 .i64 n])) (Q [Bx (Dd true)]))) (I0 [] [F2 .i64 0]∧∀(n:Int),I0 [] [F2 .i64 n]→br (toB (Dd (decide (n<(Hx ps1.length))))) ((0≤n∧n<(Hx ps1.length)∧J4 (nth [] ps1 (Hy n))=8)∧∃b es b1 e1 b2 e2 b3 e3,cut (nth [] ps1 (Hy n)) 0 8 [Dd b,F0 es,Dd b1,F0 e1,Dd b2,F0 e2,Dd b3,F0 e3]∧(0≤n∧n<(Hx ps2.length)∧J4 (nth [] ps2 (Hy n))=8)∧∃b4 e4 b5 e5 b6 e6 b7 e7,cut (nth [] ps2 (Hy n)) 0 8 [Dd b4,F0 e4,Dd b5,F0 e5,Dd b6,F0 e6,Dd b7,F0 e7]∧∃b8,Gv 86 [Aw [Dd b,F0 es,Dd b1,F0 e1,Dd b2,F0 e2,Dd b3,F0 e3],Aw [Dd b4,F0 e4,Dd b5,F0 e5,Dd b6,F0 e6,Dd b7,F0 e7]] [Bx (Dd b8)]∧br (toB (Dd !b8)) (Q [Bx (Dd false)]) (I0 [] [F2 .i64 (Hv .i64 (n+1))]∧M0 [F2 .i64 (Hv .i64 (n+1))]<M0 [F2 .i64 n])) (Q [Bx (Dd true)])))))):=by kernel_rfl
end Eng
end

section
open Go Go.Proofs Eng
set_option maxRecDepth 1000000
namespace Eng
theorem NM (Gv:Nat→List A→List A→Prop) (I0:List D→List D→Prop) (M0:List D→Nat) (I1:List D→List D→Prop) (M1:List D→Nat) (ls es ls2 es2:List (List D)) (Q:List A→Prop):wpF CC Gv (JW ⟨[.slot 5 (.int .i64 0)],[],I0,M0⟩ ⟨[.slot 6 (.int .i64 0)],[],I1,M1⟩) Tryz.f14 [.ag [.sl ls,.sl es],.ag [.sl ls2,.sl es2]] Q=(
 br (toB (Dd ((Hx ls.length) !=(Hx ls2.length)))) (Q [Bx (Dd false)]) (br (toB (Dd ((Hx es.length) !=(Hx es2.length)))) (Q [Bx (Dd false)]) (I0 [] [F2 .i64 0]∧∀(n:Int),I0 [] [F2 .i64 n]→br (toB (Dd (decide (n<(Hx ls.length))))) ((0≤n∧n<(Hx ls.length)∧J4 (nth [] ls (Hy n))=3)∧∃s n1 n2,cut (nth [] ls (Hy n)) 0 3 [Hu s,F2 .i64 n1,F2 .i64 n2]∧(0≤n∧n<(Hx ls2.length)∧J4 (nth [] ls2 (Hy n))=3)∧∃s1 n3 n4,cut (nth [] ls2 (Hy n)) 0 3 [Hu s1,F2 .i64 n3,F2 .i64 n4]∧(QQ [Hu s,F2 .i64 n1,F2 .i64 n2]∧QQ [Hu s1,F2 .i64 n3,F2 .i64 n4])∧br (toB (Dd !Ch [Hu s,F2 .i64 n1,F2 .i64 n2] [Hu s1,F2 .i64 n3,F2 .i64 n4])) (Q [Bx (Dd false)]) (I0 [] [F2 .i64 (Hv .i64 (n+1))]∧M0 [F2 .i64 (Hv .i64 (n+1))]<M0 [F2 .i64 n])) (I1 [] [F2 .i64 0]∧∀(n:Int),I1 [] [F2 .i64 n]→br (toB (Dd (decide (n<(Hx es.length))))) ((0≤n∧n<(Hx es.length)∧J4 (nth [] es (Hy n))=7)∧∃n1 s e1 b e2 b1 e3,cut (nth [] es (Hy n)) 0 7 [F2 .i64 n1,Hu s,F0 e1,Dd b,F0 e2,Dd b1,F0 e3]∧(0≤n∧n<(Hx es2.length)∧J4 (nth [] es2 (Hy n))=7)∧∃n2 s1 es b2 e4 b3 e5,cut (nth [] es2 (Hy n)) 0 7 [F2 .i64 n2,Hu s1,F0 es,Dd b2,F0 e4,Dd b3,F0 e5]∧∃b4,Gv 41 [Aw [F2 .i64 n1,Hu s,F0 e1,Dd b,F0 e2,Dd b1,F0 e3],Aw [F2 .i64 n2,Hu s1,F0 es,Dd b2,F0 e4,Dd b3,F0 e5]] [Bx (Dd b4)]∧br (toB (Dd !b4)) (Q [Bx (Dd false)]) (I1 [] [F2 .i64 (Hv .i64 (n+1))]∧M1 [F2 .i64 (Hv .i64 (n+1))]<M1 [F2 .i64 n])) (Q [Bx (Dd true)]))))):=by kernel_rfl
end Eng
end

section
namespace Eng
open Go Go.Proofs
set_option maxRecDepth 100000
theorem Zt {x y:Rat} (hx:Sr x) (hy:Sr y):qf CC 26 [xk x,xk y] [.c (.bool (decide (x=y)))]:=by
 refine qg (anns:=an0) mixedT Tryz.func26 ?_;rw[qb,qb,NK];have h1:=XG hx.1.sm hy.1.sm;have h2:=XG hx.2.sm hy.2.sm;rw[qm,qm]at h1 h2;refine⟨_,h1,?_⟩;by_cases hn:x.num=y.num
 ·rw[decide_eq_true hn];refine jm (fun _=>⟨_,h2,?_⟩) (fun h=>by simp at h);have e:decide ((x.den:Int)=(y.den:Int))=decide (x=y):=by rw[decide_eq_decide];refine⟨fun h=>Rat.ext hn (by omega),fun h=>by rw[h]⟩
  rw[e]
 ·rw[decide_eq_false hn];refine jm (fun h=>by simp at h) (fun _=>?_);rw[decide_eq_false (fun h=>hn (by rw[h]))]
theorem VO {a b:Rat} (ha:Sr a) (hb:Sr b):qf CC 86 [.ag (cR a++cR b),.ag (cR a++cR b)] [.c (.bool true)]:=by
 refine qg (anns:=an0) mixedT Tryz.func86 ?_;have h1:=Zt ha ha;have h2:=Zt hb hb;rw[decide_eq_true rfl]at h1 h2;have er:Aw (cR a++cR b)= .ag [.bool (decide (a.num<0)),.sl (raw (lim a.num.natAbs)),.bool (decide ((a.den:Int)<0)),.sl (raw (lim (a.den:Int).natAbs)),.bool (decide (b.num<0)),.sl (raw (lim b.num.natAbs)),.bool (decide ((b.den:Int)<0)),.sl (raw (lim (b.den:Int).natAbs))]:=rfl;rw[er,NL];rw[qb]at h1 h2;exact⟨_,h1,jm (fun _=>⟨_,h2,rfl⟩) (fun h=>by simp at h)⟩
theorem EOk.rows {e:Er} (h:EOk e):(jO e.o).pts.map Lx=e.pts.map Xq:=by
 unfold jO Er.o;simp only[List.map_map];apply List.map_congr_left;intro p hp;obtain⟨o1,o2⟩:=h.ok p hp;obtain⟨f1,f2⟩:=h.few.1 p hp;have c1:=(jB f1 o1).1;have c2:=(jB f2 o2).1;simp only[Function.comp,Ko o1,Ko o2];show cR p.1.val++cR p.2.val=p.1.cs++p.2.cs;have e1:=A.ag.inj c1;have e2:=A.ag.inj c2;rw[e1,e2]
theorem EOk.srs {e:Er} (h:EOk e) {p:Rw×Rw} (hp:p∈e.pts):Xq p=cR p.1.val++cR p.2.val∧Sr p.1.val∧Sr p.2.val:=by
 obtain⟨o1,o2⟩:=h.ok p hp;obtain⟨f1,f2⟩:=h.few.1 p hp;obtain⟨c1,s1,_⟩:=jB f1 o1;obtain⟨c2,s2,_⟩:=jB f2 o2;refine⟨?_,s1.sr (by omega),s2.sr (by omega)⟩;unfold Xq;rw[A.ag.inj c1,A.ag.inj c2]
theorem L8 {e:Er} (h:EOk e):qf CC 41 [.ag (enO (jO e.o)),.ag (Zh e)] [.c (.bool true)]:=by
 refine qg (anns:=fun _=>⟨[.slot 5 (.int .i64 0)],[],fun _ ds=>∃k:Nat,k≤e.pts.length∧ds=[.int .i64 (k:Int)],fun ds=>(e.pts.length-toI (nth .undef ds 0)).toNat⟩) mixedT Tryz.func41 ?_;have hp3:=h.pts;obtain⟨b1,a2,b2,a3,hr,h3⟩:∃b1 a2 b2 a3,MD (jO e.o)=[.bool b1,.sl a2,.bool b2,.sl a3]∧(e.kind=3→Aw [.bool b1,.sl a2,.bool b2,.sl a3]=xk e.rad.val∧Aw e.rad.cs=xk e.rad.val∧Sr e.rad.val):=by
  unfold MD;have hk:(jO e.o).kind=e.kind:=rfl;rw[hk];by_cases hk3:e.kind=3
  ·rw[if_pos hk3];have ho:=h.rad hk3;have hv:(jO e.o).rad=e.rad.val:=by unfold jO Er.o;simp only[hk3,if_true];rw[Ko ho];rfl
   obtain⟨c1,s1,_⟩:=jB h.few.2 ho;rw[hv];exact⟨_,_,_,_,rfl,fun _=>⟨rfl,c1,s1.sr (by omega)⟩⟩
  ·rw[if_neg hk3];exact⟨_,_,_,_,rfl,fun h=>absurd h hk3⟩
 have e1:Aw (enO (jO e.o))= .ag [.int .i64 e.kind,.str e.layer,.sl (e.pts.map Xq),.bool b1,.sl a2,.bool b2,.sl a3]:=by unfold enO;rw[hr,h.rows];rfl
 have e2:Aw (Zh e)= .ag [.int .i64 e.kind,.str e.layer,.sl (e.pts.map Xq),.bool e.rad.p,.sl (raw e.rad.l),.bool e.rad.q,.sl (raw e.rad.m)]:=rfl;rw[e1,e2,L7];simp only[J3,J7];have a1:(∃k:Nat,k≤e.pts.length∧[F2 .i64 (0:Int)]=[.int .i64 (k:Int)]):=⟨0,by omega,rfl⟩;refine brb (fun h=>by simp at h) (fun _=>brb (fun h=>by simp at h) (fun _=>brb (fun h=>by simp at h) (fun _=>?_)));refine brb (fun hk=>?_) (fun hk=>⟨a1,?_⟩)
 ·have hk:e.kind=3:=by simpa using hk
  obtain⟨g1,g2,g3⟩:=h3 hk;have hs:=Zt g3 g3;rw[decide_eq_true rfl]at hs;have er:Aw e.rad.cs= .ag [.bool e.rad.p,.sl (raw e.rad.l),.bool e.rad.q,.sl (raw e.rad.m)]:=rfl;have hs':qf CC 26 [Aw [.bool b1,.sl a2,.bool b2,.sl a3],Aw [.bool e.rad.p,.sl (raw e.rad.l),.bool e.rad.q,.sl (raw e.rad.m)]] [.c (.bool true)]:=by rw[g1,←er,g2];exact hs
  refine⟨_,hs',brb (fun h=>by simp at h) (fun _=>⟨a1,?_⟩)⟩;rintro n ⟨k,hk2,he⟩;simp only[J9,D.int.injEq,true_and,and_true]at he;subst he;refine brd (fun hlt=>?_) (fun _=>trivial);have a4:k<e.pts.length:=by omega
  obtain⟨a0,s1,s2⟩:=h.srs (J6 a4);have hv:=VO s1 s2;rw[←a0]at hv;rw[I2,qM a4,a0];rw[a0]at hv;have hw:Hv .i64 ((k:Int)+1)=((k+1:Nat):Int):=by rw[qK (by omega) (by omega)];omega
  rw[hw];exact⟨⟨by omega,by omega,rfl⟩,_,_,_,_,_,_,_,_,⟨rfl,Lm 8⟩,⟨by omega,by omega,rfl⟩,_,_,_,_,_,_,_,_,⟨rfl,Lm 8⟩,_,hv,brb (fun h=>by simp at h) (fun _=>⟨⟨k+1,by omega,rfl⟩,by simp only[nth,toI];omega⟩)⟩
 ·rintro n ⟨k,hk2,he⟩;simp only[J9,D.int.injEq,true_and,and_true]at he;subst he;refine brd (fun hlt=>?_) (fun _=>trivial);have a4:k<e.pts.length:=by omega
  obtain⟨a0,s1,s2⟩:=h.srs (J6 a4);have hv:=VO s1 s2;rw[I2,qM a4,a0];have hw:Hv .i64 ((k:Int)+1)=((k+1:Nat):Int):=by rw[qK (by omega) (by omega)];omega
  rw[hw];exact⟨⟨by omega,by omega,rfl⟩,_,_,_,_,_,_,_,_,⟨rfl,Lm 8⟩,⟨by omega,by omega,rfl⟩,_,_,_,_,_,_,_,_,⟨rfl,Lm 8⟩,_,hv,brb (fun h=>by simp at h) (fun _=>⟨⟨k+1,by omega,rfl⟩,by simp only[nth,toI];omega⟩)⟩
theorem Zu {ls:List Ly} {es:List Er} (hl:∀l∈ls,y3 l=true) (he:∀e∈es,EOk e) (h1:ls.length≤1000) (h2:es.length≤1000):qf CC 14 [drP ls (es.map fun e=>jO e.o),drA ls es] [.c (.bool true)]:=by
 refine qg (anns:=JW ⟨[.slot 5 (.int .i64 0)],[],fun _ ds=>∃k:Nat,k≤ls.length∧ds=[.int .i64 (k:Int)],fun ds=>(ls.length-toI (nth .undef ds 0)).toNat⟩
  ⟨[.slot 6 (.int .i64 0)],[],fun _ ds=>∃k:Nat,k≤es.length∧ds=[.int .i64 (k:Int)],fun ds=>(es.length-toI (nth .undef ds 0)).toNat⟩) mixedT Tryz.func14 ?_
 unfold drP drA;rw[NM];simp only[J3,J7];refine brb (fun h=>by simp at h) (fun _=>brb (fun h=>by simp at h) (fun _=>⟨⟨0,by omega,rfl⟩,?_⟩));rintro n ⟨k,hk,hx⟩;simp only[J9,D.int.injEq,true_and,and_true]at hx;subst hx;refine brd (fun h=>?_) (fun h=>⟨⟨0,by omega,rfl⟩,?_⟩)
 ·have a1:k<ls.length:=by omega
  obtain⟨k1,k2,k3,k4⟩:=yj (hl _ (J6 a1));have hd: -10000000≤ls[k].depth∧ls[k].depth≤10000000:=by have h:=hl _ (J6 a1);unfold y3 at h;simp only[Bool.and_eq_true,Bool.or_eq_true,decide_eq_true_eq]at h;omega
  rw[I2,qM a1];have hb:(0:Int)≤(k:Int)∧(k:Int)<(ls.length:Int)∧(vP ls[k]).length=3:=⟨by omega,by omega,rfl⟩;have a3:QQ (vP ls[k]):=by
   have m1:IntKind.min .i64= -9223372036854775808:=rfl;have m2:IntKind.max .i64=9223372036854775807:=rfl;refine⟨by show ls[k].name.length≤_;omega,⟨?_,?_⟩,⟨?_,?_⟩,trivial⟩
   ·rw[m1];omega
   ·rw[m2];omega
   ·rw[m1];omega
   ·rw[m2];omega
  have hw:Hv .i64 ((k:Int)+1)=((k+1:Nat):Int):=by rw[qK (by omega) (by omega)];omega
  rw[hw];refine⟨hb,_,_,_,⟨rfl,Lm 3⟩,hb,_,_,_,⟨rfl,Lm 3⟩,⟨a3,a3⟩,brb (fun h=>?_) (fun _=>⟨⟨k+1,by omega,rfl⟩,by simp only[nth,toI];omega⟩)⟩;simp[Ch,eqF]at h
 ·rintro n ⟨k,hk,hx⟩;simp only[J9,D.int.injEq,true_and,and_true]at hx;subst hx;refine brd (fun h=>?_) (fun _=>trivial);have a1:k<es.length:=by omega
  have a2:=L8 (he _ (J6 a1));have hg:(es.map fun e=>jO e.o)[k]'(by rw[J7];exact a1)=jO es[k].o:=by simp
  have a0:∃a b c d x y z,enO (jO es[k].o)=[.int .i64 a,.str b,.sl c,.bool d,.sl x,.bool y,.sl z]:=by
   unfold enO MD;by_cases h3:(jO es[k].o).kind=3
   ·rw[if_pos h3];exact⟨_,_,_,_,_,_,_,rfl⟩
   ·rw[if_neg h3];exact⟨_,_,_,_,_,_,_,rfl⟩
  obtain⟨a,b,c,d,x,y,z,a0⟩:=a0;have hn1:nth [] ((es.map fun e=>jO e.o).map enO) k=[.int .i64 a,.str b,.sl c,.bool d,.sl x,.bool y,.sl z]:=by rw[qM (by rw[J7];exact a1),hg,a0]
  rw[a0]at a2;rw[I2,hn1,qM a1];have hw:Hv .i64 ((k:Int)+1)=((k+1:Nat):Int):=by rw[qK (by omega) (by omega)];omega
  rw[hw];exact⟨⟨by omega,by omega,rfl⟩,_,_,_,_,_,_,_,⟨rfl,Lm 7⟩,⟨by omega,by omega,rfl⟩,_,_,_,_,_,_,_,⟨rfl,Lm 7⟩,_,a2,brb (fun h=>by simp at h) (fun _=>⟨⟨k+1,by omega,rfl⟩,by simp only[nth,toI];omega⟩)⟩
end Eng
end
