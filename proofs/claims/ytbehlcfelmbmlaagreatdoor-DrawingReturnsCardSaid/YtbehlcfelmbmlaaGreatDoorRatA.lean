/- The verification conditions of functions, printed by a program (vcgen.py) and checked by the kernel. -/
import Derived.Test.YtbehlcfelmbmlaaGreatDoorCtxB
import Derived.KernelRfl
open Eng.A renaming ag→Aw, c→Bx
open Eng.D renaming bool→Dd, sl→F0, int→F2
open Int renaming ediv_one→Hu, mul_pos→Hv, natAbs_neg→Hx, natAbs_mul→Hy
open Nat renaming gcd→J3, mul_lt_mul''→J4
open Rat renaming divInt→J6, num_divInt_den→J7, neg_num→J9
section
namespace Eng
open Go Go.Proofs
set_option maxRecDepth 1000000
section
variable (Gv:Nat→List A→List A→Prop) (Q:List A→Prop) (I0 I1 I2 I3:List D→List D→Prop) (M0 M1 M2 M3:List D→Nat)
theorem E1:wpF CC Gv an0 Tryz.f187 [] Q=(
 ∃b es,Gv 136 [Bx (F2 .i64 1)] [Aw [Dd b,F0 es]]∧Q [Aw [Dd b,F0 es]]):=by kernel_rfl
theorem Bh (p:Bool) (es:List (List D)):wpF CC Gv an0 Tryz.f219 [.ag [.bool p,.sl es]] Q=(
 ∃b e1,Gv 187 [] [Aw [Dd b,F0 e1]]∧Q [Aw [Dd p,F0 es,Dd b,F0 e1]]):=by kernel_rfl
theorem Ve (n:Int):wpF CC Gv an0 Tryz.f121 [.c (.int .i64 n)] Q=(
 ∃b es,Gv 136 [Bx (F2 .i64 n)] [Aw [Dd b,F0 es]]∧∃b1 e1 b2 e2,Gv 219 [Aw [Dd b,F0 es]] [Aw [Dd b1,F0 e1,Dd b2,F0 e2]]∧Q [Aw [Dd b1,F0 e1,Dd b2,F0 e2]]):=by kernel_rfl
theorem Bi (p q:Bool) (es fs:List (List D)):wpF CC Gv an0 Tryz.f188 [.ag [.bool p,.sl es],.ag [.bool q,.sl fs]] Q=(
 ∃b e1 b1 e2 n,Gv 137 [Aw [Dd p,F0 es],Aw [Dd q,F0 fs]] [Aw [Dd b,F0 e1],Aw [Dd b1,F0 e2],Bx (F2 .i64 n)]∧Q [Aw [Dd b,F0 e1]]):=by kernel_rfl
theorem PE (p q:Bool) (es fs:List (List D)):wpF CC Gv an0 Tryz.f100 [.ag [.bool p,.sl es],.ag [.bool q,.sl fs]] Q=(
 ∃n,Gv 138 [Aw [Dd q,F0 fs]] [Bx (F2 .i64 n)]∧br (toB (Dd (decide (n<0)))) (∃b e1,Gv 185 [Aw [Dd p,F0 es]] [Aw [Dd b,F0 e1]]∧∃b1 es,Gv 185 [Aw [Dd q,F0 fs]] [Aw [Dd b1,F0 es]]∧∃b2 e2,Gv 186 [Aw [Dd b,F0 e1],Aw [Dd b1,F0 es]] [Aw [Dd b2,F0 e2]]∧∃b3 e3,Gv 187 [] [Aw [Dd b3,F0 e3]]∧∃n,Gv 183 [Aw [Dd b2,F0 e2],Aw [Dd b3,F0 e3]] [Bx (F2 .i64 n)]∧br (toB (Dd (n !=0))) (∃b4 e4,Gv 188 [Aw [Dd b,F0 e1],Aw [Dd b2,F0 e2]] [Aw [Dd b4,F0 e4]]∧∃b e5,Gv 188 [Aw [Dd b1,F0 es],Aw [Dd b2,F0 e2]] [Aw [Dd b,F0 e5]]∧Q [Aw [Dd b4,F0 e4,Dd b,F0 e5]]) (Q [Aw [Dd b,F0 e1,Dd b1,F0 es]])) (∃b e1,Gv 186 [Aw [Dd p,F0 es],Aw [Dd q,F0 fs]] [Aw [Dd b,F0 e1]]∧∃b1 e2,Gv 187 [] [Aw [Dd b1,F0 e2]]∧∃n,Gv 183 [Aw [Dd b,F0 e1],Aw [Dd b1,F0 e2]] [Bx (F2 .i64 n)]∧br (toB (Dd (n !=0))) (∃b2 e3,Gv 188 [Aw [Dd p,F0 es],Aw [Dd b,F0 e1]] [Aw [Dd b2,F0 e3]]∧∃b3 es,Gv 188 [Aw [Dd q,F0 fs],Aw [Dd b,F0 e1]] [Aw [Dd b3,F0 es]]∧Q [Aw [Dd b2,F0 e3,Dd b3,F0 es]]) (Q [Aw [Dd p,F0 es,Dd q,F0 fs]]))):=by kernel_rfl
theorem Bj (p q:Bool) (es fs:List (List D)):wpF CC Gv an0 Tryz.f148 [.ag [.bool p,.sl es,.bool q,.sl fs]] Q=(
 ∃n,Gv 138 [Aw [Dd p,F0 es]] [Bx (F2 .i64 n)]∧Q [Bx (F2 .i64 n)]):=by kernel_rfl
theorem Vf (m n:Int):wpF CC Gv an0 Tryz.f182 [.c (.int .i64 m),.c (.int .i64 n)] Q=(
 ∃b,Gv 265 [Bx (F2 .i64 m)] [Bx (Dd b)]∧∃b1,Gv 265 [Bx (F2 .i64 n)] [Bx (Dd b1)]∧br b (br b1 (Q [Bx (F2 .i64 0)]) (Q [Bx (F2 .i64 (-1))])) (br b1 (Q [Bx (F2 .i64 1)]) (br (toB (Dd (decide (m<n)))) (Q [Bx (F2 .i64 (-1))]) (br (toB (Dd (decide (m>n)))) (Q [Bx (F2 .i64 1)]) (Q [Bx (F2 .i64 0)]))))):=by kernel_rfl
theorem Bk (m:Int):wpF CC Gv an0 Tryz.f265 [.c (.int .i64 m)] Q=(
 Q [Bx (Dd (m !=m))]):=by kernel_rfl
theorem E2 (p q r s:Bool) (es fs gs hs:List (List D)):wpF CC Gv an0 Tryz.f98 [.ag [.bool p,.sl es,.bool q,.sl fs],.ag [.bool r,.sl gs,.bool s,.sl hs]] Q=(
 ∃n,Gv 148 [Aw [Dd p,F0 es,Dd q,F0 fs]] [Bx (F2 .i64 n)]∧∃n1,Gv 148 [Aw [Dd r,F0 gs,Dd s,F0 hs]] [Bx (F2 .i64 n1)]∧∃n2,Gv 182 [Bx (F2 .i64 n),Bx (F2 .i64 n1)] [Bx (F2 .i64 n2)]∧br (toB (Dd (n2 !=0))) (Q [Bx (F2 .i64 n2)]) (∃b e1,Gv 101 [Aw [Dd p,F0 es],Aw [Dd s,F0 hs]] [Aw [Dd b,F0 e1]]∧∃b1 es,Gv 101 [Aw [Dd r,F0 gs],Aw [Dd q,F0 fs]] [Aw [Dd b1,F0 es]]∧∃n,Gv 183 [Aw [Dd b,F0 e1],Aw [Dd b1,F0 es]] [Bx (F2 .i64 n)]∧Q [Bx (F2 .i64 n)])):=by kernel_rfl
theorem E3 (p q r s:Bool) (es fs gs hs:List (List D)):wpF CC Gv an0 Tryz.f180 [.ag [.bool p,.sl es,.bool q,.sl fs],.ag [.bool r,.sl gs,.bool s,.sl hs]] Q=(
 ∃n,Gv 183 [Aw [Dd q,F0 fs],Aw [Dd s,F0 hs]] [Bx (F2 .i64 n)]∧br (toB (Dd (n==0))) (∃b e1,Gv 235 [Aw [Dd p,F0 es],Aw [Dd r,F0 gs]] [Aw [Dd b,F0 e1]]∧∃b1 es b2 e2,Gv 100 [Aw [Dd b,F0 e1],Aw [Dd q,F0 fs]] [Aw [Dd b1,F0 es,Dd b2,F0 e2]]∧Q [Aw [Dd b1,F0 es,Dd b2,F0 e2]]) (∃b e1,Gv 101 [Aw [Dd p,F0 es],Aw [Dd s,F0 hs]] [Aw [Dd b,F0 e1]]∧∃b1 es,Gv 101 [Aw [Dd r,F0 gs],Aw [Dd q,F0 fs]] [Aw [Dd b1,F0 es]]∧∃b2 e2,Gv 235 [Aw [Dd b,F0 e1],Aw [Dd b1,F0 es]] [Aw [Dd b2,F0 e2]]∧∃b es,Gv 101 [Aw [Dd q,F0 fs],Aw [Dd s,F0 hs]] [Aw [Dd b,F0 es]]∧∃b3 e3 b4 e4,Gv 100 [Aw [Dd b2,F0 e2],Aw [Dd b,F0 es]] [Aw [Dd b3,F0 e3,Dd b4,F0 e4]]∧Q [Aw [Dd b3,F0 e3,Dd b4,F0 e4]])):=by kernel_rfl
theorem E4 (p q r s:Bool) (es fs gs hs:List (List D)):wpF CC Gv an0 Tryz.f97 [.ag [.bool p,.sl es,.bool q,.sl fs],.ag [.bool r,.sl gs,.bool s,.sl hs]] Q=(
 ∃b e1 b1 e2,Gv 181 [Aw [Dd r,F0 gs,Dd s,F0 hs]] [Aw [Dd b,F0 e1,Dd b1,F0 e2]]∧∃b2 e3 b3 e4,Gv 180 [Aw [Dd p,F0 es,Dd q,F0 fs],Aw [Dd b,F0 e1,Dd b1,F0 e2]] [Aw [Dd b2,F0 e3,Dd b3,F0 e4]]∧Q [Aw [Dd b2,F0 e3,Dd b3,F0 e4]]):=by kernel_rfl
theorem E5 (p q:Bool) (es fs:List (List D)):wpF CC Gv an0 Tryz.f181 [.ag [.bool p,.sl es,.bool q,.sl fs]] Q=(
 ∃b e1,Gv 185 [Aw [Dd p,F0 es]] [Aw [Dd b,F0 e1]]∧Q [Aw [Dd b,F0 e1,Dd q,F0 fs]]):=by kernel_rfl
theorem E6 (p q r s:Bool) (es fs gs hs:List (List D)):wpF CC Gv an0 Tryz.f50 [.ag [.bool p,.sl es,.bool q,.sl fs],.ag [.bool r,.sl gs,.bool s,.sl hs]] Q=(
 ∃b e1,Gv 101 [Aw [Dd p,F0 es],Aw [Dd r,F0 gs]] [Aw [Dd b,F0 e1]]∧∃b1 es,Gv 101 [Aw [Dd q,F0 fs],Aw [Dd s,F0 hs]] [Aw [Dd b1,F0 es]]∧∃b2 e2 b3 e3,Gv 100 [Aw [Dd b,F0 e1],Aw [Dd b1,F0 es]] [Aw [Dd b2,F0 e2,Dd b3,F0 e3]]∧Q [Aw [Dd b2,F0 e2,Dd b3,F0 e3]]):=by kernel_rfl
end
end Eng
end

section
namespace Eng
open Go Go.Proofs
set_option maxRecDepth 100000
def cR (r:Rat):List D:=cI r.num++cI (r.den:Int)
def xk (r:Rat):A:= .ag (cR r)
theorem YV:Sm 1:=by unfold Sm;decide
theorem XX:qf CC 187 [] [qJ 1]:=by
 refine qg (anns:=an0) mixedT Tryz.func187 ?_;rw[E1];exact⟨_,_,up (xb (n:=1) (by omega) (by omega)),rfl⟩
theorem YW (hd:V8) {x y:Int} (hx:Sm x) (hy:Sm y) (hy0:0<y):qf CC 188 [qJ x,qJ y] [qJ (x/y)]:=by
 refine qg (anns:=an0) mixedT Tryz.func188 ?_;rw[show qJ x= .ag (cI x)from rfl,show qJ y= .ag (cI y)from rfl,cI,cI,Bi];exact⟨_,_,_,_,_,QF hd hx hy hy0,rfl⟩
theorem UX {x:Int} (h:Sm x):Sm (-x):=by unfold Sm at *;rw[Hx];exact h
theorem PF {g:Nat} (hg:0<g):(yz (g:Int) 1 !=0)=decide (g≠1):=by
 unfold yz;by_cases h:g=1
 ·subst h;rfl
 ·rw[if_neg (by omega),if_pos (by omega),decide_eq_true h];rfl
theorem jk {n d:Int} (hd:0<d):(J6 n d).num=n/(J3 n.natAbs d.natAbs:Nat)∧((J6 n d).den:Int)=d/(J3 n.natAbs d.natAbs:Nat):=by
 have e:d.gcd n=J3 n.natAbs d.natAbs:=by rw[Int.gcd_comm];rfl
 refine⟨?_,?_⟩
 ·rw[Rat.num_divInt,Int.sign_eq_one_of_pos hd,Int.one_mul,e]
 ·rw[Rat.den_divInt,if_neg (by omega),e];obtain⟨k,rfl⟩:∃k:Nat,d=(k:Int):=⟨d.toNat,by omega⟩;rw[Int.natAbs_natCast,Int.natCast_ediv]
theorem ja {n d:Int} (hd:0<d):xk (J6 n d)= .ag (cI (n/(J3 n.natAbs d.natAbs:Nat))++cI (d/(J3 n.natAbs d.natAbs:Nat))):=by
 unfold xk cR;rw[(jk hd).1,(jk hd).2]
theorem kK (hd:V8) {x y:Int} (hx:Sm x) (hy:Sm y) (hy0:y≠0):qf CC 100 [qJ x,qJ y] [xk (J6 x y)]:=by
 refine qg (anns:=an0) mixedT Tryz.func100 ?_;have hS:=up (vF y);have a0:∀{u v:Int},Sm u→Sm v→0<v→∃g:Nat,g=J3 u.natAbs v.natAbs∧qf CC 186 [qJ u,qJ v] [qJ (g:Int)]∧qf CC 183 [qJ (g:Int),qJ 1] [.c (.int .i64 (yz g 1))]∧0<g∧qf CC 188 [qJ u,qJ (g:Int)] [qJ (u/g)]∧qf CC 188 [qJ v,qJ (g:Int)] [qJ (v/g)]:=by intro u v hu hv hv0;refine⟨_,rfl,Gx hd hu hv,?_⟩;have hgp:0<J3 u.natAbs v.natAbs:=Nat.gcd_pos_of_pos_right _ (by omega);have a1:Sm (J3 u.natAbs v.natAbs:Nat):=smN.2 (Nat.lt_of_le_of_lt (Nat.gcd_le_right _ (by omega)) hv);exact⟨up (Jr a1 YV),hgp,YW hd hu a1 (by omega),YW hd hv a1 (by omega)⟩
 rw[show qJ x= .ag (cI x)from rfl,show qJ y= .ag (cI y)from rfl];rw[cI,cI,PE];refine⟨_,hS,?_⟩;refine brd (fun h=>?_) (fun h=>?_)
 ·have a2:y<0:=by
   unfold sgn at h;split at h
   ·assumption
   ·split at h<;>omega
  obtain⟨g,hg,h1,h2,h3,h4,h5⟩:=a0 (UX hx) (UX hy) (by omega);refine⟨_,_,up (Hw hx),_,_,up (Hw hy),_,_,h1,_,_,XX,_,h2,?_⟩;have he:xk (J6 x y)= .ag (cI ((-x)/(g:Int))++cI ((-y)/(g:Int))):=by
   have:J6 x y=J6 (-x) (-y):=by rw[Rat.neg_divInt_neg]
   rw[this,ja (by omega),hg]
  refine brb (fun h=>?_) (fun h=>?_)
  ·refine⟨_,_,h4,_,_,h5,?_⟩;rw[he];rfl
  ·rw[PF h3]at h;have:g=1:=by simpa using h
   rw[he,this];rw[show((1:Nat):Int)=1 from rfl,Hu,Hu];rfl
 ·have a2:0<y:=by
   unfold sgn at h;split at h
   ·omega
   ·omega
  obtain⟨g,hg,h1,h2,h3,h4,h5⟩:=a0 hx hy a2;refine⟨_,_,h1,_,_,XX,_,h2,?_⟩;have he:xk (J6 x y)= .ag (cI (x/(g:Int))++cI (y/(g:Int))):=by rw[ja a2,hg]
  refine brb (fun h=>?_) (fun h=>?_)
  ·refine⟨_,_,h4,_,_,h5,?_⟩;rw[he];rfl
  ·rw[PF h3]at h;have:g=1:=by simpa using h
   rw[he,this];rw[show((1:Nat):Int)=1 from rfl,Hu,Hu];rfl
end Eng
end

section
namespace Eng
open Go Go.Proofs
set_option maxRecDepth 100000
def y4:Nat:=(1000000000^100)^4
def Sq (z:Int):Prop:=z.natAbs<y4
def Sr (r:Rat):Prop:=Sq r.num∧Sq (r.den:Int)
theorem UY:y4*y4*2≤JY:=by decide
theorem Sq.sm {z:Int} (h:Sq z):Sm z:=by
 have h0:y4≤JY:=by decide
 exact Nat.lt_of_lt_of_le h h0
theorem Sq.mul {x y:Int} (hx:Sq x) (hy:Sq y):Sm (x*y):=by
 unfold Sm;rw[Hy];have:=J4 hx hy;have:=UY;omega
theorem Sq.mul_add {a b c d:Int} (ha:Sq a) (hb:Sq b) (hc:Sq c) (hd:Sq d):Sm (a*b+c*d):=by
 unfold Sm;have h1:=J4 ha hb;have h2:=J4 hc hd;rw[←Hy]at h1 h2;have:=UY;omega
theorem Sq.add {a b:Int} (ha:Sq a) (hb:Sq b):Sm (a+b):=by
 unfold Sm;have h0:y4*2≤JY:=by decide
 have h1:a.natAbs<y4:=ha;have h2:b.natAbs<y4:=hb;omega
theorem den_pos (r:Rat):0<(r.den:Int):=by have:=r.den_pos;omega
theorem qb (r:Rat):xk r= .ag [.bool (decide (r.num<0)),.sl (raw (lim r.num.natAbs)),.bool (decide ((r.den:Int)<0)),.sl (raw (lim (r.den:Int).natAbs))]:=rfl
theorem qm (z:Int):qJ z= .ag [.bool (decide (z<0)),.sl (raw (lim z.natAbs))]:=rfl
theorem XY (r:Rat):qf CC 148 [xk r] [.c (.int .i64 (sgn r.num))]:=by
 refine qg (anns:=an0) mixedT Tryz.func148 ?_;rw[qb,Bj];exact⟨_,up (vF r.num),rfl⟩
theorem UZ (n:Int):qf CC 265 [.c (.int .i64 n)] [.c (.bool false)]:=by
 refine qg (anns:=an0) mixedT Tryz.func265 ?_;rw[Bk];simp
theorem Vg (m n:Int):qf CC 182 [.c (.int .i64 m),.c (.int .i64 n)] [.c (.int .i64 (yz m n))]:=by
 refine qg (anns:=an0) mixedT Tryz.func182 ?_;rw[Vf];refine⟨_,UZ m,_,UZ n,?_⟩;refine jm (fun h=>by simp at h) (fun _=>?_);refine jm (fun h=>by simp at h) (fun _=>?_);unfold yz;refine brd (fun h=>?_) (fun h=>?_)
 ·rw[if_pos h]
 ·rw[if_neg h];refine brd (fun h=>?_) (fun h=>?_)
  ·rw[if_pos h]
  ·rw[if_neg h]
def Bl (x y:Rat):Int:=if x<y then-1 else if y<x then 1 else 0
theorem JC (x y:Rat):Bl x y=yz (x.num*y.den) (y.num*x.den):=by
 unfold Bl yz;simp only[Rat.lt_iff]
theorem H9 {x y:Rat} (hx:Sr x) (hy:Sr y):qf CC 98 [xk x,xk y] [.c (.int .i64 (Bl x y))]:=by
 refine qg (anns:=an0) mixedT Tryz.func98 ?_;have h1:=XY x;have h2:=XY y;rw[qb]at h1 h2;rw[qb,qb,E2];refine⟨_,h1,_,h2,_,Vg _ _,?_⟩;have hm1:=up (kp hx.1.sm hy.2.sm);have hm2:=up (kp hy.1.sm hx.2.sm);have hc:=up (Jr (hx.1.mul hy.2) (hy.1.mul hx.2));have px:=den_pos x;have py:=den_pos y;refine brb (fun h=>?_) (fun h=>?_)
 ·have e:yz (sgn x.num) (sgn y.num)=Bl x y:=by
   rw[JC];have hs:∀(z d:Int),0<d→sgn (z*d)=sgn z:=by
    intro z d a0;unfold sgn;rcases Int.lt_trichotomy z 0 with h|h|h
    ·have:=Int.mul_neg_of_neg_of_pos h a0;rw[if_pos h,if_pos this]
    ·subst h;simp
    ·have:=Hv h a0;rw[if_neg (show ¬z<0 by omega),if_pos h,if_neg (show ¬z*d<0 by omega),if_pos this]
   rw[←hs x.num _ py,←hs y.num _ px]at h ⊢;generalize x.num*(y.den:Int)=a at *;generalize y.num*(x.den:Int)=b at *;unfold yz sgn at *;simp only[bne_iff_ne,ne_eq]at h;split at h<;>split at h<;>(try split at h)<;>(try split at h)<;>split<;>(try split)<;>omega
  rw[e]
 ·rw[JC];exact⟨_,_,hm1,_,_,hm2,_,hc,rfl⟩
theorem HA {x:Rat} (hx:Sr x):qf CC 181 [xk x] [xk (-x)]:=by
 refine qg (anns:=an0) mixedT Tryz.func181 ?_;rw[qb,E5];refine⟨_,_,up (Hw hx.1.sm),?_⟩;rw[qb,J9];have:(-x).den=x.den:=rfl;rw[this]
theorem Vh (hd:V8) {x y:Rat} (hx:Sr x) (hy:Sr y):qf CC 50 [xk x,xk y] [xk (x*y)]:=by
 refine qg (anns:=an0) mixedT Tryz.func50 ?_;rw[qb,qb,E6];have px:=den_pos x;have py:=den_pos y;have:=Hv px py;refine⟨_,_,up (kp hx.1.sm hy.1.sm),_,_,up (kp hx.2.sm hy.2.sm),_,_,_,_,kK hd (hx.1.mul hy.1) (hx.2.mul hy.2) (by omega),?_⟩;have e:x*y=J6 (x.num*y.num) (x.den*y.den):=by rw[←Rat.divInt_mul_divInt,J7,J7]
 rw[e];rfl
theorem PG (hd:V8) {x y:Rat} (hx:Sr x) (hy:Sr y):qf CC 180 [xk x,xk y] [xk (x+y)]:=by
 refine qg (anns:=an0) mixedT Tryz.func180 ?_;rw[qb,qb,E3];have px:=den_pos x;have py:=den_pos y;have hp:=Hv px py;have e0:x+y=J6 (x.num*y.den+y.num*x.den) (x.den*y.den):=by rw[←Rat.divInt_add_divInt _ _ (by omega) (by omega),J7,J7]
 refine⟨_,up (Jr hx.2.sm hy.2.sm),?_⟩;refine brb (fun h=>?_) (fun h=>?_)
 ·have hxy:(x.den:Int)=y.den:=by
   unfold yz at h;split at h
   ·simp at h
   ·split at h
    ·simp at h
    ·omega
  have e1:x+y=J6 (x.num+y.num) x.den:=by rw[e0,←hxy,←Int.add_mul,Rat.divInt_mul_right (by omega)]
  refine⟨_,_,up (Js hx.1.sm hy.1.sm),_,_,_,_,kK hd (hx.1.add hy.1) hx.2.sm (by omega),?_⟩;rw[e1];rfl
 ·refine⟨_,_,up (kp hx.1.sm hy.2.sm),_,_,up (kp hy.1.sm hx.2.sm),_,_,up (Js (hx.1.mul hy.2) (hy.1.mul hx.2)),_,_,up (kp hx.2.sm hy.2.sm),_,_,_,_,kK hd (hx.1.mul_add hy.2 hy.1 hx.2) (hx.2.mul hy.2) (by omega),?_⟩;rw[e0];rfl
theorem Sr.neg {x:Rat} (h:Sr x):Sr (-x):=by
 refine⟨?_,h.2⟩;rw[J9];unfold Sq;rw[Hx];exact h.1
theorem E7 (hd:V8) {x y:Rat} (hx:Sr x) (hy:Sr y):qf CC 97 [xk x,xk y] [xk (x-y)]:=by
 refine qg (anns:=an0) mixedT Tryz.func97 ?_;rw[qb,qb,E4];refine⟨_,_,_,_,HA hy,_,_,_,_,PG hd hx hy.neg,?_⟩;rw[Rat.sub_eq_add_neg];rfl
theorem wz {n:Int} (h1: -9223372036854775808≤n) (h2:n<9223372036854775808):qf CC 121 [.c (.int .i64 n)] [xk (n:Rat)]:=by
 have hw:qf CC 219 [qJ n] [xk (n:Rat)]:=by refine qg (anns:=an0) mixedT Tryz.func219 ?_;rw[qm,Bh];refine⟨_,_,XX,?_⟩;rw[qb,Rat.num_intCast,Rat.den_intCast];rfl
 refine qg (anns:=an0) mixedT Tryz.func121 ?_;rw[Ve];exact⟨_,_,up (xb h1 h2),_,_,_,_,hw,rfl⟩
end Eng
end
