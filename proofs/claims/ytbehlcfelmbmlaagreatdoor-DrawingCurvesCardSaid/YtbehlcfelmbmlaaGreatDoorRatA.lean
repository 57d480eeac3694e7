/- The verification conditions of functions, printed by a program (vcgen.py) and checked by the kernel. -/
import Derived.Test.YtbehlcfelmbmlaaGreatDoorCtxB
import Derived.KernelRfl
open Eng.A renaming ag→Aa, c→Ab
open Eng.D renaming bool→Ac, sl→Ad, int→Ae
open Int renaming ediv_one→Af, mul_pos→Ah, natAbs_neg→Ai, natAbs_mul→Aj
open Nat renaming gcd→Ak, mul_lt_mul''→Al
open Rat renaming divInt→Am, num_divInt_den→An, neg_num→Ao
section
namespace Eng
open Go Go.Proofs
set_option maxRecDepth 1000000
section
variable (Gv:Nat→List A→List A→Prop) (Q:List A→Prop) (I0 I1 I2 I3:List D→List D→Prop) (M0 M1 M2 M3:List D→Nat)
theorem Pr:wpF CC Gv an0 Tryz.f187 [] Q=(
 ∃b es,Gv 136 [Ab (Ae .i64 1)] [Aa [Ac b,Ad es]]∧Q [Aa [Ac b,Ad es]]):=by kernel_rfl
theorem MD (p:Bool) (es:List (List D)):wpF CC Gv an0 Tryz.f219 [.ag [.bool p,.sl es]] Q=(
 ∃b e1,Gv 187 [] [Aa [Ac b,Ad e1]]∧Q [Aa [Ac p,Ad es,Ac b,Ad e1]]):=by kernel_rfl
theorem Zy (n:Int):wpF CC Gv an0 Tryz.f121 [.c (.int .i64 n)] Q=(
 ∃b es,Gv 136 [Ab (Ae .i64 n)] [Aa [Ac b,Ad es]]∧∃b1 e1 b2 e2,Gv 219 [Aa [Ac b,Ad es]] [Aa [Ac b1,Ad e1,Ac b2,Ad e2]]∧Q [Aa [Ac b1,Ad e1,Ac b2,Ad e2]]):=by kernel_rfl
theorem ME (p q:Bool) (es fs:List (List D)):wpF CC Gv an0 Tryz.f188 [.ag [.bool p,.sl es],.ag [.bool q,.sl fs]] Q=(
 ∃b e1 b1 e2 n,Gv 137 [Aa [Ac p,Ad es],Aa [Ac q,Ad fs]] [Aa [Ac b,Ad e1],Aa [Ac b1,Ad e2],Ab (Ae .i64 n)]∧Q [Aa [Ac b,Ad e1]]):=by kernel_rfl
theorem UU (p q:Bool) (es fs:List (List D)):wpF CC Gv an0 Tryz.f100 [.ag [.bool p,.sl es],.ag [.bool q,.sl fs]] Q=(
 ∃n,Gv 138 [Aa [Ac q,Ad fs]] [Ab (Ae .i64 n)]∧br (toB (Ac (decide (n<0)))) (∃b e1,Gv 185 [Aa [Ac p,Ad es]] [Aa [Ac b,Ad e1]]∧∃b1 es,Gv 185 [Aa [Ac q,Ad fs]] [Aa [Ac b1,Ad es]]∧∃b2 e2,Gv 186 [Aa [Ac b,Ad e1],Aa [Ac b1,Ad es]] [Aa [Ac b2,Ad e2]]∧∃b3 e3,Gv 187 [] [Aa [Ac b3,Ad e3]]∧∃n,Gv 183 [Aa [Ac b2,Ad e2],Aa [Ac b3,Ad e3]] [Ab (Ae .i64 n)]∧br (toB (Ac (n !=0))) (∃b4 e4,Gv 188 [Aa [Ac b,Ad e1],Aa [Ac b2,Ad e2]] [Aa [Ac b4,Ad e4]]∧∃b e5,Gv 188 [Aa [Ac b1,Ad es],Aa [Ac b2,Ad e2]] [Aa [Ac b,Ad e5]]∧Q [Aa [Ac b4,Ad e4,Ac b,Ad e5]]) (Q [Aa [Ac b,Ad e1,Ac b1,Ad es]])) (∃b e1,Gv 186 [Aa [Ac p,Ad es],Aa [Ac q,Ad fs]] [Aa [Ac b,Ad e1]]∧∃b1 e2,Gv 187 [] [Aa [Ac b1,Ad e2]]∧∃n,Gv 183 [Aa [Ac b,Ad e1],Aa [Ac b1,Ad e2]] [Ab (Ae .i64 n)]∧br (toB (Ac (n !=0))) (∃b2 e3,Gv 188 [Aa [Ac p,Ad es],Aa [Ac b,Ad e1]] [Aa [Ac b2,Ad e3]]∧∃b3 es,Gv 188 [Aa [Ac q,Ad fs],Aa [Ac b,Ad e1]] [Aa [Ac b3,Ad es]]∧Q [Aa [Ac b2,Ad e3,Ac b3,Ad es]]) (Q [Aa [Ac p,Ad es,Ac q,Ad fs]]))):=by kernel_rfl
theorem MF (p q:Bool) (es fs:List (List D)):wpF CC Gv an0 Tryz.f148 [.ag [.bool p,.sl es,.bool q,.sl fs]] Q=(
 ∃n,Gv 138 [Aa [Ac p,Ad es]] [Ab (Ae .i64 n)]∧Q [Ab (Ae .i64 n)]):=by kernel_rfl
theorem Zz (m n:Int):wpF CC Gv an0 Tryz.f182 [.c (.int .i64 m),.c (.int .i64 n)] Q=(
 ∃b,Gv 265 [Ab (Ae .i64 m)] [Ab (Ac b)]∧∃b1,Gv 265 [Ab (Ae .i64 n)] [Ab (Ac b1)]∧br b (br b1 (Q [Ab (Ae .i64 0)]) (Q [Ab (Ae .i64 (-1))])) (br b1 (Q [Ab (Ae .i64 1)]) (br (toB (Ac (decide (m<n)))) (Q [Ab (Ae .i64 (-1))]) (br (toB (Ac (decide (m>n)))) (Q [Ab (Ae .i64 1)]) (Q [Ab (Ae .i64 0)]))))):=by kernel_rfl
theorem MG (m:Int):wpF CC Gv an0 Tryz.f265 [.c (.int .i64 m)] Q=(
 Q [Ab (Ac (m !=m))]):=by kernel_rfl
theorem Ps (p q r s:Bool) (es fs gs hs:List (List D)):wpF CC Gv an0 Tryz.f98 [.ag [.bool p,.sl es,.bool q,.sl fs],.ag [.bool r,.sl gs,.bool s,.sl hs]] Q=(
 ∃n,Gv 148 [Aa [Ac p,Ad es,Ac q,Ad fs]] [Ab (Ae .i64 n)]∧∃n1,Gv 148 [Aa [Ac r,Ad gs,Ac s,Ad hs]] [Ab (Ae .i64 n1)]∧∃n2,Gv 182 [Ab (Ae .i64 n),Ab (Ae .i64 n1)] [Ab (Ae .i64 n2)]∧br (toB (Ac (n2 !=0))) (Q [Ab (Ae .i64 n2)]) (∃b e1,Gv 101 [Aa [Ac p,Ad es],Aa [Ac s,Ad hs]] [Aa [Ac b,Ad e1]]∧∃b1 es,Gv 101 [Aa [Ac r,Ad gs],Aa [Ac q,Ad fs]] [Aa [Ac b1,Ad es]]∧∃n,Gv 183 [Aa [Ac b,Ad e1],Aa [Ac b1,Ad es]] [Ab (Ae .i64 n)]∧Q [Ab (Ae .i64 n)])):=by kernel_rfl
theorem Pu (p q r s:Bool) (es fs gs hs:List (List D)):wpF CC Gv an0 Tryz.f180 [.ag [.bool p,.sl es,.bool q,.sl fs],.ag [.bool r,.sl gs,.bool s,.sl hs]] Q=(
 ∃n,Gv 183 [Aa [Ac q,Ad fs],Aa [Ac s,Ad hs]] [Ab (Ae .i64 n)]∧br (toB (Ac (n==0))) (∃b e1,Gv 235 [Aa [Ac p,Ad es],Aa [Ac r,Ad gs]] [Aa [Ac b,Ad e1]]∧∃b1 es b2 e2,Gv 100 [Aa [Ac b,Ad e1],Aa [Ac q,Ad fs]] [Aa [Ac b1,Ad es,Ac b2,Ad e2]]∧Q [Aa [Ac b1,Ad es,Ac b2,Ad e2]]) (∃b e1,Gv 101 [Aa [Ac p,Ad es],Aa [Ac s,Ad hs]] [Aa [Ac b,Ad e1]]∧∃b1 es,Gv 101 [Aa [Ac r,Ad gs],Aa [Ac q,Ad fs]] [Aa [Ac b1,Ad es]]∧∃b2 e2,Gv 235 [Aa [Ac b,Ad e1],Aa [Ac b1,Ad es]] [Aa [Ac b2,Ad e2]]∧∃b es,Gv 101 [Aa [Ac q,Ad fs],Aa [Ac s,Ad hs]] [Aa [Ac b,Ad es]]∧∃b3 e3 b4 e4,Gv 100 [Aa [Ac b2,Ad e2],Aa [Ac b,Ad es]] [Aa [Ac b3,Ad e3,Ac b4,Ad e4]]∧Q [Aa [Ac b3,Ad e3,Ac b4,Ad e4]])):=by kernel_rfl
theorem Pv (p q r s:Bool) (es fs gs hs:List (List D)):wpF CC Gv an0 Tryz.f97 [.ag [.bool p,.sl es,.bool q,.sl fs],.ag [.bool r,.sl gs,.bool s,.sl hs]] Q=(
 ∃b e1 b1 e2,Gv 181 [Aa [Ac r,Ad gs,Ac s,Ad hs]] [Aa [Ac b,Ad e1,Ac b1,Ad e2]]∧∃b2 e3 b3 e4,Gv 180 [Aa [Ac p,Ad es,Ac q,Ad fs],Aa [Ac b,Ad e1,Ac b1,Ad e2]] [Aa [Ac b2,Ad e3,Ac b3,Ad e4]]∧Q [Aa [Ac b2,Ad e3,Ac b3,Ad e4]]):=by kernel_rfl
theorem Pw (p q:Bool) (es fs:List (List D)):wpF CC Gv an0 Tryz.f181 [.ag [.bool p,.sl es,.bool q,.sl fs]] Q=(
 ∃b e1,Gv 185 [Aa [Ac p,Ad es]] [Aa [Ac b,Ad e1]]∧Q [Aa [Ac b,Ad e1,Ac q,Ad fs]]):=by kernel_rfl
theorem Px (p q r s:Bool) (es fs gs hs:List (List D)):wpF CC Gv an0 Tryz.f50 [.ag [.bool p,.sl es,.bool q,.sl fs],.ag [.bool r,.sl gs,.bool s,.sl hs]] Q=(
 ∃b e1,Gv 101 [Aa [Ac p,Ad es],Aa [Ac r,Ad gs]] [Aa [Ac b,Ad e1]]∧∃b1 es,Gv 101 [Aa [Ac q,Ad fs],Aa [Ac s,Ad hs]] [Aa [Ac b1,Ad es]]∧∃b2 e2 b3 e3,Gv 100 [Aa [Ac b,Ad e1],Aa [Ac b1,Ad es]] [Aa [Ac b2,Ad e2,Ac b3,Ad e3]]∧Q [Aa [Ac b2,Ad e2,Ac b3,Ad e3]]):=by kernel_rfl
end
end Eng
end

section
namespace Eng
open Go Go.Proofs
set_option maxRecDepth 100000
def cR (r:Rat):List D:=cI r.num++cI (r.den:Int)
def qC (r:Rat):A:= .ag (cR r)
theorem VQ:Sm 1:=by unfold Sm;decide
theorem Z0:qe CC 187 [] [qH 1]:=by
 refine qf (anns:=an0) mixedT Tryz.func187 ?_;rw[Pr];exact⟨_,_,up (zk (n:=1) (by omega) (by omega)),rfl⟩
theorem JV (hd:zn) {x y:Int} (hx:Sm x) (hy:Sm y) (hy0:0<y):qe CC 188 [qH x,qH y] [qH (x/y)]:=by
 refine qf (anns:=an0) mixedT Tryz.func188 ?_;rw[show qH x= .ag (cI x)from rfl,show qH y= .ag (cI y)from rfl,cI,cI,ME];exact⟨_,_,_,_,_,kB hd hx hy hy0,rfl⟩
theorem VR {x:Int} (h:Sm x):Sm (-x):=by unfold Sm at *;rw[Ai];exact h
theorem UV {g:Nat} (hg:0<g):(vH (g:Int) 1 !=0)=decide (g≠1):=by
 unfold vH;by_cases h:g=1
 ·subst h;rfl
 ·rw[if_neg (by omega),if_pos (by omega),decide_eq_true h];rfl
theorem k5 {n d:Int} (hd:0<d):(Am n d).num=n/(Ak n.natAbs d.natAbs:Nat)∧((Am n d).den:Int)=d/(Ak n.natAbs d.natAbs:Nat):=by
 have e:d.gcd n=Ak n.natAbs d.natAbs:=by rw[Int.gcd_comm];rfl
 refine⟨?_,?_⟩
 ·rw[Rat.num_divInt,Int.sign_eq_one_of_pos hd,Int.one_mul,e]
 ·rw[Rat.den_divInt,if_neg (by omega),e];obtain⟨k,rfl⟩:∃k:Nat,d=(k:Int):=⟨d.toNat,by omega⟩;rw[Int.natAbs_natCast,Int.natCast_ediv]
theorem zx {n d:Int} (hd:0<d):qC (Am n d)= .ag (cI (n/(Ak n.natAbs d.natAbs:Nat))++cI (d/(Ak n.natAbs d.natAbs:Nat))):=by
 unfold qC cR;rw[(k5 hd).1,(k5 hd).2]
theorem kK (hd:zn) {x y:Int} (hx:Sm x) (hy:Sm y) (hy0:y≠0):qe CC 100 [qH x,qH y] [qC (Am x y)]:=by
 refine qf (anns:=an0) mixedT Tryz.func100 ?_;have hS:=up (VI y);have a0:∀{u v:Int},Sm u→Sm v→0<v→∃g:Nat,g=Ak u.natAbs v.natAbs∧qe CC 186 [qH u,qH v] [qH (g:Int)]∧qe CC 183 [qH (g:Int),qH 1] [.c (.int .i64 (vH g 1))]∧0<g∧qe CC 188 [qH u,qH (g:Int)] [qH (u/g)]∧qe CC 188 [qH v,qH (g:Int)] [qH (v/g)]:=by intro u v hu hv hv0;refine⟨_,rfl,GD hd hu hv,?_⟩;have hgp:0<Ak u.natAbs v.natAbs:=Nat.gcd_pos_of_pos_right _ (by omega);have a1:Sm (Ak u.natAbs v.natAbs:Nat):=smN.2 (Nat.lt_of_le_of_lt (Nat.gcd_le_right _ (by omega)) hv);exact⟨up (vI a1 VQ),hgp,JV hd hu a1 (by omega),JV hd hv a1 (by omega)⟩
 rw[show qH x= .ag (cI x)from rfl,show qH y= .ag (cI y)from rfl];rw[cI,cI,UU];refine⟨_,hS,?_⟩;refine brd (fun h=>?_) (fun h=>?_)
 ·have a2:y<0:=by
   unfold sgn at h;split at h
   ·assumption
   ·split at h<;>omega
  obtain⟨g,hg,h1,h2,h3,h4,h5⟩:=a0 (VR hx) (VR hy) (by omega);refine⟨_,_,up (Wt hx),_,_,up (Wt hy),_,_,h1,_,_,Z0,_,h2,?_⟩;have he:qC (Am x y)= .ag (cI ((-x)/(g:Int))++cI ((-y)/(g:Int))):=by
   have:Am x y=Am (-x) (-y):=by rw[Rat.neg_divInt_neg]
   rw[this,zx (by omega),hg]
  refine brb (fun h=>?_) (fun h=>?_)
  ·refine⟨_,_,h4,_,_,h5,?_⟩;rw[he];rfl
  ·rw[UV h3]at h;have:g=1:=by simpa using h
   rw[he,this];rw[show((1:Nat):Int)=1 from rfl,Af,Af];rfl
 ·have a2:0<y:=by
   unfold sgn at h;split at h
   ·omega
   ·omega
  obtain⟨g,hg,h1,h2,h3,h4,h5⟩:=a0 hx hy a2;refine⟨_,_,h1,_,_,Z0,_,h2,?_⟩;have he:qC (Am x y)= .ag (cI (x/(g:Int))++cI (y/(g:Int))):=by rw[zx a2,hg]
  refine brb (fun h=>?_) (fun h=>?_)
  ·refine⟨_,_,h4,_,_,h5,?_⟩;rw[he];rfl
  ·rw[UV h3]at h;have:g=1:=by simpa using h
   rw[he,this];rw[show((1:Nat):Int)=1 from rfl,Af,Af];rfl
end Eng
end

section
namespace Eng
open Go Go.Proofs
set_option maxRecDepth 100000
def kN:Nat:=(1000000000^100)^4
def Sq (z:Int):Prop:=z.natAbs<kN
def Sr (r:Rat):Prop:=Sq r.num∧Sq (r.den:Int)
theorem VT:kN*kN*2≤X1:=by decide
theorem Sq.sm {z:Int} (h:Sq z):Sm z:=by
 have h0:kN≤X1:=by decide
 exact Nat.lt_of_lt_of_le h h0
theorem Sq.mul {x y:Int} (hx:Sq x) (hy:Sq y):Sm (x*y):=by
 unfold Sm;rw[Aj];have:=Al hx hy;have:=VT;omega
theorem Sq.mul_add {a b c d:Int} (ha:Sq a) (hb:Sq b) (hc:Sq c) (hd:Sq d):Sm (a*b+c*d):=by
 unfold Sm;have h1:=Al ha hb;have h2:=Al hc hd;rw[←Aj]at h1 h2;have:=VT;omega
theorem Sq.add {a b:Int} (ha:Sq a) (hb:Sq b):Sm (a+b):=by
 unfold Sm;have h0:kN*2≤X1:=by decide
 have h1:a.natAbs<kN:=ha;have h2:b.natAbs<kN:=hb;omega
theorem den_pos (r:Rat):0<(r.den:Int):=by have:=r.den_pos;omega
theorem qg (r:Rat):qC r= .ag [.bool (decide (r.num<0)),.sl (raw (lim r.num.natAbs)),.bool (decide ((r.den:Int)<0)),.sl (raw (lim (r.den:Int).natAbs))]:=rfl
theorem qZ (z:Int):qH z= .ag [.bool (decide (z<0)),.sl (raw (lim z.natAbs))]:=rfl
theorem zS (r:Rat):qe CC 148 [qC r] [.c (.int .i64 (sgn r.num))]:=by
 refine qf (anns:=an0) mixedT Tryz.func148 ?_;rw[qg,MF];exact⟨_,up (VI r.num),rfl⟩
theorem VU (n:Int):qe CC 265 [.c (.int .i64 n)] [.c (.bool false)]:=by
 refine qf (anns:=an0) mixedT Tryz.func265 ?_;rw[MG];simp
theorem Z1 (m n:Int):qe CC 182 [.c (.int .i64 m),.c (.int .i64 n)] [.c (.int .i64 (vH m n))]:=by
 refine qf (anns:=an0) mixedT Tryz.func182 ?_;rw[Zz];refine⟨_,VU m,_,VU n,?_⟩;refine jC (fun h=>by simp at h) (fun _=>?_);refine jC (fun h=>by simp at h) (fun _=>?_);unfold vH;refine brd (fun h=>?_) (fun h=>?_)
 ·rw[if_pos h]
 ·rw[if_neg h];refine brd (fun h=>?_) (fun h=>?_)
  ·rw[if_pos h]
  ·rw[if_neg h]
def Kf (x y:Rat):Int:=if x<y then-1 else if y<x then 1 else 0
theorem QB (x y:Rat):Kf x y=vH (x.num*y.den) (y.num*x.den):=by
 unfold Kf vH;simp only[Rat.lt_iff]
theorem UW {x y:Rat} (hx:Sr x) (hy:Sr y):qe CC 98 [qC x,qC y] [.c (.int .i64 (Kf x y))]:=by
 refine qf (anns:=an0) mixedT Tryz.func98 ?_;have h1:=zS x;have h2:=zS y;rw[qg]at h1 h2;rw[qg,qg,Ps];refine⟨_,h1,_,h2,_,Z1 _ _,?_⟩;have hm1:=up (jh hx.1.sm hy.2.sm);have hm2:=up (jh hy.1.sm hx.2.sm);have hc:=up (vI (hx.1.mul hy.2) (hy.1.mul hx.2));have px:=den_pos x;have py:=den_pos y;refine brb (fun h=>?_) (fun h=>?_)
 ·have e:vH (sgn x.num) (sgn y.num)=Kf x y:=by
   rw[QB];have hs:∀(z d:Int),0<d→sgn (z*d)=sgn z:=by
    intro z d a0;unfold sgn;rcases Int.lt_trichotomy z 0 with h|h|h
    ·have:=Int.mul_neg_of_neg_of_pos h a0;rw[if_pos h,if_pos this]
    ·subst h;simp
    ·have:=Ah h a0;rw[if_neg (show ¬z<0 by omega),if_pos h,if_neg (show ¬z*d<0 by omega),if_pos this]
   rw[←hs x.num _ py,←hs y.num _ px]at h ⊢;generalize x.num*(y.den:Int)=a at *;generalize y.num*(x.den:Int)=b at *;unfold vH sgn at *;simp only[bne_iff_ne,ne_eq]at h;split at h<;>split at h<;>(try split at h)<;>(try split at h)<;>split<;>(try split)<;>omega
  rw[e]
 ·rw[QB];exact⟨_,_,hm1,_,_,hm2,_,hc,rfl⟩
theorem Wy {x:Rat} (hx:Sr x):qe CC 181 [qC x] [qC (-x)]:=by
 refine qf (anns:=an0) mixedT Tryz.func181 ?_;rw[qg,Pw];refine⟨_,_,up (Wt hx.1.sm),?_⟩;rw[qg,Ao];have:(-x).den=x.den:=rfl;rw[this]
theorem vK (hd:zn) {x y:Rat} (hx:Sr x) (hy:Sr y):qe CC 50 [qC x,qC y] [qC (x*y)]:=by
 refine qf (anns:=an0) mixedT Tryz.func50 ?_;rw[qg,qg,Px];have px:=den_pos x;have py:=den_pos y;have:=Ah px py;refine⟨_,_,up (jh hx.1.sm hy.1.sm),_,_,up (jh hx.2.sm hy.2.sm),_,_,_,_,kK hd (hx.1.mul hy.1) (hx.2.mul hy.2) (by omega),?_⟩;have e:x*y=Am (x.num*y.num) (x.den*y.den):=by rw[←Rat.divInt_mul_divInt,An,An]
 rw[e];rfl
theorem Z2 (hd:zn) {x y:Rat} (hx:Sr x) (hy:Sr y):qe CC 180 [qC x,qC y] [qC (x+y)]:=by
 refine qf (anns:=an0) mixedT Tryz.func180 ?_;rw[qg,qg,Pu];have px:=den_pos x;have py:=den_pos y;have hp:=Ah px py;have e0:x+y=Am (x.num*y.den+y.num*x.den) (x.den*y.den):=by rw[←Rat.divInt_add_divInt _ _ (by omega) (by omega),An,An]
 refine⟨_,up (vI hx.2.sm hy.2.sm),?_⟩;refine brb (fun h=>?_) (fun h=>?_)
 ·have hxy:(x.den:Int)=y.den:=by
   unfold vH at h;split at h
   ·simp at h
   ·split at h
    ·simp at h
    ·omega
  have e1:x+y=Am (x.num+y.num) x.den:=by rw[e0,←hxy,←Int.add_mul,Rat.divInt_mul_right (by omega)]
  refine⟨_,_,up (vJ hx.1.sm hy.1.sm),_,_,_,_,kK hd (hx.1.add hy.1) hx.2.sm (by omega),?_⟩;rw[e1];rfl
 ·refine⟨_,_,up (jh hx.1.sm hy.2.sm),_,_,up (jh hy.1.sm hx.2.sm),_,_,up (vJ (hx.1.mul hy.2) (hy.1.mul hx.2)),_,_,up (jh hx.2.sm hy.2.sm),_,_,_,_,kK hd (hx.1.mul_add hy.2 hy.1 hx.2) (hx.2.mul hy.2) (by omega),?_⟩;rw[e0];rfl
theorem Sr.neg {x:Rat} (h:Sr x):Sr (-x):=by
 refine⟨?_,h.2⟩;rw[Ao];unfold Sq;rw[Ai];exact h.1
theorem vL (hd:zn) {x y:Rat} (hx:Sr x) (hy:Sr y):qe CC 97 [qC x,qC y] [qC (x-y)]:=by
 refine qf (anns:=an0) mixedT Tryz.func97 ?_;rw[qg,qg,Pv];refine⟨_,_,_,_,Wy hy,_,_,_,_,Z2 hd hx hy.neg,?_⟩;rw[Rat.sub_eq_add_neg];rfl
theorem ka {n:Int} (h1: -9223372036854775808≤n) (h2:n<9223372036854775808):qe CC 121 [.c (.int .i64 n)] [qC (n:Rat)]:=by
 have hw:qe CC 219 [qH n] [qC (n:Rat)]:=by refine qf (anns:=an0) mixedT Tryz.func219 ?_;rw[qZ,MD];refine⟨_,_,Z0,?_⟩;rw[qg,Rat.num_intCast,Rat.den_intCast];rfl
 refine qf (anns:=an0) mixedT Tryz.func121 ?_;rw[Zy];exact⟨_,_,up (zk h1 h2),_,_,_,_,hw,rfl⟩
end Eng
end
