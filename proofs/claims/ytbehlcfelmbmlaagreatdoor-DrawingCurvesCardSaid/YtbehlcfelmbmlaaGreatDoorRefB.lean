/- The verification conditions of functions, printed by a program (vcgen.py) and checked by the kernel. -/
import Derived.Test.YtbehlcfelmbmlaaGreatDoorCtxB
import Derived.Test.YtbehlcfelmbmlaaGreatDoorRefA
import Derived.Test.YtbehlcfelmbmlaaGreatDoorRatA
import Derived.KernelRfl
open Eng.A renaming ag→Aa, c→Ab
open Eng.D renaming bool→Ac, sl→Ad, int→Ae
open Go.IntKind renaming u64→Af
open Int renaming natAbs_natCast→Ah, ofNat_eq_natCast→Ai, ediv_emod_unique→Aj, natCast_mul→Ak, tmod→Al, natAbs_neg→Am, mul_pos→An, mul_neg→Ao
open List.cons renaming injEq→Ap
open Nat renaming gcd→Aq, lt_of_le_of_lt→Ar, gcd_comm→As, mod_lt→At, gcd_zero_right→Au, eq_zero_or_pos→Av, div_le_self→Aw, le_trans→Ax, gcd_rec→Ay
open Rat renaming num_divInt_den→Az, divInt→A0, divInt_mul_divInt→A1, num_eq_zero→A2
section
namespace Eng
open Go Go.Proofs
set_option maxRecDepth 1000000
section
variable (Gv:Nat→List A→List A→Prop) (Q:List A→Prop) (I0 I1 I2 I3:List D→List D→Prop) (M0 M1 M2 M3:List D→Nat)
theorem MN:wpF CC Gv an0 Tryz.f69 [] Q=(
 ∃b es,Gv 68 [Ab (Ae .i64 1)] [Aa [Ac b,Ad es]]∧Q [Aa [Ac b,Ad es]]):=by kernel_rfl
theorem Sx (J3:List D→List D→Prop) (p q:Bool) (es fs:List (List D)):wpF CC Gv (WR an0 3 ⟨[.box 2 [.bool false,.slice none 0 0],.box 3 [.bool false,.slice none 0 0]],[.box 2 [.bool false,.slice none 0 0],.box 3 [.bool false,.slice none 0 0]],J3,fun _=>0⟩) Tryz.f145 [.ag [.bool p,.sl es],.ag [.bool q,.sl fs]] Q=(
 (∃n,Gv 173 [Aa [Ac q,Ad fs]] [Ab (Ae .i64 n)]∧br (toB (Ac (decide (n<0)))) (∃b e1,Gv 239 [Aa [Ac p,Ad es]] [Aa [Ac b,Ad e1]]∧∃b1 e2,Gv 239 [Aa [Ac q,Ad fs]] [Aa [Ac b1,Ad e2]]∧J3 [Ac p,Ad es,Ac q,Ad fs] [Ac b,Ad e1,Ac b1,Ad e2]) (J3 [Ac p,Ad es,Ac q,Ad fs] [Ac p,Ad es,Ac q,Ad fs]))∧∀(b:Bool) (e1:List (List D)) (b1:Bool) (e2:List (List D)),J3 [Ac p,Ad es,Ac q,Ad fs] [Ac b,Ad e1,Ac b1,Ad e2]→∃b2 es,Gv 201 [Aa [Ac b,Ad e1],Aa [Ac b1,Ad e2]] [Aa [Ac b2,Ad es]]∧∃b3 e3 b4 e4 n,Gv 240 [Aa [Ac b,Ad e1],Aa [Ac b2,Ad es]] [Aa [Ac b3,Ad e3],Aa [Ac b4,Ad e4],Ab (Ae .i64 n)]∧∃b e5 b5 e6 n,Gv 240 [Aa [Ac b1,Ad e2],Aa [Ac b2,Ad es]] [Aa [Ac b,Ad e5],Aa [Ac b5,Ad e6],Ab (Ae .i64 n)]∧Q [Aa [Ac b3,Ad e3,Ac b,Ad e5]]):=by kernel_rfl
theorem MO (p q:Bool) (es fs:List (List D)):wpF CC Gv an0 Tryz.f336 [.ag [.bool p,.sl es],.ag [.bool q,.sl fs]] Q=(
 ∃n,Gv 173 [Aa [Ac q,Ad fs]] [Ab (Ae .i64 n)]∧br (toB (Ac (n==0))) (Q [Aa [Ac false,Ad [],Ac false,Ad []],Ab (Ae .i64 6)]) (∃b e1 b1 e2,Gv 145 [Aa [Ac p,Ad es],Aa [Ac q,Ad fs]] [Aa [Ac b,Ad e1,Ac b1,Ad e2]]∧Q [Aa [Ac b,Ad e1,Ac b1,Ad e2],Ab (Ae .i64 0)])):=by kernel_rfl
theorem Z6 (n:Int):wpF CC Gv an0 Tryz.f27 [.c (.int .i64 n)] Q=(
 ∃b es,Gv 68 [Ab (Ae .i64 n)] [Aa [Ac b,Ad es]]∧∃b1 e1,Gv 69 [] [Aa [Ac b1,Ad e1]]∧Q [Aa [Ac b,Ad es,Ac b1,Ad e1]]):=by kernel_rfl
theorem MP (p q:Bool) (es fs:List (List D)):wpF CC Gv an0 Tryz.f92 [.ag [.bool p,.sl es,.bool q,.sl fs]] Q=(
 ∃n,Gv 173 [Aa [Ac p,Ad es]] [Ab (Ae .i64 n)]∧Q [Ab (Ae .i64 n)]):=by kernel_rfl
theorem P6 (p q:Bool) (es fs:List (List D)):wpF CC Gv an0 Tryz.f172 [.ag [.bool p,.sl es,.bool q,.sl fs]] Q=(
 ∃b e1,Gv 239 [Aa [Ac p,Ad es]] [Aa [Ac b,Ad e1]]∧Q [Aa [Ac b,Ad e1,Ac q,Ad fs]]):=by kernel_rfl
theorem P7 (p q r s:Bool) (es fs gs hs:List (List D)):wpF CC Gv an0 Tryz.f272 [.ag [.bool p,.sl es,.bool q,.sl fs],.ag [.bool r,.sl gs,.bool s,.sl hs]] Q=(
 ∃b e1,Gv 193 [Aa [Ac p,Ad es],Aa [Ac s,Ad hs]] [Aa [Ac b,Ad e1]]∧∃b1 es,Gv 193 [Aa [Ac r,Ad gs],Aa [Ac q,Ad fs]] [Aa [Ac b1,Ad es]]∧∃b2 e2,Gv 314 [Aa [Ac b,Ad e1],Aa [Ac b1,Ad es]] [Aa [Ac b2,Ad e2]]∧∃b es,Gv 193 [Aa [Ac q,Ad fs],Aa [Ac s,Ad hs]] [Aa [Ac b,Ad es]]∧∃b3 e3 b4 e4,Gv 145 [Aa [Ac b2,Ad e2],Aa [Ac b,Ad es]] [Aa [Ac b3,Ad e3,Ac b4,Ad e4]]∧Q [Aa [Ac b3,Ad e3,Ac b4,Ad e4]]):=by kernel_rfl
theorem P8 (p q r s:Bool) (es fs gs hs:List (List D)):wpF CC Gv an0 Tryz.f198 [.ag [.bool p,.sl es,.bool q,.sl fs],.ag [.bool r,.sl gs,.bool s,.sl hs]] Q=(
 ∃b e1 b1 e2,Gv 172 [Aa [Ac r,Ad gs,Ac s,Ad hs]] [Aa [Ac b,Ad e1,Ac b1,Ad e2]]∧∃b2 e3 b3 e4,Gv 272 [Aa [Ac p,Ad es,Ac q,Ad fs],Aa [Ac b,Ad e1,Ac b1,Ad e2]] [Aa [Ac b2,Ad e3,Ac b3,Ad e4]]∧Q [Aa [Ac b2,Ad e3,Ac b3,Ad e4]]):=by kernel_rfl
theorem P9 (p q r s:Bool) (es fs gs hs:List (List D)):wpF CC Gv an0 Tryz.f171 [.ag [.bool p,.sl es,.bool q,.sl fs],.ag [.bool r,.sl gs,.bool s,.sl hs]] Q=(
 ∃b e1,Gv 193 [Aa [Ac p,Ad es],Aa [Ac s,Ad hs]] [Aa [Ac b,Ad e1]]∧∃b1 es,Gv 193 [Aa [Ac r,Ad gs],Aa [Ac q,Ad fs]] [Aa [Ac b1,Ad es]]∧∃n,Gv 263 [Aa [Ac b,Ad e1],Aa [Ac b1,Ad es]] [Ab (Ae .i64 n)]∧Q [Ab (Ae .i64 n)]):=by kernel_rfl
theorem PA (p q r s:Bool) (es fs gs hs:List (List D)):wpF CC Gv an0 Tryz.f103 [.ag [.bool p,.sl es,.bool q,.sl fs],.ag [.bool r,.sl gs,.bool s,.sl hs]] Q=(
 ∃b e1,Gv 193 [Aa [Ac p,Ad es],Aa [Ac r,Ad gs]] [Aa [Ac b,Ad e1]]∧∃b1 es,Gv 193 [Aa [Ac q,Ad fs],Aa [Ac s,Ad hs]] [Aa [Ac b1,Ad es]]∧∃b2 e2 b3 e3,Gv 145 [Aa [Ac b,Ad e1],Aa [Ac b1,Ad es]] [Aa [Ac b2,Ad e2,Ac b3,Ad e3]]∧Q [Aa [Ac b2,Ad e2,Ac b3,Ad e3]]):=by kernel_rfl
theorem PB (p q r s:Bool) (es fs gs hs:List (List D)):wpF CC Gv an0 Tryz.f273 [.ag [.bool p,.sl es,.bool q,.sl fs],.ag [.bool r,.sl gs,.bool s,.sl hs]] Q=(
 ∃b e1,Gv 193 [Aa [Ac p,Ad es],Aa [Ac s,Ad hs]] [Aa [Ac b,Ad e1]]∧∃b1 es,Gv 193 [Aa [Ac q,Ad fs],Aa [Ac r,Ad gs]] [Aa [Ac b1,Ad es]]∧∃b2 e2 b3 e3 n,Gv 336 [Aa [Ac b,Ad e1],Aa [Ac b1,Ad es]] [Aa [Ac b2,Ad e2,Ac b3,Ad e3],Ab (Ae .i64 n)]∧Q [Aa [Ac b2,Ad e2,Ac b3,Ad e3],Ab (Ae .i64 n)]):=by kernel_rfl
theorem Gr (p q:Bool) (es fs:List (List D)):wpF CC Gv an0 Tryz.f52 [.ag [.bool p,.sl es,.bool q,.sl fs]] Q=(
 ∃b e1 b1 e2,Gv 103 [Aa [Ac p,Ad es,Ac q,Ad fs],Aa [Ac p,Ad es,Ac q,Ad fs]] [Aa [Ac b,Ad e1,Ac b1,Ad e2]]∧Q [Aa [Ac b,Ad e1,Ac b1,Ad e2]]):=by kernel_rfl
end
end Eng
end

section
namespace Eng
open Go Go.Proofs
set_option maxRecDepth 100000
def qp:Prop:=∀x y:Nat,y≠0→(lim x).length≤1000→(lim y).length≤1000→
 qe CC 274 [.c (.sl (raw (lim x))),.c (.sl (raw (lim y)))] [.c (.sl (raw (lim (x/y)))),.c (.sl (raw (lim (x%y))))]
theorem NI {m n:Nat} (h:m≤n):(lim m).length≤(lim n).length:=
 qo (Ar h (by have:=qG (qc n);rw[qj]at this;exact this))
theorem W5 (hd:qp) {x y:Int} (hx:Sm x) (hy:Sm y):qe CC 201 [qH x,qH y] [qH (Aq x.natAbs y.natAbs:Nat)]:=by
 generalize hG:Aq x.natAbs y.natAbs=G;refine qf (anns:=Vn
  ⟨[.slot 5 (.slice none 0 0),.slot 6 (.slice none 0 0)],[],fun _ ds=>∃m n:Nat,ds=[.sl (raw (lim m)),.sl (raw (lim n))]∧Aq m n=G∧m<X1∧n<X1,fun ds=>QJ (toL (nth .undef ds 1))⟩
  ⟨[.slot 9 (.int .u64 0),.slot 10 (.int .u64 0)],[],fun _ ds=>∃u v:Nat,ds=[.int .u64 (u:Int),.int .u64 (v:Int)]∧Aq u v=G∧u<1000000000000000000∧v<1000000000000000000,fun ds=>(toI (nth .undef ds 1)).toNat⟩) mixedT Tryz.func201 ?_
 rw[qw x,qw y,P4];simp only[Ai];refine⟨⟨x.natAbs,y.natAbs,rfl,hG,hx,hy⟩,?_⟩;rintro es fs ⟨m,n,he,hg,hm,hn⟩;simp only[Ap,D.sl.injEq,and_true]at he;obtain⟨rfl,rfl⟩:=he;have lm:=(smN.2 hm).len;have ln:=(smN.2 hn).len;rw[Ah]at lm ln;rw[qh,qh];have a2:0<n→∃es_2 es_3,qe CC 274 [Ab (Ad (raw (lim m))),Ab (Ad (raw (lim n)))] [Ab (Ad es_2),Ab (Ad es_3)]∧
  (∃m' n':Nat,[Ad (raw (lim n)),Ad es_3]=[.sl (raw (lim m')),.sl (raw (lim n'))]∧Aq m' n'=G∧m'<X1∧n'<X1)∧
  QJ (toL (nth .undef [Ad (raw (lim n)),Ad es_3] 1))<QJ (toL (nth .undef [Ad (raw (lim m)),Ad (raw (lim n))] 1)):=by
  intro a1;have a3:=At m a1;refine⟨_,_,hd m n (by omega) lm ln,⟨n,m%n,rfl,?_,hn,by omega⟩,?_⟩
  ·rw[←hg,As n,←Ay,As]
  ·simp only[nth,toL,jD,qj];exact a3
 have a0:∀{k:Nat},¬((lim k).length:Int)>2→k<1000000000000000000:=by
  intro k hk;have h1:=qG (qc k);rw[qj]at h1;have h2:1000000000^(lim k).length≤1000000000^2:=Nat.pow_le_pow_right (by omega) (by omega);have h3:(1000000000:Nat)^2=1000000000000000000:=by decide
  omega
 have a4:n=0→∃b es_2,qe CC 128 [Ab (Ac false),Ab (Ad (raw (lim m)))] [Aa [Ac b,Ad es_2]]∧[Aa [Ac b,Ad es_2]]=[qH (G:Int)]:=by intro a1;subst a1;rw[Au]at hg;subst hg;exact⟨_,_,qU false (qc m) (by omega) (z:=(m:Int)) (by simp[qj]),rfl⟩
 have a5:m<1000000000000000000→n<1000000000000000000→
  ∃a,qe CC 275 [Ab (Ad (raw (lim m)))] [Ab (Ae Af a)]∧∃b,qe CC 275 [Ab (Ad (raw (lim n)))] [Ab (Ae Af b)]∧
   (∃u v:Nat,[Ae Af a,Ae Af b]=[.int .u64 (u:Int),.int .u64 (v:Int)]∧Aq u v=G∧u<1000000000000000000∧v<1000000000000000000)∧
   ∀(n n_2:Int),(∃u v:Nat,[Ae Af n,Ae Af n_2]=[.int .u64 (u:Int),.int .u64 (v:Int)]∧Aq u v=G∧u<1000000000000000000∧v<1000000000000000000)→
    br (toB (Ac (decide (n_2>(0:Int)))))
     (n_2≠(0:Int)∧
      (∃u v:Nat,[Ae Af n_2,Ae Af (Al n n_2)]=[.int .u64 (u:Int),.int .u64 (v:Int)]∧Aq u v=G∧u<1000000000000000000∧v<1000000000000000000)∧
       (toI (nth .undef [Ae Af n_2,Ae Af (Al n n_2)] 1)).toNat<(toI (nth .undef [Ae Af n,Ae Af n_2] 1)).toNat)
     (∃es,qe CC 129 [Ab (Ae Af n)] [Ab (Ad es)]∧
      ∃b es_2,qe CC 128 [Ab (Ac false),Ab (Ad es)] [Aa [Ac b,Ad es_2]]∧[Aa [Ac b,Ad es_2]]=[qH (G:Int)]):=by
  intro sm sn;have h3:(1000000000:Nat)^2=1000000000000000000:=by decide
  have g1:=vc (qc m) (qo (by omega));have g2:=vc (qc n) (qo (by omega));rw[qj]at g1 g2;refine⟨_,g1,_,g2,⟨m,n,rfl,hg,sm,sn⟩,?_⟩;rintro a b ⟨u,v,he,a6,hu,hv⟩;simp only[Ap,D.int.injEq,true_and,and_true]at he;obtain⟨rfl,rfl⟩:=he;refine brd (fun h2=>?_) (fun h2=>?_)
  ·have a7:0<v:=by omega
   have e2:Al (u:Int) (v:Int)=((u%v:Nat):Int):=by rw[Int.tmod_eq_emod_of_nonneg (by omega)];rfl
   have a3:=At u a7;rw[e2];refine⟨by omega,⟨v,u%v,rfl,by rw[←a6,As v,←Ay,As],hv,by omega⟩,?_⟩;simp only[nth,toI,Int.toNat_natCast];exact a3
  ·have a7:v=0:=by omega
   subst a7;rw[Au]at a6;subst a6;have:(lim u).length≤2:=qo (by omega);exact⟨_,k6 (by omega),_,_,qU false (qc u) (by omega) (z:=(u:Int)) (by simp[qj]),rfl⟩
 refine brd (fun h=>?_) (fun h=>?_)
 ·have a1:0<n:=qz.1 (by omega);refine brd (fun h1=>a2 a1) (fun h1=>brd (fun h2=>a2 a1) (fun h2=>brb (fun h3=>?_) (fun _=>a5 (a0 h1) (a0 h2))));have:((lim n).length:Int)=0:=by simpa using h3
  omega
 ·have a1:n=0:=by
   rcases Av n with h0|h0
   ·exact h0
   ·have:=qz.2 h0;omega
  refine brb (fun _=>a4 a1) (fun h3=>?_);subst a1;simp[Zu]at h3
theorem j9 (hd:qp) {x y:Int} (hx:Sm x) (hy:Sm y) (hy0:0<y):qe CC 240 [qH x,qH y] [qH (x/y),qH (x%y),.c (.int .i64 0)]:=by
 refine qf (anns:=an0) mixedT Tryz.func240 ?_;have lx:=hx.len;have ly:=hy.len;have hyn:y.natAbs≠0:=by omega
 have hlp:0<(lim y.natAbs).length:=qz.2 (by omega);have h1:=hd x.natAbs y.natAbs hyn lx ly;have hqs:(x/y).natAbs≤x.natAbs+1:=by have:=Int.natAbs_ediv_le_natAbs x y;omega
 rw[qw x,qw y,Gp];simp only[Ai];obtain⟨a,ha⟩:∃a:Nat,x.natAbs=a:=⟨_,rfl⟩;obtain⟨b,hb⟩:∃b:Nat,y=(b:Int):=⟨y.natAbs,by omega⟩;have a0:y.natAbs=b:=by omega
 have hb0:0<b:=by omega
 rw[ha,a0]at h1;rw[ha]at lx;rw[a0]at ly;have hdm:=Nat.div_add_mod a b;have hml:=At a hb0;have lq:(lim (a/b)).length≤1000:=Ax (NI (Aw a b)) lx;have lr:(lim (a%b)).length≤1000:=Ax (NI (Nat.mod_le a b)) lx;refine brb (fun h=>?_) (fun _=>?_)
 ·rw[qh]at h;have:((lim y.natAbs).length:Int)=0:=by simpa using h
  omega
 have a2:decide (y<0)=false:=decide_eq_false (by omega);rw[a2];by_cases hx0:x<0
 ·have hxt:decide (x<0)=true:=decide_eq_true hx0;rw[hxt,ha,a0];have a1:x= -(a:Int):=by omega
  have gq:=qU true (qc (a/b)) (by omega) (z:= -((a/b:Nat):Int)) (by rw[qj];rfl);have gr:=qU true (qc (a%b)) (by omega) (z:= -((a%b:Nat):Int)) (by rw[qj];rfl);refine⟨_,_,h1,_,_,gq,_,_,gr,?_⟩;rw[qh];refine brd (fun h=>brb (fun h2=>?_) (fun h2=>?_)) (fun h=>?_)
  ·have hr0:0<a%b:=qz.1 (by omega);have g1:=xn (n:=1) (by omega) (by omega);have hq:(a/b)<X1:=Ar (Aw _ _) (ha▸hx);have sq:Sm (-((a/b:Nat):Int)):=by unfold Sm;rw[Am,Ah];exact hq
   have sr:Sm (-((a%b:Nat):Int)):=by unfold Sm;rw[Am,Ah];exact Nat.lt_trans hml (a0▸hy)
   have gs:=Tc sq VQ;have ga:=QD sr hy;have ga2:qe CC 314 [qH (-((a%b:Nat):Int)),.ag [.bool false,.sl (raw (lim b))]] [qH (-((a%b:Nat):Int)+y)]:=by
    have e0:qH y= .ag [.bool false,.sl (raw (lim b))]:=by rw[qw y,a2,a0]
    rw[e0]at ga;exact ga
   refine⟨_,_,g1,_,_,gs,_,_,ga2,?_⟩;have e1:x/y= -((a/b:Nat):Int)-1∧x%y= -((a%b:Nat):Int)+y:=by
    have:=Aj (a:=x) (b:=y) (r:= -((a%b:Nat):Int)+y) (q:= -((a/b:Nat):Int)-1) hy0;refine this.2 ⟨?_,by omega,by omega⟩;rw[a1,hb];have h5:(b:Int)*(-((a/b:Nat):Int)-1)= -((b*(a/b):Nat):Int)-b:=by rw[Int.mul_sub,Ao,Int.mul_one,Ak]
    rw[h5];omega
   rw[e1.1,e1.2];rfl
  ·simp at h2
  ·have hr0:a%b=0:=by
    rcases Av (a%b)with h0|h0
    ·exact h0
    ·have:=qz.2 h0;omega
   have e1:x/y= -((a/b:Nat):Int)∧x%y= -((a%b:Nat):Int):=by have:=Aj (a:=x) (b:=y) (r:= -((a%b:Nat):Int)) (q:= -((a/b:Nat):Int)) hy0;refine this.2 ⟨?_,by omega,by omega⟩;rw[a1,hb,Ao,←Ak];omega
   rw[e1.1,e1.2];rfl
 ·have hxf:decide (x<0)=false:=decide_eq_false hx0;rw[hxf,ha,a0];have a1:x=(a:Int):=by omega
  have gq:=qU false (qc (a/b)) (by omega) (z:=((a/b:Nat):Int)) (by rw[qj];rfl);have gr:=qU false (qc (a%b)) (by omega) (z:=((a%b:Nat):Int)) (by rw[qj];rfl);refine⟨_,_,h1,_,_,gq,_,_,gr,?_⟩;have e1:x/y=((a/b:Nat):Int)∧x%y=((a%b:Nat):Int):=by rw[a1,hb];exact⟨rfl,rfl⟩
  refine brd (fun h=>brb (fun h2=>?_) (fun h2=>?_)) (fun h=>?_)
  ·simp at h2
  ·rw[e1.1,e1.2];rfl
  ·rw[e1.1,e1.2];rfl
theorem Z7:qe CC 69 [] [qH 1]:=by
 refine qf (anns:=an0) mixedT Tryz.func69 ?_;rw[MN];exact⟨_,_,xn (n:=1) (by omega) (by omega),rfl⟩
theorem MQ (z:Int):cI z=[.bool (decide (z<0)),.sl (raw (lim z.natAbs))]:=rfl
theorem VX (hd:qp) {x y:Int} (hx:Sm x) (hy:Sm y) (hy0:y≠0):qe CC 145 [qH x,qH y] [qC (A0 x y)]:=by
 refine qf (anns:=WR an0 3 ⟨[.box 2 [.bool false,.slice none 0 0],.box 3 [.bool false,.slice none 0 0]],[.box 2 [.bool false,.slice none 0 0],.box 3 [.bool false,.slice none 0 0]],fun _ ds=>∃u v:Int,ds=cI u++cI v∧Sm u∧Sm v∧0<v∧A0 u v=A0 x y,fun _=>0⟩) mixedT Tryz.func145 ?_;rw[qw x,qw y,Sx];have hS:=vd y;rw[qw y]at hS;have a1:=Z5 hx;have a2:=Z5 hy;rw[qw x,qw]at a1;rw[qw y,qw]at a2;refine⟨⟨_,hS,brd (fun h=>?_) (fun h=>?_)⟩,?_⟩
 ·have a3:y<0:=by
   unfold sgn at h;split at h
   ·assumption
   ·split at h<;>omega
  exact⟨_,_,a1,_,_,a2, -x, -y,rfl,VR hx,VR hy,by omega,by rw[Rat.neg_divInt_neg]⟩
 ·have a3:0<y:=by
   unfold sgn at h;split at h
   ·omega
   ·omega
  exact⟨x,y,rfl,hx,hy,a3,rfl⟩
 ·rintro b1 es1 b2 es2 ⟨u,v,he,hu,hv,hv0,hr⟩;simp only[MQ,List.cons_append,List.nil_append,Ap,D.bool.injEq,D.sl.injEq,and_true]at he;obtain⟨rfl,rfl,rfl,rfl⟩:=he;obtain⟨g,hg⟩:∃g:Nat,g=Aq u.natAbs v.natAbs:=⟨_,rfl⟩;have hgp:0<g:=by rw[hg];exact Nat.gcd_pos_of_pos_right _ (by omega)
  have a0:Sm (g:Int):=smN.2 (by rw[hg];exact Ar (Nat.gcd_le_right _ (by omega)) hv);have g1:=W5 hd hu hv;rw[←hg]at g1;have g2:=j9 hd hu a0 (by omega);have g3:=j9 hd hv a0 (by omega);refine⟨_,_,g1,_,_,_,_,_,g2,_,_,_,_,_,g3,?_⟩;rw[←hr,zx hv0,←hg];rfl
theorem MR (hd:qp) {x y:Int} (hx:Sm x) (hy:Sm y):
 qe CC 336 [qH x,qH y] (if y=0 then [.ag [.bool false,.sl [],.bool false,.sl []],.c (.int .i64 6)]else [qC (A0 x y),.c (.int .i64 0)]):=by
 refine qf (anns:=an0) mixedT Tryz.func336 ?_;rw[qZ x,qZ y,MO];refine⟨_,vd y,?_⟩;refine brb (fun h=>?_) (fun h=>?_)
 ·have:y=0:=by
   unfold sgn at h;split at h
   ·simp at h
   ·split at h
    ·simp at h
    ·omega
  rw[if_pos this]
 ·have:y≠0:=by rintro rfl;simp[sgn]at h
  rw[if_neg this];exact⟨_,_,_,_,VX hd hx hy this,rfl⟩
theorem qR (r:Rat):qe CC 92 [qC r] [.c (.int .i64 (sgn r.num))]:=by
 refine qf (anns:=an0) mixedT Tryz.func92 ?_;rw[qg,MP];exact⟨_,vd r.num,rfl⟩
theorem k7 {x:Rat} (hx:Sr x):qe CC 172 [qC x] [qC (-x)]:=by
 refine qf (anns:=an0) mixedT Tryz.func172 ?_;rw[qg,P6];refine⟨_,_,Z5 hx.1.sm,?_⟩;rw[qg,Rat.neg_num];have:(-x).den=x.den:=rfl;rw[this]
theorem kb (hd:qp) {x y:Rat} (hx:Sr x) (hy:Sr y):qe CC 272 [qC x,qC y] [qC (x+y)]:=by
 refine qf (anns:=an0) mixedT Tryz.func272 ?_;rw[qg,qg,P7];have px:=den_pos x;have py:=den_pos y;have hp:=An px py;have e0:x+y=A0 (x.num*y.den+y.num*x.den) (x.den*y.den):=by rw[←Rat.divInt_add_divInt _ _ (by omega) (by omega),Az,Az]
 refine⟨_,_,zy hx.1.sm hy.2.sm,_,_,zy hy.1.sm hx.2.sm,_,_,QD (hx.1.mul hy.2) (hy.1.mul hx.2),_,_,zy hx.2.sm hy.2.sm,_,_,_,_,VX hd (hx.1.mul_add hy.2 hy.1 hx.2) (hx.2.mul hy.2) (by omega),?_⟩;rw[e0];rfl
theorem wx (hd:qp) {x y:Rat} (hx:Sr x) (hy:Sr y):qe CC 198 [qC x,qC y] [qC (x-y)]:=by
 refine qf (anns:=an0) mixedT Tryz.func198 ?_;rw[qg,qg,P8];refine⟨_,_,_,_,k7 hy,_,_,_,_,kb hd hx hy.neg,?_⟩;rw[Rat.sub_eq_add_neg];rfl
theorem QE {x y:Rat} (hx:Sr x) (hy:Sr y):qe CC 171 [qC x,qC y] [.c (.int .i64 (Kf x y))]:=by
 refine qf (anns:=an0) mixedT Tryz.func171 ?_;rw[qg,qg,P9];rw[QB];exact⟨_,_,zy hx.1.sm hy.2.sm,_,_,zy hy.1.sm hx.2.sm,_,W3 (hx.1.mul hy.2) (hy.1.mul hx.2),rfl⟩
theorem zL (hd:qp) {x y:Rat} (hx:Sr x) (hy:Sr y):qe CC 103 [qC x,qC y] [qC (x*y)]:=by
 refine qf (anns:=an0) mixedT Tryz.func103 ?_;rw[qg,qg,PA];have px:=den_pos x;have py:=den_pos y;have:=An px py;refine⟨_,_,zy hx.1.sm hy.1.sm,_,_,zy hx.2.sm hy.2.sm,_,_,_,_,VX hd (hx.1.mul hy.1) (hx.2.mul hy.2) (by omega),?_⟩;have e:x*y=A0 (x.num*y.num) (x.den*y.den):=by rw[←A1,Az,Az]
 rw[e];rfl
theorem PC (hd:qp) {x y:Rat} (hx:Sr x) (hy:Sr y):
 qe CC 273 [qC x,qC y] (if y=0 then [.ag [.bool false,.sl [],.bool false,.sl []],.c (.int .i64 6)]else [qC (x/y),.c (.int .i64 0)]):=by
 refine qf (anns:=an0) mixedT Tryz.func273 ?_;rw[qg,qg,PB];have px:=den_pos x;have py:=den_pos y;have hm:=MR hd (hx.1.mul hy.2) (hx.2.mul hy.1);by_cases hn:y.num=0
 ·have:y=0:=A2.1 hn;rw[if_pos this];rw[if_pos (by rw[hn,Int.mul_zero])]at hm;exact⟨_,_,zy hx.1.sm hy.2.sm,_,_,zy hx.2.sm hy.1.sm,_,_,_,_,_,hm,rfl⟩
 ·have:y≠0:=fun h=>hn (A2.2 h)
  rw[if_neg this];have h0:(x.den:Int)*y.num≠0:=Int.mul_ne_zero (by omega) hn;rw[if_neg h0]at hm;refine⟨_,_,zy hx.1.sm hy.2.sm,_,_,zy hx.2.sm hy.1.sm,_,_,_,_,_,hm,?_⟩;have e:x/y=A0 (x.num*y.den) (x.den*y.num):=by rw[Rat.div_def,←A1,Az,←Rat.inv_divInt,Az]
  rw[e];rfl
theorem Gs (hd:qp) {x:Rat} (hx:Sr x):qe CC 52 [qC x] [qC (x*x)]:=by
 refine qf (anns:=an0) mixedT Tryz.func52 ?_;have hm:=zL hd hx hx;rw[qg x]at hm;rw[qg,Gr];exact⟨_,_,_,_,hm,rfl⟩
theorem xM {n:Int} (h1: -9223372036854775808≤n) (h2:n<9223372036854775808):qe CC 27 [.c (.int .i64 n)] [qC (n:Rat)]:=by
 refine qf (anns:=an0) mixedT Tryz.func27 ?_;rw[Z6];refine⟨_,_,xn h1 h2,_,_,Z7,?_⟩;rw[qg,Rat.num_intCast,Rat.den_intCast];rfl
end Eng
end
