/- The verification conditions of functions, printed by a program (vcgen.py) and checked by the kernel. -/
import Derived.Test.YtbehlcfelmbmlaaGreatDoorCtxB
import Derived.Test.YtbehlcfelmbmlaaGreatDoorRefA
import Derived.Test.YtbehlcfelmbmlaaGreatDoorRatA
import Derived.KernelRfl
open Eng.A renaming ag→Aw, c→Bx
open Eng.D renaming bool→Dd, sl→F0, int→F2
open Go.IntKind renaming u64→Hu
open Int renaming natAbs_natCast→Hv, ofNat_eq_natCast→Hx, ediv_emod_unique→Hy, natCast_mul→J4, tmod→J6, natAbs_neg→J7, mul_pos→J9, mul_neg→Lm
open List.cons renaming injEq→Lr
open Nat renaming gcd→Ls, lt_of_le_of_lt→Lv, gcd_comm→No, mod_lt→Pl, gcd_zero_right→P1, eq_zero_or_pos→Ts, div_le_self→T1, le_trans→U0, gcd_rec→U3
open Rat renaming num_divInt_den→V1, divInt→W0, divInt_mul_divInt→W1, num_eq_zero→W2
section
namespace Eng
open Go Go.Proofs
set_option maxRecDepth 1000000
section
variable (Gv:Nat→List A→List A→Prop) (Q:List A→Prop) (I0 I1 I2 I3:List D→List D→Prop) (M0 M1 M2 M3:List D→Nat)
theorem Br:wpF CC Gv an0 Tryz.f69 [] Q=(
 ∃b es,Gv 68 [Bx (F2 .i64 1)] [Aw [Dd b,F0 es]]∧Q [Aw [Dd b,F0 es]]):=by kernel_rfl
theorem AC (J3:List D→List D→Prop) (p q:Bool) (es fs:List (List D)):wpF CC Gv (wB an0 3 ⟨[.box 2 [.bool false,.slice none 0 0],.box 3 [.bool false,.slice none 0 0]],[.box 2 [.bool false,.slice none 0 0],.box 3 [.bool false,.slice none 0 0]],J3,fun _=>0⟩) Tryz.f145 [.ag [.bool p,.sl es],.ag [.bool q,.sl fs]] Q=(
 (∃n,Gv 173 [Aw [Dd q,F0 fs]] [Bx (F2 .i64 n)]∧br (toB (Dd (decide (n<0)))) (∃b e1,Gv 239 [Aw [Dd p,F0 es]] [Aw [Dd b,F0 e1]]∧∃b1 e2,Gv 239 [Aw [Dd q,F0 fs]] [Aw [Dd b1,F0 e2]]∧J3 [Dd p,F0 es,Dd q,F0 fs] [Dd b,F0 e1,Dd b1,F0 e2]) (J3 [Dd p,F0 es,Dd q,F0 fs] [Dd p,F0 es,Dd q,F0 fs]))∧∀(b:Bool) (e1:List (List D)) (b1:Bool) (e2:List (List D)),J3 [Dd p,F0 es,Dd q,F0 fs] [Dd b,F0 e1,Dd b1,F0 e2]→∃b2 es,Gv 201 [Aw [Dd b,F0 e1],Aw [Dd b1,F0 e2]] [Aw [Dd b2,F0 es]]∧∃b3 e3 b4 e4 n,Gv 240 [Aw [Dd b,F0 e1],Aw [Dd b2,F0 es]] [Aw [Dd b3,F0 e3],Aw [Dd b4,F0 e4],Bx (F2 .i64 n)]∧∃b e5 b5 e6 n,Gv 240 [Aw [Dd b1,F0 e2],Aw [Dd b2,F0 es]] [Aw [Dd b,F0 e5],Aw [Dd b5,F0 e6],Bx (F2 .i64 n)]∧Q [Aw [Dd b3,F0 e3,Dd b,F0 e5]]):=by kernel_rfl
theorem Bs (p q:Bool) (es fs:List (List D)):wpF CC Gv an0 Tryz.f336 [.ag [.bool p,.sl es],.ag [.bool q,.sl fs]] Q=(
 ∃n,Gv 173 [Aw [Dd q,F0 fs]] [Bx (F2 .i64 n)]∧br (toB (Dd (n==0))) (Q [Aw [Dd false,F0 [],Dd false,F0 []],Bx (F2 .i64 6)]) (∃b e1 b1 e2,Gv 145 [Aw [Dd p,F0 es],Aw [Dd q,F0 fs]] [Aw [Dd b,F0 e1,Dd b1,F0 e2]]∧Q [Aw [Dd b,F0 e1,Dd b1,F0 e2],Bx (F2 .i64 0)])):=by kernel_rfl
theorem Vn (n:Int):wpF CC Gv an0 Tryz.f27 [.c (.int .i64 n)] Q=(
 ∃b es,Gv 68 [Bx (F2 .i64 n)] [Aw [Dd b,F0 es]]∧∃b1 e1,Gv 69 [] [Aw [Dd b1,F0 e1]]∧Q [Aw [Dd b,F0 es,Dd b1,F0 e1]]):=by kernel_rfl
theorem Bt (p q:Bool) (es fs:List (List D)):wpF CC Gv an0 Tryz.f92 [.ag [.bool p,.sl es,.bool q,.sl fs]] Q=(
 ∃n,Gv 173 [Aw [Dd p,F0 es]] [Bx (F2 .i64 n)]∧Q [Bx (F2 .i64 n)]):=by kernel_rfl
theorem EF (p q:Bool) (es fs:List (List D)):wpF CC Gv an0 Tryz.f172 [.ag [.bool p,.sl es,.bool q,.sl fs]] Q=(
 ∃b e1,Gv 239 [Aw [Dd p,F0 es]] [Aw [Dd b,F0 e1]]∧Q [Aw [Dd b,F0 e1,Dd q,F0 fs]]):=by kernel_rfl
theorem EG (p q r s:Bool) (es fs gs hs:List (List D)):wpF CC Gv an0 Tryz.f272 [.ag [.bool p,.sl es,.bool q,.sl fs],.ag [.bool r,.sl gs,.bool s,.sl hs]] Q=(
 ∃b e1,Gv 193 [Aw [Dd p,F0 es],Aw [Dd s,F0 hs]] [Aw [Dd b,F0 e1]]∧∃b1 es,Gv 193 [Aw [Dd r,F0 gs],Aw [Dd q,F0 fs]] [Aw [Dd b1,F0 es]]∧∃b2 e2,Gv 314 [Aw [Dd b,F0 e1],Aw [Dd b1,F0 es]] [Aw [Dd b2,F0 e2]]∧∃b es,Gv 193 [Aw [Dd q,F0 fs],Aw [Dd s,F0 hs]] [Aw [Dd b,F0 es]]∧∃b3 e3 b4 e4,Gv 145 [Aw [Dd b2,F0 e2],Aw [Dd b,F0 es]] [Aw [Dd b3,F0 e3,Dd b4,F0 e4]]∧Q [Aw [Dd b3,F0 e3,Dd b4,F0 e4]]):=by kernel_rfl
theorem EH (p q r s:Bool) (es fs gs hs:List (List D)):wpF CC Gv an0 Tryz.f198 [.ag [.bool p,.sl es,.bool q,.sl fs],.ag [.bool r,.sl gs,.bool s,.sl hs]] Q=(
 ∃b e1 b1 e2,Gv 172 [Aw [Dd r,F0 gs,Dd s,F0 hs]] [Aw [Dd b,F0 e1,Dd b1,F0 e2]]∧∃b2 e3 b3 e4,Gv 272 [Aw [Dd p,F0 es,Dd q,F0 fs],Aw [Dd b,F0 e1,Dd b1,F0 e2]] [Aw [Dd b2,F0 e3,Dd b3,F0 e4]]∧Q [Aw [Dd b2,F0 e3,Dd b3,F0 e4]]):=by kernel_rfl
theorem EI (p q r s:Bool) (es fs gs hs:List (List D)):wpF CC Gv an0 Tryz.f171 [.ag [.bool p,.sl es,.bool q,.sl fs],.ag [.bool r,.sl gs,.bool s,.sl hs]] Q=(
 ∃b e1,Gv 193 [Aw [Dd p,F0 es],Aw [Dd s,F0 hs]] [Aw [Dd b,F0 e1]]∧∃b1 es,Gv 193 [Aw [Dd r,F0 gs],Aw [Dd q,F0 fs]] [Aw [Dd b1,F0 es]]∧∃n,Gv 263 [Aw [Dd b,F0 e1],Aw [Dd b1,F0 es]] [Bx (F2 .i64 n)]∧Q [Bx (F2 .i64 n)]):=by kernel_rfl
theorem EJ (p q r s:Bool) (es fs gs hs:List (List D)):wpF CC Gv an0 Tryz.f103 [.ag [.bool p,.sl es,.bool q,.sl fs],.ag [.bool r,.sl gs,.bool s,.sl hs]] Q=(
 ∃b e1,Gv 193 [Aw [Dd p,F0 es],Aw [Dd r,F0 gs]] [Aw [Dd b,F0 e1]]∧∃b1 es,Gv 193 [Aw [Dd q,F0 fs],Aw [Dd s,F0 hs]] [Aw [Dd b1,F0 es]]∧∃b2 e2 b3 e3,Gv 145 [Aw [Dd b,F0 e1],Aw [Dd b1,F0 es]] [Aw [Dd b2,F0 e2,Dd b3,F0 e3]]∧Q [Aw [Dd b2,F0 e2,Dd b3,F0 e3]]):=by kernel_rfl
theorem EK (p q r s:Bool) (es fs gs hs:List (List D)):wpF CC Gv an0 Tryz.f273 [.ag [.bool p,.sl es,.bool q,.sl fs],.ag [.bool r,.sl gs,.bool s,.sl hs]] Q=(
 ∃b e1,Gv 193 [Aw [Dd p,F0 es],Aw [Dd s,F0 hs]] [Aw [Dd b,F0 e1]]∧∃b1 es,Gv 193 [Aw [Dd q,F0 fs],Aw [Dd r,F0 gs]] [Aw [Dd b1,F0 es]]∧∃b2 e2 b3 e3 n,Gv 336 [Aw [Dd b,F0 e1],Aw [Dd b1,F0 es]] [Aw [Dd b2,F0 e2,Dd b3,F0 e3],Bx (F2 .i64 n)]∧Q [Aw [Dd b2,F0 e2,Dd b3,F0 e3],Bx (F2 .i64 n)]):=by kernel_rfl
end
end Eng
end

section
namespace Eng
open Go Go.Proofs
set_option maxRecDepth 100000
def w5:Prop:=∀x y:Nat,y≠0→(lim x).length≤1000→(lim y).length≤1000→
 qf CC 274 [.c (.sl (raw (lim x))),.c (.sl (raw (lim y)))] [.c (.sl (raw (lim (x/y)))),.c (.sl (raw (lim (x%y))))]
theorem CH {m n:Nat} (h:m≤n):(lim m).length≤(lim n).length:=
 qq (Lv h (by have:=qO (qe n);rw[qj]at this;exact this))
theorem HD (hd:w5) {x y:Int} (hx:Sm x) (hy:Sm y):qf CC 201 [qJ x,qJ y] [qJ (Ls x.natAbs y.natAbs:Nat)]:=by
 generalize hG:Ls x.natAbs y.natAbs=G;refine qg (anns:=JW
  ⟨[.slot 5 (.slice none 0 0),.slot 6 (.slice none 0 0)],[],fun _ ds=>∃m n:Nat,ds=[.sl (raw (lim m)),.sl (raw (lim n))]∧Ls m n=G∧m<JY∧n<JY,fun ds=>JO (toL (nth .undef ds 1))⟩
  ⟨[.slot 9 (.int .u64 0),.slot 10 (.int .u64 0)],[],fun _ ds=>∃u v:Nat,ds=[.int .u64 (u:Int),.int .u64 (v:Int)]∧Ls u v=G∧u<1000000000000000000∧v<1000000000000000000,fun ds=>(toI (nth .undef ds 1)).toNat⟩) mixedT Tryz.func201 ?_
 rw[qy x,qy y,ED];simp only[Hx];refine⟨⟨x.natAbs,y.natAbs,rfl,hG,hx,hy⟩,?_⟩;rintro es fs ⟨m,n,he,hg,hm,hn⟩;simp only[Lr,D.sl.injEq,and_true]at he;obtain⟨rfl,rfl⟩:=he;have lm:=(smN.2 hm).len;have ln:=(smN.2 hn).len;rw[Hv]at lm ln;rw[qh,qh];have a2:0<n→∃es_2 es_3,qf CC 274 [Bx (F0 (raw (lim m))),Bx (F0 (raw (lim n)))] [Bx (F0 es_2),Bx (F0 es_3)]∧
  (∃m' n':Nat,[F0 (raw (lim n)),F0 es_3]=[.sl (raw (lim m')),.sl (raw (lim n'))]∧Ls m' n'=G∧m'<JY∧n'<JY)∧
  JO (toL (nth .undef [F0 (raw (lim n)),F0 es_3] 1))<JO (toL (nth .undef [F0 (raw (lim m)),F0 (raw (lim n))] 1)):=by
  intro a1;have a3:=Pl m a1;refine⟨_,_,hd m n (by omega) lm ln,⟨n,m%n,rfl,?_,hn,by omega⟩,?_⟩
  ·rw[←hg,No n,←U3,No]
  ·simp only[nth,toL,kO,qj];exact a3
 have a0:∀{k:Nat},¬((lim k).length:Int)>2→k<1000000000000000000:=by
  intro k hk;have h1:=qO (qe k);rw[qj]at h1;have h2:1000000000^(lim k).length≤1000000000^2:=Nat.pow_le_pow_right (by omega) (by omega);have h3:(1000000000:Nat)^2=1000000000000000000:=by decide
  omega
 have a4:n=0→∃b es_2,qf CC 128 [Bx (Dd false),Bx (F0 (raw (lim m)))] [Aw [Dd b,F0 es_2]]∧[Aw [Dd b,F0 es_2]]=[qJ (G:Int)]:=by intro a1;subst a1;rw[P1]at hg;subst hg;exact⟨_,_,xd false (qe m) (by omega) (z:=(m:Int)) (by simp[qj]),rfl⟩
 have a5:m<1000000000000000000→n<1000000000000000000→
  ∃a,qf CC 275 [Bx (F0 (raw (lim m)))] [Bx (F2 Hu a)]∧∃b,qf CC 275 [Bx (F0 (raw (lim n)))] [Bx (F2 Hu b)]∧
   (∃u v:Nat,[F2 Hu a,F2 Hu b]=[.int .u64 (u:Int),.int .u64 (v:Int)]∧Ls u v=G∧u<1000000000000000000∧v<1000000000000000000)∧
   ∀(n n_2:Int),(∃u v:Nat,[F2 Hu n,F2 Hu n_2]=[.int .u64 (u:Int),.int .u64 (v:Int)]∧Ls u v=G∧u<1000000000000000000∧v<1000000000000000000)→
    br (toB (Dd (decide (n_2>(0:Int)))))
     (n_2≠(0:Int)∧
      (∃u v:Nat,[F2 Hu n_2,F2 Hu (J6 n n_2)]=[.int .u64 (u:Int),.int .u64 (v:Int)]∧Ls u v=G∧u<1000000000000000000∧v<1000000000000000000)∧
       (toI (nth .undef [F2 Hu n_2,F2 Hu (J6 n n_2)] 1)).toNat<(toI (nth .undef [F2 Hu n,F2 Hu n_2] 1)).toNat)
     (∃es,qf CC 129 [Bx (F2 Hu n)] [Bx (F0 es)]∧
      ∃b es_2,qf CC 128 [Bx (Dd false),Bx (F0 es)] [Aw [Dd b,F0 es_2]]∧[Aw [Dd b,F0 es_2]]=[qJ (G:Int)]):=by
  intro sm sn;have h3:(1000000000:Nat)^2=1000000000000000000:=by decide
  have g1:=Qz (qe m) (qq (by omega));have g2:=Qz (qe n) (qq (by omega));rw[qj]at g1 g2;refine⟨_,g1,_,g2,⟨m,n,rfl,hg,sm,sn⟩,?_⟩;rintro a b ⟨u,v,he,a6,hu,hv⟩;simp only[Lr,D.int.injEq,true_and,and_true]at he;obtain⟨rfl,rfl⟩:=he;refine brd (fun h2=>?_) (fun h2=>?_)
  ·have a7:0<v:=by omega
   have e2:J6 (u:Int) (v:Int)=((u%v:Nat):Int):=by rw[Int.tmod_eq_emod_of_nonneg (by omega)];rfl
   have a3:=Pl u a7;rw[e2];refine⟨by omega,⟨v,u%v,rfl,by rw[←a6,No v,←U3,No],hv,by omega⟩,?_⟩;simp only[nth,toI,Int.toNat_natCast];exact a3
  ·have a7:v=0:=by omega
   subst a7;rw[P1]at a6;subst a6;have:(lim u).length≤2:=qq (by omega);exact⟨_,vi (by omega),_,_,xd false (qe u) (by omega) (z:=(u:Int)) (by simp[qj]),rfl⟩
 refine brd (fun h=>?_) (fun h=>?_)
 ·have a1:0<n:=qG.1 (by omega);refine brd (fun h1=>a2 a1) (fun h1=>brd (fun h2=>a2 a1) (fun h2=>brb (fun h3=>?_) (fun _=>a5 (a0 h1) (a0 h2))));have:((lim n).length:Int)=0:=by simpa using h3
  omega
 ·have a1:n=0:=by
   rcases Ts n with h0|h0
   ·exact h0
   ·have:=qG.2 h0;omega
  refine brb (fun _=>a4 a1) (fun h3=>?_);subst a1;simp[Va]at h3
theorem vK (hd:w5) {x y:Int} (hx:Sm x) (hy:Sm y) (hy0:0<y):qf CC 240 [qJ x,qJ y] [qJ (x/y),qJ (x%y),.c (.int .i64 0)]:=by
 refine qg (anns:=an0) mixedT Tryz.func240 ?_;have lx:=hx.len;have ly:=hy.len;have hyn:y.natAbs≠0:=by omega
 have hlp:0<(lim y.natAbs).length:=qG.2 (by omega);have h1:=hd x.natAbs y.natAbs hyn lx ly;have hqs:(x/y).natAbs≤x.natAbs+1:=by have:=Int.natAbs_ediv_le_natAbs x y;omega
 rw[qy x,qy y,qq0];simp only[Hx];obtain⟨a,ha⟩:∃a:Nat,x.natAbs=a:=⟨_,rfl⟩;obtain⟨b,hb⟩:∃b:Nat,y=(b:Int):=⟨y.natAbs,by omega⟩;have a0:y.natAbs=b:=by omega
 have hb0:0<b:=by omega
 rw[ha,a0]at h1;rw[ha]at lx;rw[a0]at ly;have hdm:=Nat.div_add_mod a b;have hml:=Pl a hb0;have lq:(lim (a/b)).length≤1000:=U0 (CH (T1 a b)) lx;have lr:(lim (a%b)).length≤1000:=U0 (CH (Nat.mod_le a b)) lx;refine brb (fun h=>?_) (fun _=>?_)
 ·rw[qh]at h;have:((lim y.natAbs).length:Int)=0:=by simpa using h
  omega
 have a2:decide (y<0)=false:=decide_eq_false (by omega);rw[a2];by_cases hx0:x<0
 ·have hxt:decide (x<0)=true:=decide_eq_true hx0;rw[hxt,ha,a0];have a1:x= -(a:Int):=by omega
  have gq:=xd true (qe (a/b)) (by omega) (z:= -((a/b:Nat):Int)) (by rw[qj];rfl);have gr:=xd true (qe (a%b)) (by omega) (z:= -((a%b:Nat):Int)) (by rw[qj];rfl);refine⟨_,_,h1,_,_,gq,_,_,gr,?_⟩;rw[qh];refine brd (fun h=>brb (fun h2=>?_) (fun h2=>?_)) (fun h=>?_)
  ·have hr0:0<a%b:=qG.1 (by omega);have g1:=xv (n:=1) (by omega) (by omega);have hq:(a/b)<JY:=Lv (T1 _ _) (ha▸hx);have sq:Sm (-((a/b:Nat):Int)):=by unfold Sm;rw[J7,Hv];exact hq
   have sr:Sm (-((a%b:Nat):Int)):=by unfold Sm;rw[J7,Hv];exact Nat.lt_trans hml (a0▸hy)
   have gs:=PM sq YV;have ga:=Vm sr hy;have ga2:qf CC 314 [qJ (-((a%b:Nat):Int)),.ag [.bool false,.sl (raw (lim b))]] [qJ (-((a%b:Nat):Int)+y)]:=by
    have e0:qJ y= .ag [.bool false,.sl (raw (lim b))]:=by rw[qy y,a2,a0]
    rw[e0]at ga;exact ga
   refine⟨_,_,g1,_,_,gs,_,_,ga2,?_⟩;have e1:x/y= -((a/b:Nat):Int)-1∧x%y= -((a%b:Nat):Int)+y:=by
    have:=Hy (a:=x) (b:=y) (r:= -((a%b:Nat):Int)+y) (q:= -((a/b:Nat):Int)-1) hy0;refine this.2 ⟨?_,by omega,by omega⟩;rw[a1,hb];have h5:(b:Int)*(-((a/b:Nat):Int)-1)= -((b*(a/b):Nat):Int)-b:=by rw[Int.mul_sub,Lm,Int.mul_one,J4]
    rw[h5];omega
   rw[e1.1,e1.2];rfl
  ·simp at h2
  ·have hr0:a%b=0:=by
    rcases Ts (a%b)with h0|h0
    ·exact h0
    ·have:=qG.2 h0;omega
   have e1:x/y= -((a/b:Nat):Int)∧x%y= -((a%b:Nat):Int):=by have:=Hy (a:=x) (b:=y) (r:= -((a%b:Nat):Int)) (q:= -((a/b:Nat):Int)) hy0;refine this.2 ⟨?_,by omega,by omega⟩;rw[a1,hb,Lm,←J4];omega
   rw[e1.1,e1.2];rfl
 ·have hxf:decide (x<0)=false:=decide_eq_false hx0;rw[hxf,ha,a0];have a1:x=(a:Int):=by omega
  have gq:=xd false (qe (a/b)) (by omega) (z:=((a/b:Nat):Int)) (by rw[qj];rfl);have gr:=xd false (qe (a%b)) (by omega) (z:=((a%b:Nat):Int)) (by rw[qj];rfl);refine⟨_,_,h1,_,_,gq,_,_,gr,?_⟩;have e1:x/y=((a/b:Nat):Int)∧x%y=((a%b:Nat):Int):=by rw[a1,hb];exact⟨rfl,rfl⟩
  refine brd (fun h=>brb (fun h2=>?_) (fun h2=>?_)) (fun h=>?_)
  ·simp at h2
  ·rw[e1.1,e1.2];rfl
  ·rw[e1.1,e1.2];rfl
theorem XZ:qf CC 69 [] [qJ 1]:=by
 refine qg (anns:=an0) mixedT Tryz.func69 ?_;rw[Br];exact⟨_,_,xv (n:=1) (by omega) (by omega),rfl⟩
theorem Bu (z:Int):cI z=[.bool (decide (z<0)),.sl (raw (lim z.natAbs))]:=rfl
theorem Tc (hd:w5) {x y:Int} (hx:Sm x) (hy:Sm y) (hy0:y≠0):qf CC 145 [qJ x,qJ y] [xk (W0 x y)]:=by
 refine qg (anns:=wB an0 3 ⟨[.box 2 [.bool false,.slice none 0 0],.box 3 [.bool false,.slice none 0 0]],[.box 2 [.bool false,.slice none 0 0],.box 3 [.bool false,.slice none 0 0]],fun _ ds=>∃u v:Int,ds=cI u++cI v∧Sm u∧Sm v∧0<v∧W0 u v=W0 x y,fun _=>0⟩) mixedT Tryz.func145 ?_;rw[qy x,qy y,AC];have hS:=Q0 y;rw[qy y]at hS;have a1:=Vl hx;have a2:=Vl hy;rw[qy x,qy]at a1;rw[qy y,qy]at a2;refine⟨⟨_,hS,brd (fun h=>?_) (fun h=>?_)⟩,?_⟩
 ·have a3:y<0:=by
   unfold sgn at h;split at h
   ·assumption
   ·split at h<;>omega
  exact⟨_,_,a1,_,_,a2, -x, -y,rfl,UX hx,UX hy,by omega,by rw[Rat.neg_divInt_neg]⟩
 ·have a3:0<y:=by
   unfold sgn at h;split at h
   ·omega
   ·omega
  exact⟨x,y,rfl,hx,hy,a3,rfl⟩
 ·rintro b1 es1 b2 es2 ⟨u,v,he,hu,hv,hv0,hr⟩;simp only[Bu,List.cons_append,List.nil_append,Lr,D.bool.injEq,D.sl.injEq,and_true]at he;obtain⟨rfl,rfl,rfl,rfl⟩:=he;obtain⟨g,hg⟩:∃g:Nat,g=Ls u.natAbs v.natAbs:=⟨_,rfl⟩;have hgp:0<g:=by rw[hg];exact Nat.gcd_pos_of_pos_right _ (by omega)
  have a0:Sm (g:Int):=smN.2 (by rw[hg];exact Lv (Nat.gcd_le_right _ (by omega)) hv);have g1:=HD hd hu hv;rw[←hg]at g1;have g2:=vK hd hu a0 (by omega);have g3:=vK hd hv a0 (by omega);refine⟨_,_,g1,_,_,_,_,_,g2,_,_,_,_,_,g3,?_⟩;rw[←hr,ja hv0,←hg];rfl
theorem Bv (hd:w5) {x y:Int} (hx:Sm x) (hy:Sm y):
 qf CC 336 [qJ x,qJ y] (if y=0 then [.ag [.bool false,.sl [],.bool false,.sl []],.c (.int .i64 6)]else [xk (W0 x y),.c (.int .i64 0)]):=by
 refine qg (anns:=an0) mixedT Tryz.func336 ?_;rw[qm x,qm y,Bs];refine⟨_,Q0 y,?_⟩;refine brb (fun h=>?_) (fun h=>?_)
 ·have:y=0:=by
   unfold sgn at h;split at h
   ·simp at h
   ·split at h
    ·simp at h
    ·omega
  rw[if_pos this]
 ·have:y≠0:=by rintro rfl;simp[sgn]at h
  rw[if_neg this];exact⟨_,_,_,_,Tc hd hx hy this,rfl⟩
theorem Td (r:Rat):qf CC 92 [xk r] [.c (.int .i64 (sgn r.num))]:=by
 refine qg (anns:=an0) mixedT Tryz.func92 ?_;rw[qb,Bt];exact⟨_,Q0 r.num,rfl⟩
theorem HE {x:Rat} (hx:Sr x):qf CC 172 [xk x] [xk (-x)]:=by
 refine qg (anns:=an0) mixedT Tryz.func172 ?_;rw[qb,EF];refine⟨_,_,Vl hx.1.sm,?_⟩;rw[qb,Rat.neg_num];have:(-x).den=x.den:=rfl;rw[this]
theorem PN (hd:w5) {x y:Rat} (hx:Sr x) (hy:Sr y):qf CC 272 [xk x,xk y] [xk (x+y)]:=by
 refine qg (anns:=an0) mixedT Tryz.func272 ?_;rw[qb,qb,EG];have px:=den_pos x;have py:=den_pos y;have hp:=J9 px py;have e0:x+y=W0 (x.num*y.den+y.num*x.den) (x.den*y.den):=by rw[←Rat.divInt_add_divInt _ _ (by omega) (by omega),V1,V1]
 refine⟨_,_,ju hx.1.sm hy.2.sm,_,_,ju hy.1.sm hx.2.sm,_,_,Vm (hx.1.mul hy.2) (hy.1.mul hx.2),_,_,ju hx.2.sm hy.2.sm,_,_,_,_,Tc hd (hx.1.mul_add hy.2 hy.1 hx.2) (hx.2.mul hy.2) (by omega),?_⟩;rw[e0];rfl
theorem EL (hd:w5) {x y:Rat} (hx:Sr x) (hy:Sr y):qf CC 198 [xk x,xk y] [xk (x-y)]:=by
 refine qg (anns:=an0) mixedT Tryz.func198 ?_;rw[qb,qb,EH];refine⟨_,_,_,_,HE hy,_,_,_,_,PN hd hx hy.neg,?_⟩;rw[Rat.sub_eq_add_neg];rfl
theorem HF {x y:Rat} (hx:Sr x) (hy:Sr y):qf CC 171 [xk x,xk y] [.c (.int .i64 (Bl x y))]:=by
 refine qg (anns:=an0) mixedT Tryz.func171 ?_;rw[qb,qb,EI];rw[JC];exact⟨_,_,ju hx.1.sm hy.2.sm,_,_,ju hy.1.sm hx.2.sm,_,Vk (hx.1.mul hy.2) (hy.1.mul hx.2),rfl⟩
theorem Xk (hd:w5) {x y:Rat} (hx:Sr x) (hy:Sr y):qf CC 103 [xk x,xk y] [xk (x*y)]:=by
 refine qg (anns:=an0) mixedT Tryz.func103 ?_;rw[qb,qb,EJ];have px:=den_pos x;have py:=den_pos y;have:=J9 px py;refine⟨_,_,ju hx.1.sm hy.1.sm,_,_,ju hx.2.sm hy.2.sm,_,_,_,_,Tc hd (hx.1.mul hy.1) (hx.2.mul hy.2) (by omega),?_⟩;have e:x*y=W0 (x.num*y.num) (x.den*y.den):=by rw[←W1,V1,V1]
 rw[e];rfl
theorem EM (hd:w5) {x y:Rat} (hx:Sr x) (hy:Sr y):
 qf CC 273 [xk x,xk y] (if y=0 then [.ag [.bool false,.sl [],.bool false,.sl []],.c (.int .i64 6)]else [xk (x/y),.c (.int .i64 0)]):=by
 refine qg (anns:=an0) mixedT Tryz.func273 ?_;rw[qb,qb,EK];have px:=den_pos x;have py:=den_pos y;have hm:=Bv hd (hx.1.mul hy.2) (hx.2.mul hy.1);by_cases hn:y.num=0
 ·have:y=0:=W2.1 hn;rw[if_pos this];rw[if_pos (by rw[hn,Int.mul_zero])]at hm;exact⟨_,_,ju hx.1.sm hy.2.sm,_,_,ju hx.2.sm hy.1.sm,_,_,_,_,_,hm,rfl⟩
 ·have:y≠0:=fun h=>hn (W2.2 h)
  rw[if_neg this];have h0:(x.den:Int)*y.num≠0:=Int.mul_ne_zero (by omega) hn;rw[if_neg h0]at hm;refine⟨_,_,ju hx.1.sm hy.2.sm,_,_,ju hx.2.sm hy.1.sm,_,_,_,_,_,hm,?_⟩;have e:x/y=W0 (x.num*y.den) (x.den*y.num):=by rw[Rat.div_def,←W1,V1,←Rat.inv_divInt,V1]
  rw[e];rfl
theorem zM {n:Int} (h1: -9223372036854775808≤n) (h2:n<9223372036854775808):qf CC 27 [.c (.int .i64 n)] [xk (n:Rat)]:=by
 refine qg (anns:=an0) mixedT Tryz.func27 ?_;rw[Vn];refine⟨_,_,xv h1 h2,_,_,XZ,?_⟩;rw[qb,Rat.num_intCast,Rat.den_intCast];rfl
end Eng
end
