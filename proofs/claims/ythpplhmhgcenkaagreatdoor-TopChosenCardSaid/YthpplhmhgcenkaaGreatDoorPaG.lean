import Derived.Test.YthpplhmhgcenkaaGreatDoorPaF
import Derived.KernelRfl
import Derived.WalkKit
import Derived.Below
import Derived.Maps.StringElems
import Derived.WideKeyElems2
import Derived.MapKept
open Eng.A renaming ag->Aw, c->Bx
open Eng.D renaming int->Dd, sl->F0, str->Hu, bool->Hv
open Go.IntKind renaming wrap->Hx
open Int renaming tmod->Hy
open List renaming mem_map->I0, mem_cons->I1, not_mem_nil->I2, map_cons->I3
set_option maxRecDepth 1000000
section
namespace Eng
open Go Go.Proofs
def UQ (m:Int):Int:=2500+500*Hy m 6
def t0S (m:Int):TL:=⟨1,1,UQ m,20000,UQ m+7000,2000,20000,5000⟩
def t1S (m:Int):TL:=⟨2,1,UQ m,4000,UQ m+7000,2000,20000,5000⟩
def t2S (m:Int):TL:=⟨3,1,UQ m,20000,UQ m+7000,2000,20000,5000⟩
def t3S (d:Int):TL:=⟨4,2,1000*(1+Hy d 5),20000,1000*(1+Hy d 5)+7000,1500,20000,5000⟩
def t4S:TL:=⟨5,3,1500,20000,8500,1500,20000,5000⟩
theorem JL {m:Int} (h:0<=m):2500<=UQ m/\UQ m<=5000:=by
 have:=xv (b:=6) h (by omega);unfold UQ;omega
section
variable {m0 m1 m2 dr:Int}
theorem ix (h0:0<=m0) (h1:0<=m1) (h2:0<=m2) (h3:0<=dr):MagOk [t0S m0,t1S m1,t2S m2,t3S dr,t4S]:=by
 have b0:=JL h0;have b1:=JL h1;have b2:=JL h2;have b3:=xv (b:=5) h3 (by omega);refine⟨λt ht=>?_,by simp,?_⟩
 .simp only[I1,I2,or_false]at ht;rcases ht with rfl|rfl|rfl|rfl|rfl
  all_goals
   refine⟨?_,?_,?_,?_,?_,?_,?_,?_,?_⟩<;>(try unfold lnI)<;>simp only[t0S,t1S,t2S,t3S,t4S]<;>omega
 .intro i j hi hj e;have hi5:i<5:=by simpa using hi
  have hj5:j<5:=by simpa using hj
  have hi':i=0\/i=1\/i=2\/i=3\/i=4:=by omega
  have hj':j=0\/j=1\/j=2\/j=3\/j=4:=by omega
  rcases hi' with rfl|rfl|rfl|rfl|rfl<;>rcases hj' with rfl|rfl|rfl|rfl|rfl<;>first|rfl|(simp[t0S,t1S,t2S,t3S,t4S]at e)
theorem iy:∀t∈[t0S m0,t1S m1,t2S m2,t3S dr,t4S],BG t.s:=λt ht=>by
 simp only[I1,I2,or_false]at ht;unfold BG;rcases ht with rfl|rfl|rfl|rfl|rfl<;>simp[t0S,t1S,t2S,t3S,t4S]
end
theorem i9 (x:List D) (h:x.length=8):lens 8 [x]:=by intro y hy;simp at hy;subst hy;exact h
theorem bp (x y:List D) (h:x.length=8) (k:y.length=8):lens 8 [x,y]:=by
 intro z hz;simp at hz;rcases hz with rfl|rfl
 .exact h
 .exact k
section
variable [Env]
theorem ZI {n r:Int} (h:0<=r/\r<=1000000):Gives CC 29 [.c (.int .i64 n),.c (.int .i64 r)] [.ag [.int .i64 n,.int .i64 1,.int .i64 r,.int .i64 20000,.int .i64 (r+7000),.int .i64 1500,.int .i64 20000,.int .i64 5000]]:=by
 refine qj (C:=CC) (anns:=an0) mixedT Tryz.func29 ?_;rw[EJ,qR (n:=r+7000) (by omega) (by omega)]
theorem ES {C:Cx} [EffOk C] {anns:Nat->Ann} {un:Nat->Nat} {f:Nat} {fn:Func} {args res:List A} {P:Prop} (hm:C.P.follows .mixedOrders=true) (hf:C.P.funcs[f]? =some fn) (e:Be C (Gives C) anns un fn args (λr=>r=res)=P) (h:P):Gives C f args res:=by
 subst e;exact Zp hm hf h
theorem Sd (R:List A) (a0 a1 a2 a3 co h0 h1 h2 fr ha d0 d1 c0 c1 c2 m0 m1 m2 dr to:Int) (g0:0<=m0) (g1:0<=m1) (g2:0<=m2) (g3:0<=dr) (hR:[Bx (.sl (mgD [t0S m0,t1S m1,t2S m2,t3S dr,t4S]))]=R):
 Gives CC 7 [.ag (.int .u8 a0:: .int .u8 a1:: .int .u8 a2:: .int .u8 a3:: .int .u8 co:: .int .u8 h0:: .int .u8 h1:: .int .u8 h2:: .int .u8 fr:: .int .u8 ha:: .int .u8 d0:: .int .u8 d1:: .int .u8 c0:: .int .u8 c1:: .int .u8 c2:: .int .u8 m0:: .int .u8 m1:: .int .u8 m2:: .int .u8 dr:: .int .u8 to::[])] R:=by
 have hv:=NQ (Gives CC) (λ_ _=>True) (λ_=>0) a0 a1 a2 a3 co h0 h1 h2 fr ha d0 d1 c0 c1 c2 m0 m1 m2 dr to (· =R);refine ES (C:=CC) mixedT Tryz.func7 hv ?_;clear hv;have r0:=JL g0;have r1:=JL g1;have r2:=JL g2;have b0:=xv (b:=6) g0 (by omega);have b1:=xv (b:=6) g1 (by omega);have b2:=xv (b:=6) g2 (by omega);have b3:=xv (b:=5) g3 (by omega);have w6:∀{m:Int},0<=Hy m 6/\Hy m 6<6->Hx .i64 (2500+Hx .i64 (500*Hx .i64 (Hy m 6)))=UQ m:=λ{m} h=>by rw[qR (n:=Hy m 6) (by omega) (by omega),qR (n:=500*Hy m 6) (by omega) (by omega),qR (by omega) (by omega)];rfl
 have w5:Hx .i64 (1000*Hx .i64 (1+Hx .i64 (Hy dr 5)))=1000*(1+Hy dr 5):=by rw[qR (n:=Hy dr 5) (by omega) (by omega),qR (n:=1+Hy dr 5) (by omega) (by omega),qR (by omega) (by omega)]
 rw[w6 b0,w6 b1,w6 b2,w5];have s0:=ZI (n:=1) (r:=UQ m0) ⟨by omega,by omega⟩;have s1:=ZI (n:=2) (r:=UQ m1) ⟨by omega,by omega⟩;have s2:=ZI (n:=3) (r:=UQ m2) ⟨by omega,by omega⟩;have s3:=ZI (n:=4) (r:=1000*(1+Hy dr 5)) ⟨by omega,by omega⟩;have s4:=ZI (n:=5) (r:=1500) ⟨by omega,by omega⟩;have l8:∀a b c d e f g h:Int,lens 8 [[Dd .i64 a,.int .i64 b,.int .i64 c,.int .i64 d,.int .i64 e,.int .i64 f,.int .i64 g,.int .i64 h]]:=λa b c d e f g h=>i9 _ rfl
 refine⟨by omega,_,_,_,_,_,_,_,_,s0,⟨xA (by omega),l8 _ _ _ _ _ _ _ _⟩,by omega,_,_,_,_,_,_,_,_,s1,⟨xA (by omega),l8 _ _ _ _ _ _ _ _⟩,by omega,_,_,_,_,_,_,_,_,s2,⟨xA (by omega),l8 _ _ _ _ _ _ _ _⟩,by omega,
  _,_,_,_,_,_,_,_,s3,_,_,_,_,_,_,_,_,s4,⟨xA (by omega),bp _ _ rfl rfl⟩,?_⟩
 rw[<-hR];unfold mgD tlD t0S t1S t2S t3S t4S;simp only[I3,List.map_nil];rfl
theorem NU (a0 a1 a2 a3 co h0 h1 h2 fr ha d0 d1 c0 c1 c2 m0 m1 m2 dr to:Int) (g0:0<=m0) (g1:0<=m1) (g2:0<=m2) (g3:0<=dr):Gives CC 7 [.ag (.int .u8 a0:: .int .u8 a1:: .int .u8 a2:: .int .u8 a3:: .int .u8 co:: .int .u8 h0:: .int .u8 h1:: .int .u8 h2:: .int .u8 fr:: .int .u8 ha:: .int .u8 d0:: .int .u8 d1:: .int .u8 c0:: .int .u8 c1:: .int .u8 c2:: .int .u8 m0:: .int .u8 m1:: .int .u8 m2:: .int .u8 dr:: .int .u8 to::[])] [.c (.sl (mgD [t0S m0,t1S m1,t2S m2,t3S dr,t4S]))]:=Sd _ a0 a1 a2 a3 co h0 h1 h2 fr ha d0 d1 c0 c1 c2 m0 m1 m2 dr to g0 g1 g2 g3 rfl
def vI (x y:Int):List D:=rk (q4 (x:Rat)) (rk (q4 (y:Rat)) [])
def ET (x0 y0 x1 y1:Int):Nat->List (List D)
 |0=>[vI x0 y0,vI x1 y0,vI x1 y1,vI x0 y1]
 |1=>[vI x0 y0,vI x1 y0,vI x1 (y1-2000),vI (x1-3000) y1,vI x0 y1]
 |_=>[vI x0 y0,vI x1 y0,vI x0 y1]
def kOf (co:Int):Nat:=match Hy co 3==1 with
 |true=>1
 |false=>match Hy co 3==2 with
  |true=>2
  |false=>0
def loI (a:Int):Int:=1000*Hy a 12
def siI (a:Int):Int:=6000+1000*Hy a 5
theorem JM {x y:Int} (hx:0<=x/\x<=1000) (hy:0<=y/\y<=1000):Gives CC 68 [.c (.int .i64 x),.c (.int .i64 y)] [.ag (vI (1000*x) (1000*y))]:=by
 have g:Gives CC 138 [.c (.int .i64 (1000*x)),.c (.int .i64 (1000*y))] [.ag (vI (1000*x) (1000*y))]:=by refine qj (C:=CC) (anns:=an0) mixedT Tryz.func138 ?_;rw[Sc];exact⟨_,zN (by omega) (by omega),_,zN (by omega) (by omega),rfl⟩
 refine qj (C:=CC) (anns:=an0) mixedT Tryz.func68 ?_;rw[aU,qR (n:=1000*x) (by omega) (by omega),qR (n:=1000*y) (by omega) (by omega)];exact⟨_,_,g,rfl⟩
theorem Se (a0 a1 a2 a3 co h0 h1 h2 fr ha d0 d1 c0 c1 c2 m0 m1 m2 dr to:Int) (g0:0<=a0) (g1:0<=a1) (g2:0<=a2) (g3:0<=a3):
 Gives CC 25 [.ag (.int .u8 a0:: .int .u8 a1:: .int .u8 a2:: .int .u8 a3:: .int .u8 co:: .int .u8 h0:: .int .u8 h1:: .int .u8 h2:: .int .u8 fr:: .int .u8 ha:: .int .u8 d0:: .int .u8 d1:: .int .u8 c0:: .int .u8 c1:: .int .u8 c2:: .int .u8 m0:: .int .u8 m1:: .int .u8 m2:: .int .u8 dr:: .int .u8 to::[])] [.c (.sl (ET (loI a0) (loI a1) (loI a0+siI a2) (loI a1+siI a3) (kOf co)))]:=by
 have b0:=xv (b:=12) g0 (by omega);have b1:=xv (b:=12) g1 (by omega);have b2:=xv (b:=5) g2 (by omega);have b3:=xv (b:=5) g3 (by omega);refine qj (C:=CC) (anns:=an0) mixedT Tryz.func25 ?_;rw[RZ];unfold loI siI kOf;generalize Hy a0 12=p at *;generalize Hy a1 12=q at *;generalize Hy a2 5=u at *;generalize Hy a3 5=v at *;have e1:1000*p+(6000+1000*u)=1000*(p+6+u):=by omega
 have e2:1000*q+(6000+1000*v)=1000*(q+6+v):=by omega
 have e3:1000*(p+6+u)-3000=1000*(p+6+u-3):=by omega
 have e4:1000*(q+6+v)-2000=1000*(q+6+v-2):=by omega
 have w:∀n:Int,0<=n->n<=1000->Hx .i64 n=n:=λn h1 h2=>qR (by omega) (by omega)
 rw[w p (by omega) (by omega),w q (by omega) (by omega),w u (by omega) (by omega),w v (by omega) (by omega),w (p+6) (by omega) (by omega),w (q+6) (by omega) (by omega),w (p+6+u) (by omega) (by omega),w (q+6+v) (by omega) (by omega),
  w (p+6+u-3) (by omega) (by omega),w (q+6+v-2) (by omega) (by omega),e1,e2]
 have a4:=JM (x:=p) (y:=q) (by omega) (by omega);have a6:=JM (x:=p+6+u) (y:=q) (by omega) (by omega);have g11:=JM (x:=p+6+u) (y:=q+6+v) (by omega) (by omega);have a5:=JM (x:=p) (y:=q+6+v) (by omega) (by omega);have g1m:=JM (x:=p+6+u) (y:=q+6+v-2) (by omega) (by omega);have gm1:=JM (x:=p+6+u-3) (y:=q+6+v) (by omega) (by omega);refine⟨by omega,by omega,by omega,by omega,by omega,brb (λh=>?_) λh=>⟨by omega,brb (λk=>?_) λk=>?_⟩⟩
 .rw[h];refine⟨_,_,a4,_,_,a6,_,_,g1m,_,_,gm1,_,_,a5,?_⟩;show _=[Bx (.sl [_,_,vI (1000*(p+6+u)) (1000*(q+6+v)-2000),vI (1000*(p+6+u)-3000) _,_])];rw[e3,e4];rfl
 .rw[h,k];exact⟨_,_,a4,_,_,a6,_,_,a5,rfl⟩
 .rw[h,k];exact⟨_,_,a4,_,_,a6,_,_,g11,_,_,a5,rfl⟩
end
end Eng
end
section
open Go Go.Proofs Eng
namespace Eng
def UR (a n:Int):Int:=Hx .u8 ((BitVec.ofInt 8 a&&&BitVec.ofInt 8 n).toNat:Int)
theorem Sf (Gv:Nat->List A->List A->Prop) (a0 a1 a2 a3 co h0 h1 h2 fr ha d0 d1 c0 c1 c2 m0 m1 m2 dr to:Int) (Q:List A->Prop):wpF (CX []) Gv an0 Tryz.f5 [.ag (.int .u8 a0:: .int .u8 a1:: .int .u8 a2:: .int .u8 a3:: .int .u8 co:: .int .u8 h0:: .int .u8 h1:: .int .u8 h2:: .int .u8 fr:: .int .u8 ha:: .int .u8 d0:: .int .u8 d1:: .int .u8 c0:: .int .u8 c1:: .int .u8 c2:: .int .u8 m0:: .int .u8 m1:: .int .u8 m2:: .int .u8 dr:: .int .u8 to::[])] Q=(br (toB (Hv (decide (UR ha 1>(0:Int))))) (∃es,Gv 25 [Aw [Dd .u8 a0,Dd .u8 a1,Dd .u8 a2,Dd .u8 a3,Dd .u8 co,Dd .u8 h0,Dd .u8 h1,Dd .u8 h2,Dd .u8 fr,Dd .u8 ha,Dd .u8 d0,Dd .u8 d1,Dd .u8 c0,Dd .u8 c1,Dd .u8 c2,Dd .u8 m0,Dd .u8 m1,Dd .u8 m2,Dd .u8 dr,Dd .u8 to]] [Bx (F0 es)]/\∃e1,Gv 24 [Bx (F0 es)] [Bx (F0 e1)]/\∃es i,Gv 23 [Bx (F0 e1)] [Aw [F0 es],Bx (Dd .i64 i)]/\(12:Int)≠(0:Int)/\(Xc 1/\lens 4 [[Hu [112,111,99,107,101,116],Dd .i64 1,Dd .i64 (Hx .i64 (500*Hx .i64 (1+Hx .i64 (Hy d0 (12:Int))))),F0 es]])/\br (toB (Hv (decide (UR ha 2>(0:Int))))) ((30:Int)≠(0:Int)/\∃x,Gv 27 [Bx (Dd .i64 (Hx .i64 (1000*Hx .i64 (Hy h0 (30:Int)))))] [Aw (rk x [])]/\(30:Int)≠(0:Int)/\∃x1,Gv 27 [Bx (Dd .i64 (Hx .i64 (1000*Hx .i64 (Hy h1 (30:Int)))))] [Aw (rk x1 [])]/\(5:Int)≠(0:Int)/\(5:Int)≠(0:Int)/\∃x2,Gv 27 [Bx (Dd .i64 (Hx .i64 (Hx .i64 (1000000*Hx .i64 (1+Hx .i64 (Hy h2 (5:Int))))*Hx .i64 (1+Hx .i64 (Hy h2 (5:Int))))))] [Aw (rk x2 [])]/\∃e2 i,Gv 26 [Aw (rk x (rk x1 (rk x2 [])))] [Aw [F0 e2],Bx (Dd .i64 i)]/\(12:Int)≠(0:Int)/\(Xc 2/\lens 4 [[Hu [104,111,108,101],Dd .i64 3,Dd .i64 (Hx .i64 (500*Hx .i64 (1+Hx .i64 (Hy d1 (12:Int))))),F0 e2]])/\br (toB (Hv (decide (UR ha 4>(0:Int))))) ((12:Int)≠(0:Int)/\∃x,Gv 27 [Bx (Dd .i64 (Hx .i64 (500*Hx .i64 (Hy fr (12:Int)))))] [Aw (rk x [])]/\∃x3,Gv 27 [Bx (Dd .i64 (Hx .i64 (500*Hx .i64 (Hy fr (12:Int)))))] [Aw (rk x3 [])]/\∃x4,Gv 27 [Bx (Dd .i64 (Hx .i64 (30000-Hx .i64 (500*Hx .i64 (Hy fr (12:Int))))))] [Aw (rk x4 [])]/\∃x5,Gv 27 [Bx (Dd .i64 (Hx .i64 (30000-Hx .i64 (500*Hx .i64 (Hy fr (12:Int))))))] [Aw (rk x5 [])]/\∃e3 i,Gv 28 [Aw (rk x (rk x3 (rk x4 (rk x5 []))))] [Aw [F0 e3],Bx (Dd .i64 i)]/\(Xc 3/\lens 4 [[Hu [111,117,116,108,105,110,101],Dd .i64 4,Dd .i64 6000,F0 e3]])/\Q [Aw [Dd .i64 6000,F0 [[Hu [112,111,99,107,101,116],Dd .i64 1,Dd .i64 (Hx .i64 (500*Hx .i64 (1+Hx .i64 (Hy d0 (12:Int))))),F0 es],[Hu [104,111,108,101],Dd .i64 3,Dd .i64 (Hx .i64 (500*Hx .i64 (1+Hx .i64 (Hy d1 (12:Int))))),F0 e2],[Hu [111,117,116,108,105,110,101],Dd .i64 4,Dd .i64 6000,F0 e3]]]]) (Q [Aw [Dd .i64 6000,F0 [[Hu [112,111,99,107,101,116],Dd .i64 1,Dd .i64 (Hx .i64 (500*Hx .i64 (1+Hx .i64 (Hy d0 (12:Int))))),F0 es],[Hu [104,111,108,101],Dd .i64 3,Dd .i64 (Hx .i64 (500*Hx .i64 (1+Hx .i64 (Hy d1 (12:Int))))),F0 e2]]]])) (br (toB (Hv (decide (UR ha 4>(0:Int))))) ((12:Int)≠(0:Int)/\∃x,Gv 27 [Bx (Dd .i64 (Hx .i64 (500*Hx .i64 (Hy fr (12:Int)))))] [Aw (rk x [])]/\∃x1,Gv 27 [Bx (Dd .i64 (Hx .i64 (500*Hx .i64 (Hy fr (12:Int)))))] [Aw (rk x1 [])]/\∃x2,Gv 27 [Bx (Dd .i64 (Hx .i64 (30000-Hx .i64 (500*Hx .i64 (Hy fr (12:Int))))))] [Aw (rk x2 [])]/\∃x3,Gv 27 [Bx (Dd .i64 (Hx .i64 (30000-Hx .i64 (500*Hx .i64 (Hy fr (12:Int))))))] [Aw (rk x3 [])]/\∃e2 i,Gv 28 [Aw (rk x (rk x1 (rk x2 (rk x3 []))))] [Aw [F0 e2],Bx (Dd .i64 i)]/\(Xc 2/\lens 4 [[Hu [111,117,116,108,105,110,101],Dd .i64 4,Dd .i64 6000,F0 e2]])/\Q [Aw [Dd .i64 6000,F0 [[Hu [112,111,99,107,101,116],Dd .i64 1,Dd .i64 (Hx .i64 (500*Hx .i64 (1+Hx .i64 (Hy d0 (12:Int))))),F0 es],[Hu [111,117,116,108,105,110,101],Dd .i64 4,Dd .i64 6000,F0 e2]]]]) (Q [Aw [Dd .i64 6000,F0 [[Hu [112,111,99,107,101,116],Dd .i64 1,Dd .i64 (Hx .i64 (500*Hx .i64 (1+Hx .i64 (Hy d0 (12:Int))))),F0 es]]]]))) (br (toB (Hv (decide (UR ha 2>(0:Int))))) ((30:Int)≠(0:Int)/\∃x,Gv 27 [Bx (Dd .i64 (Hx .i64 (1000*Hx .i64 (Hy h0 (30:Int)))))] [Aw (rk x [])]/\(30:Int)≠(0:Int)/\∃x1,Gv 27 [Bx (Dd .i64 (Hx .i64 (1000*Hx .i64 (Hy h1 (30:Int)))))] [Aw (rk x1 [])]/\(5:Int)≠(0:Int)/\(5:Int)≠(0:Int)/\∃x2,Gv 27 [Bx (Dd .i64 (Hx .i64 (Hx .i64 (1000000*Hx .i64 (1+Hx .i64 (Hy h2 (5:Int))))*Hx .i64 (1+Hx .i64 (Hy h2 (5:Int))))))] [Aw (rk x2 [])]/\∃es i,Gv 26 [Aw (rk x (rk x1 (rk x2 [])))] [Aw [F0 es],Bx (Dd .i64 i)]/\(12:Int)≠(0:Int)/\(Xc 1/\lens 4 [[Hu [104,111,108,101],Dd .i64 3,Dd .i64 (Hx .i64 (500*Hx .i64 (1+Hx .i64 (Hy d1 (12:Int))))),F0 es]])/\br (toB (Hv (decide (UR ha 4>(0:Int))))) ((12:Int)≠(0:Int)/\∃x,Gv 27 [Bx (Dd .i64 (Hx .i64 (500*Hx .i64 (Hy fr (12:Int)))))] [Aw (rk x [])]/\∃x3,Gv 27 [Bx (Dd .i64 (Hx .i64 (500*Hx .i64 (Hy fr (12:Int)))))] [Aw (rk x3 [])]/\∃x4,Gv 27 [Bx (Dd .i64 (Hx .i64 (30000-Hx .i64 (500*Hx .i64 (Hy fr (12:Int))))))] [Aw (rk x4 [])]/\∃x5,Gv 27 [Bx (Dd .i64 (Hx .i64 (30000-Hx .i64 (500*Hx .i64 (Hy fr (12:Int))))))] [Aw (rk x5 [])]/\∃e1 i,Gv 28 [Aw (rk x (rk x3 (rk x4 (rk x5 []))))] [Aw [F0 e1],Bx (Dd .i64 i)]/\(Xc 2/\lens 4 [[Hu [111,117,116,108,105,110,101],Dd .i64 4,Dd .i64 6000,F0 e1]])/\Q [Aw [Dd .i64 6000,F0 [[Hu [104,111,108,101],Dd .i64 3,Dd .i64 (Hx .i64 (500*Hx .i64 (1+Hx .i64 (Hy d1 (12:Int))))),F0 es],[Hu [111,117,116,108,105,110,101],Dd .i64 4,Dd .i64 6000,F0 e1]]]]) (Q [Aw [Dd .i64 6000,F0 [[Hu [104,111,108,101],Dd .i64 3,Dd .i64 (Hx .i64 (500*Hx .i64 (1+Hx .i64 (Hy d1 (12:Int))))),F0 es]]]])) (br (toB (Hv (decide (UR ha 4>(0:Int))))) ((12:Int)≠(0:Int)/\∃x,Gv 27 [Bx (Dd .i64 (Hx .i64 (500*Hx .i64 (Hy fr (12:Int)))))] [Aw (rk x [])]/\∃x1,Gv 27 [Bx (Dd .i64 (Hx .i64 (500*Hx .i64 (Hy fr (12:Int)))))] [Aw (rk x1 [])]/\∃x2,Gv 27 [Bx (Dd .i64 (Hx .i64 (30000-Hx .i64 (500*Hx .i64 (Hy fr (12:Int))))))] [Aw (rk x2 [])]/\∃x3,Gv 27 [Bx (Dd .i64 (Hx .i64 (30000-Hx .i64 (500*Hx .i64 (Hy fr (12:Int))))))] [Aw (rk x3 [])]/\∃es i,Gv 28 [Aw (rk x (rk x1 (rk x2 (rk x3 []))))] [Aw [F0 es],Bx (Dd .i64 i)]/\(Xc 1/\lens 4 [[Hu [111,117,116,108,105,110,101],Dd .i64 4,Dd .i64 6000,F0 es]])/\Q [Aw [Dd .i64 6000,F0 [[Hu [111,117,116,108,105,110,101],Dd .i64 4,Dd .i64 6000,F0 es]]]]) (Q [Aw [Dd .i64 6000,F0 []]])))):=by kernel_rfl
end Eng
end
section
namespace Eng
open Go Go.Proofs Go.RowKit
@[go_sem high] theorem run_max4 {P:Program} (w:World) (ts:Array TypeId) (t:TypeId) (a b c d:Int):
 (Builtin.max_ ts t #[.int .i64 a,.int .i64 b,.int .i64 c,.int .i64 d]).run P w= .ok (.int .i64 (max (max (max a b) c) d)) w:=by
  have e:∀x y:Int,(if y>x then y else x)=max x y:=λx y=>by rw[Int.max_def];split<;>split<;>omega
  simp[Builtin.max_,Builtin.max2,e]
theorem BO (w:World) (o o':Go.Obj):Below w.heap.size w ((w.alloc o).alloc o'):=by
 refine((Below.refl _ _).alloc (Nat.le_refl _) o).alloc ?_ o';show w.heap.size<=(w.heap.push o).size;simp
variable [Env]
theorem EU {C:Cx} (hP:C.P=Tryz.prog) {x1 y1 x2 y2:Int} (h1:0<=x1/\x1<=1000) (h2:0<=y1/\y1<=1000) (h3:0<=x2/\x2<=1000) (h4:0<=y2/\y2<=1000):
 Gives C 59 [.ag [.int .i64 x1,.int .i64 y1],.ag [.int .i64 x2,.int .i64 y2]] [.c (.int .i64 (max (max (max (x1-x2) (x2-x1)) (y1-y2)) (y2-y1)))]:=by
 intro w F vs hb hi ha
 match vs,ha with
 |[u,v],⟨⟨⟨a⟩,h1',ha⟩,⟨⟨b⟩,h2',hb'⟩,_⟩=>
  subst h1' h2'
  match a,b,ha,hb' with
  |[p1,q1],[p2,q2],⟨c1,c2,_⟩,⟨c3,c4,_⟩=>
  cases c1;cases c2;cases c3;cases c4;rw[hP]
  go_enter Tryz.func59,Tryz.ntmps59
  go_wp2
  go_ret
  exact⟨BO _ _ _,_,rfl,.int _ _⟩
theorem bq {C:Cx} (hP:C.P=Tryz.prog) {x1 y1 x2 y2:Int} (h1:0<=x1/\x1<=1000) (h2:0<=y1/\y1<=1000) (h3:0<=x2/\x2<=1000) (h4:0<=y2/\y2<=1000):
 Gives C 60 [.ag [.int .i64 x1,.int .i64 y1],.ag [.int .i64 x2,.int .i64 y2]] [.c (.int .i64 (max (max (max (x1-x2) (x2-x1)) (y1-y2)) (y2-y1)))]:=by
 intro w F vs hb hi ha
 match vs,ha with
 |[u,v],⟨⟨⟨a⟩,h1',ha⟩,⟨⟨b⟩,h2',hb'⟩,_⟩=>
  subst h1' h2'
  match a,b,ha,hb' with
  |[p1,q1],[p2,q2],⟨c1,c2,_⟩,⟨c3,c4,_⟩=>
  cases c1;cases c2;cases c3;cases c4;rw[hP]
  go_enter Tryz.func60,Tryz.ntmps60
  go_wp2
  go_ret
  exact⟨BO _ _ _,_,rfl,.int _ _⟩
def smI (x:Int):Bool:=decide (0<=x)&&decide (x<=1000)
def eT (al:List A):Option (List A):=
 match al with
 |[.ag [.int .i64 x1,.int .i64 y1],.ag [.int .i64 x2,.int .i64 y2]]=>match smI x1&&smI y1&&(smI x2&&smI y2)with
  |true=>some [.c (.int .i64 (max (max (max (x1-x2) (x2-x1)) (y1-y2)) (y2-y1)))]
  |false=>none
 |_=>none
def iA (f:Nat) (al:List A):Option (List A):=
 match Nat.beq f 59 with
 |true=>eT al
 |false=>match Nat.beq f 60 with
  |true=>eT al
  |false=>U2 f al
theorem NV {C:Cx} {f:Nat} {al rs:List A} (hd:∀{x1 y1 x2 y2:Int},0<=x1/\x1<=1000->0<=y1/\y1<=1000->0<=x2/\x2<=1000->0<=y2/\y2<=1000->
 Gives C f [.ag [.int .i64 x1,.int .i64 y1],.ag [.int .i64 x2,.int .i64 y2]] [.c (.int .i64 (max (max (max (x1-x2) (x2-x1)) (y1-y2)) (y2-y1)))]) (h:eT al=some rs):Gives C f al rs:=by
 unfold eT at h;split at h
 .split at h
  .rename_i hs;simp only[Bool.and_eq_true,smI,decide_eq_true_eq]at hs;simp only[Option.some.injEq]at h;subst h;exact hd hs.1.1 hs.1.2 hs.2.1 hs.2.2
  .simp at h
 .simp at h
theorem Sg {ex:List (Nat×k9)} (f:Nat) (al rs:List A) (h:iA f al=some rs):Gives (CX ex) f al rs:=by
 unfold iA at h;split at h
 .rename_i hf;obtain rfl:=Nat.eq_of_beq_eq_true hf;exact NV (EU rfl) h
 .split at h
  .rename_i hf;obtain rfl:=Nat.eq_of_beq_eq_true hf;exact NV (bq rfl) h
  .exact PW f al rs h
end Eng
end
section
namespace Eng
open Go Go.MapKept Go.WideElems Go.Maps
theorem V3:∀{l:List (Int×List UInt8)} {n:Int} {s:List UInt8},OP l n=some s->(n,s)∈l
 |(k,s0)::r,n,s,h=>by
  unfold OP at h;split at h
  .rename_i hk;obtain rfl:k=n:=by simpa using hk
   obtain rfl:=Option.some.inj h;simp
  .exact List.mem_cons_of_mem _ (V3 h)
theorem HB:∀{l:List (Int×List UInt8)} {n:Int} {s:List UInt8},(l.map (·.1)).Nodup->(n,s)∈l->OP l n=some s
 |(k,s0)::r,n,s,hn,h=>by
  unfold OP;rw[I3,List.nodup_cons]at hn;rcases I1.1 h with h|h
  .obtain⟨rfl,rfl⟩:=Prod.mk.inj h;simp
  .have hk:k≠n:=λe=>hn.1 (by subst e;exact I0.2 ⟨_,h,rfl⟩)
   simp only[hk,decide_false];exact HB hn.2 h
def litL {H:Type} (l:List (Int×List UInt8)):List (Lit×DataW H):=l.map λx=>(.int .i64 x.1,.lit (.string x.2))
theorem US {H:Type} {enc:TypeId×Value->H} {P:Program} {w:World} {base:Nat} {sp:Nat->Bool} {held:Bool} {t k e:TypeId} (ht:P.underlying t=some (.map k e)) (hk:P.underlying k=some (.int .i64)) (he:P.underlying e=some .string)
 {fuel:Nat} {cs:List Value} {p:List MemPlace} {l:List (Int×List UInt8)} (hn:(l.map (·.1)).Nodup) (h:DataW.trod enc P w base sp held fuel t cs=some (.map (litL l),p)):
 ∃b es clock,cs=[.map (some b)]/\w.heap[b]? =some (.map es clock)/\Cq es l:=by
 rcases open_map ht h with⟨_,h2⟩|⟨b,es,clock,n,rfl,hcs,hb,_,F,hx⟩
 .cases h2
 .refine⟨b,es,clock,hcs,hb,λm=>?_⟩;have hL:=DataW.map.inj (Prod.mk.inj hx).1;have a4:∀y,y∈es.toList.map (rg P k (elemAt enc P w base sp held n e))↔y∈litL l:=λy=>by rw[hL];exact mem_sorted.symm
  have a1:∀x∈es.toList,∃z,x.key= .int .i64 z:=λx hx=>by obtain⟨y,hy⟩:=F.reads x hx;obtain⟨z,hz,_⟩:=Maps.keyOf_int_inv hk (rd_key hy);exact⟨z,hz⟩
  have a0:∀x∈es.toList,∀z s,rg P k (elemAt enc P w base sp held n e) x=(.int .i64 z,.lit (.string s))->x.key= .int .i64 z/\x.val= .string ⟨⟨s⟩⟩:=λx hx z s hr=>by
   obtain⟨y,hy⟩:=F.reads x hx;rw[rg_of hy]at hr;subst hr;obtain⟨z',hz,e1,_⟩:=Maps.keyOf_int_inv hk (rd_key hy);obtain⟨v,hv,e2⟩:=rd_val hy;obtain⟨s',hs,rfl,_⟩:=WideElems.elemAt_string he hv;cases e1;refine⟨hz,?_⟩;rw[hs];have e3:s=s'.data.toList:=by simpa using e2
   subst e3;rfl
  rcases findNow_spec (d:= .int .i64) (k:= .int .i64 m) (by simp[IsKey]) es.toList 0 (λx hx=>by obtain⟨z,hz⟩:=a1 x hx;rw[hz];simp[IsKey])with⟨h1,h2⟩|⟨j,e',h1,h2,h3⟩
  .cases hm:OP l m with
   |none=>exact h1
   |some s=>exfalso;obtain⟨x,a3,hx2⟩:=I0.1 ((a4 (.int .i64 m,.lit (.string s))).2 (I0.2 ⟨_,V3 hm,rfl⟩));exact h2 x a3 (a0 x a3 m s hx2).1
  .have a2:=List.mem_of_getElem? h2;obtain⟨⟨z,s⟩,hz,hzs⟩:=I0.1 ((a4 _).1 (I0.2 ⟨e',a2,rfl⟩));obtain⟨k1,v1⟩:=a0 e' a2 z s hzs.symm;rw[h3]at k1;obtain rfl:m=z:=by simpa using k1
   rw[HB hn hz];refine⟨0+j,?_⟩;rw[h1,v1]
end Eng
end
