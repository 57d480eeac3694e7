import Derived.Test.YthpplhmhgcenkaaGreatDoorCtF
open Bool renaming and_eq_true->Aw
open Int renaming natCast_mul->Bx
open Nat renaming mul_le_mul_left->Dd, mul_le_mul->F0, le_trans->Gv, eq_of_beq_eq_true->Hu, lt_of_le_of_lt->Hv, le_refl->Hx
open Option.some renaming inj->Hy, injEq->I0
open Prod.mk renaming injEq->I1
open Rat renaming floor_intCast->I2, intCast_neg->I3, intCast_mul->J3
set_option maxRecDepth 1000000
section
namespace Eng
open Go Go.Proofs Rl
theorem YO {n:Int} (h:n.natAbs<=1000000000):frF (n:Rat)=⟨65536*n,65536*n,true⟩:=by
 have e:(n:Rat)*65536=((65536*n:Int):Rat):=by rw[J3];grind
 have e2: -((65536*n:Int):Rat)=((-(65536*n):Int):Rat):=by rw[I3]
 have i1:V8 (65536*n)=(65536*n,true):=if_pos (by omega);unfold frF;rw[e,e2,I2,I2,Int.neg_neg,i1];unfold prF;rw[decide_eq_false (by omega),decide_eq_false (by omega)];rfl
theorem Xy {a c:Int} (_:a.natAbs<=1000000000) (_:c.natAbs<=1000000000):GU ⟨65536*a,65536*a,true⟩ ⟨65536*c,65536*c,true⟩ 2 GV=(65536*min a c,65536*max a c):=by
 simp only[GU,GV,Mm,Mn];refine Prod.ext ?_ ?_<;>simp only<;>omega
section
variable [Env]
theorem Sh (a0 a1 a2 a3 b0 b1 b2 b3:Int) (r:Bool) (h:r=true↔a1<b0\/b1<a0\/a3<b2\/b3<a2):Gives CC 379 [.ag [.int .i64 a0,.int .i64 a1,.int .i64 a2,.int .i64 a3,.bool true],.ag [.int .i64 b0,.int .i64 b1,.int .i64 b2,.int .i64 b3,.bool true]] [.c (.bool r)]:=by
 have hv:=Mj (Gives CC) a0 a1 a2 a3 true b0 b1 b2 b3 true (· =[.c (.bool r)]);refine wpG Tryz.func379 ?_;rw[hv];refine js (λ_=>js (λ_=>brb (λk=>?_) (λk=>brb (λk2=>?_) (λk2=>brb (λk3=>?_) (λk3=>?_)))) (λe=>by cases e)) (λe=>by cases e)
 .rw[h.2 (.inl (of_decide_eq_true k))]
 .rw[h.2 (.inr (.inl (of_decide_eq_true k2)))]
 .rw[h.2 (.inr (.inr (.inl (of_decide_eq_true k3))))]
 .have k:=of_decide_eq_false k;have k2:=of_decide_eq_false k2;have k3:=of_decide_eq_false k3;have:r=decide (b3<a2):=by rw[Bool.eq_iff_iff,h,decide_eq_true_eq];exact⟨λg=>by rcases g with g|g|g|g;exact absurd g k;exact absurd g k2;exact absurd g k3;exact g,λg=> .inr (.inr (.inr g))⟩
  rw[this]
theorem bu {m:Nat} (hm:m<=1000000):Gives CC 454 [.c (.int .i64 (65536*((m:Int)*m)))] [.c (.int .i64 (65536*m)),.c (.bool true)]:=by
 have hmm:m*m<=1000000*1000000:=F0 hm hm;have e0:(65536*((m:Int)*m))=((65536*(m*m):Nat):Int):=by rw[Bx,Bx];rfl
 have e1:((65536*(m*m):Nat):Int)*65536=((65536*m*(65536*m):Nat):Int):=by
  have:65536*(m*m)*65536=65536*m*(65536*m):=by grind
  rw[<-this,Bx];rfl
 have sm:∀{x:Nat},x<=1000000000^4->Sm (x:Int):=λh=>zO (Hv h (by decide))
 have b1:65536*(m*m)<=1000000000^4:=Gv (Dd _ hmm) (by decide);have b2:65536*m*(65536*m)<=1000000000^4:=Gv (F0 (Dd _ hm) (Dd _ hm)) (by decide);have b3:65536*m<=1000000000^4:=Gv (Dd _ hm) (by decide);have s1:=sm b1;have s2:=sm b2;have s3:=sm b3;have s0:Sm 65536:=sm (x:=65536) (by decide);have g1:=Eng.up (xu (n:=((65536*(m*m):Nat):Int)) (by omega) (by omega));have g2:=Eng.up (xu (n:=65536) (by omega) (by omega));have g3:=Eng.up (je s1 s0);rw[e1]at g3;have g4:=B5 (a:=65536*m*(65536*m)) (Hv b2 (Nat.pow_lt_pow_right (by omega) (by omega)));rw[KQ]at g4;have g5:=Az s3;have i1:V8 ((65536*m:Nat):Int)=(((65536*m:Nat):Int),true):=if_pos (by omega);rw[i1]at g5;have g6:=Eng.up (je s3 s3);rw[<-Bx]at g6;have g7:=Eng.up (jP s2 s2);rw[show kh ((65536*m*(65536*m):Nat):Int) ((65536*m*(65536*m):Nat):Int)=0 by unfold kh;rw[if_neg (by omega),if_neg (by omega)]]at g7;have e5:(65536*(m:Int))=((65536*m:Nat):Int):=by rw[Bx];rfl
 rw[e0,e5];simp only[qI]at g1 g2 g3 g4 g5 g6 g7;refine wpG Tryz.func454 ((Mw ..).mpr ?_);exact⟨_,_,g1,_,_,g2,_,_,g3,_,_,_,g4,_,_,g5,_,_,g6,_,g7,rfl⟩
theorem bz {m:Nat} (hm:m<=1000000):Gives CC 420 [eIv (65536*((m:Int)*m)) (65536*((m:Int)*m))] [eIv (65536*m) (65536*m),eOk true]:=by
 have h:=bu hm;have hp:=GW (65536*m) (65536*m);have hmm:(m:Int)*m<=1000000*1000000:=Int.mul_le_mul (by omega) (by omega) (by omega) (by omega);have h0:0<=(m:Int)*m:=Int.mul_nonneg (by omega) (by omega);have e:prF (65536*(m:Int)) (65536*m)=⟨65536*m,65536*m,true⟩:=by unfold prF;rw[decide_eq_false (by omega),decide_eq_false (by omega)];rfl
 rw[e]at hp;refine wpG Tryz.func420 ((Rq ..).mpr ?_);refine brd (λq=>by omega) λ_=>?_
 rw[decide_eq_false (by omega)];exact⟨_,_,h,_,_,h,brb (λq=>by cases q) λ_=>⟨_,_,_,hp,rfl⟩⟩
theorem frZ {n:Int} (h:n.natAbs<=1000000000):FrOk (n:Rat) ⟨65536*n,65536*n,true⟩:=by
 rw[<-YO h];exact aj (k:=20) (Hz.int (by rw[show(10:Nat)^20=100000000000000000000 by decide];omega))
def bI (a b c d:Int):List D:=[.int .i64 (65536*a),.int .i64 (65536*b),.int .i64 (65536*c),.int .i64 (65536*d),.bool true]
theorem bndS {r0 r1 r2 r3 r4 r5:R4} {x1 y1 x2 y2:Int} (h1:x1.natAbs<=1000000000) (h2:y1.natAbs<=1000000000) (h3:x2.natAbs<=1000000000) (h4:y2.natAbs<=1000000000):
 Gives CC 378 [.ag (.bool false::rk r0 (rk r1 (rk r2 (rk r3 (rk r4 (rk r5 (.bool false::pk ⟨q4 (x1:Rat),q4 0,q4 (y1:Rat),q4 0,q4 0⟩ (pk ⟨q4 (x2:Rat),q4 0,q4 (y2:Rat),q4 0,q4 0⟩ []))))))))] [.ag (bI (min x1 x2) (max x1 x2) (min y1 y2) (max y1 y2))]:=by
 have g:=ah (r0:=r0) (r1:=r1) (r2:=r2) (r3:=r3) (r4:=r4) (r5:=r5) (frZ h1) (frZ h2) (frZ h3) (frZ h4);unfold DO at g;simp only[Bool.and_self,Xy h1 h3,Xy h2 h4]at g;exact g
theorem bndA {r0 r1 r2 r3:R4} {cw:Bool} {cy x1 y1 x2 y2:Int} {m:Nat} (hc:cy.natAbs<=1000000000) (hm:m<=30000) (h1:x1.natAbs<=1000000000) (h2:y1.natAbs<=1000000000) (h3:x2.natAbs<=1000000000) (h4:y2.natAbs<=1000000000):
 Gives CC 378 [.ag (.bool true::rk r0 (rk r1 (rk r2 (rk r3 (rk (q4 (cy:Rat)) (rk (q4 (((m:Int)*m:Int):Rat)) (.bool cw::pk ⟨q4 (x1:Rat),q4 0,q4 (y1:Rat),q4 0,q4 0⟩ (pk ⟨q4 (x2:Rat),q4 0,q4 (y2:Rat),q4 0,q4 0⟩ []))))))))]
  [.ag (match cw with
   |true=>bI (min x1 x2) (max x1 x2) (min y1 y2) (max (max y1 y2) (cy+m))
   |false=>bI (min x1 x2) (max x1 x2) (min (min y1 y2) (cy-m)) (max y1 y2))]:=by
 have hmm:m*m<=30000*30000:=F0 hm hm;have eq:((m:Int)*m).natAbs=m*m:=by rw[<-Bx,Int.natAbs_natCast]
 have hq:((m:Int)*m).natAbs<=1000000000:=by omega
 have f1:=frZ h1;have f2:=frZ h2;have f3:=frZ h3;have f4:=frZ h4;have hz:∀{n:Int},n.natAbs<=1000000000->Hz 20 (n:Rat):=λh=>Hz.int (by rw[show(10:Nat)^20=100000000000000000000 by decide];omega)
 have g1:=Z7 (hz hc);have g2:=Z7 (hz hq);rw[YO hc]at g1;rw[YO hq]at g2;have g3:=bz (m:=m) (by omega);refine qL (C:=CSp) rfl rfl ?_;refine qj (C:=CSp) (anns:=λ_=>⟨[.slot 22 (.int .i64 0),.box 3 [(.int .i64 0),(.int .i64 0),(.int .i64 0),(.int .i64 0),(.bool false)]],[],
  λ_ ds=>∃n:Nat,n<=2/\ds=[.int .i64 (n:Int),.int .i64 (GU ⟨65536*x1,65536*x1,true⟩ ⟨65536*x2,65536*x2,true⟩ n GV).1,.int .i64 (GU ⟨65536*x1,65536*x1,true⟩ ⟨65536*x2,65536*x2,true⟩ n GV).2,
   .int .i64 (GU ⟨65536*y1,65536*y1,true⟩ ⟨65536*y2,65536*y2,true⟩ n GV).1,.int .i64 (GU ⟨65536*y1,65536*y1,true⟩ ⟨65536*y2,65536*y2,true⟩ n GV).2,.bool true],
  λds=>(2-toI (nth .undef ds 0)).toNat⟩) mixedT Tryz.func378 ?_
 rw[DY];have a0:∀{f:Nat} {al rs:List A},Gives CC f al rs->Gives CSp f al rs:=λh=>qL (C:=CC) (C':=CSp) rfl rfl h
 refine⟨⟨0,by omega,rfl⟩,?_⟩;rintro i a b c d k ⟨n,hn,he⟩;simp only[List.cons.injEq,D.int.injEq,D.bool.injEq,and_true,true_and]at he;obtain⟨rfl,rfl,rfl,rfl,rfl,rfl⟩:=he;refine brd (λh=>?_) (λh=>?_)
 .refine⟨⟨by omega,h⟩,?_⟩;rcases(by omega:n=0\/n=1)with rfl|rfl
  .exact⟨_,⟨rfl,Hx 20⟩,_,_,_,a0 (pXQ (x1:Rat) (y1:Rat)),_,_,_,a0 f1.g,_,_,_,a0 (pYQ (x1:Rat) (y1:Rat)),_,_,_,a0 f2.g,brb (λh=>by simp at h) λ_=>brb (λh=>by simp at h) λ_=>⟨rfl,⟨1,by omega,rfl⟩,show(1:Nat)<2 by omega⟩⟩
  .exact⟨_,⟨rfl,Hx 20⟩,_,_,_,a0 (pXQ (x2:Rat) (y2:Rat)),_,_,_,a0 f3.g,_,_,_,a0 (pYQ (x2:Rat) (y2:Rat)),_,_,_,a0 f4.g,brb (λh=>by simp at h) λ_=>brb (λh=>by simp at h) λ_=>⟨rfl,⟨2,by omega,rfl⟩,show(0:Nat)<1 by omega⟩⟩
 .obtain rfl:n=2:=by omega
  rw[Xy h1 h3,Xy h2 h4];refine⟨_,_,_,a0 g1,_,_,_,a0 g2,brb (λh=>by simp at h) λ_=>brb (λh=>by simp at h) λ_=>⟨_,_,_,a0 g3,brb (λh=>by simp at h) λ_=>?_⟩⟩;simp only;rw[qR (n:=65536*cy+65536*(m:Int)) (by omega) (by omega),qR (n:=65536*cy-65536*(m:Int)) (by omega) (by omega)];cases cw with
  |true=>
   refine js (λ_=>?_) λh=>by cases h
   unfold bI;have:mxI (65536*max y1 y2) (65536*cy+65536*(m:Int))=65536*max (max y1 y2) (cy+m):=by rw[Mn];omega
   show [A.ag [_,_,_,.int .i64 (mxI (65536*max y1 y2) (65536*cy+65536*(m:Int))),_]]=_;rw[this]
  |false=>
   refine js (λh=>by cases h) λ_=>?_
   unfold bI;have:mnI (65536*cy-65536*(m:Int)) (65536*min y1 y2)=65536*min (min y1 y2) (cy-m):=by rw[Mm];omega
   show [A.ag [_,_,.int .i64 (mnI (65536*cy-65536*(m:Int)) (65536*min y1 y2)),_,_]]=_;rw[this]
end
end Eng
end
section
namespace Eng
open Go Go.Proofs Rl
structure WhB (ρ:Nat->Rat):Prop where
 wh:∀p∈whL,∃n:Int,evP ρ p=(n:Rat)/\n.natAbs<=500000000
 r6:∃m:Nat,m<=30000/\evP ρ (lt 6)=((m:Int):Rat)
def bdF (ρ:Nat->Rat) (p:Pol) (_:Nat):Int:=65536*(evP ρ p).floor
abbrev j9 (ρ:Nat->Rat):Env:=envP ρ (bdF ρ)
section
variable {ρ:Nat->Rat}
theorem WhB.wo (h:WhB ρ):DV ρ:=λp hp=>by
 obtain⟨n,e,_⟩:=h.wh p hp;exact⟨n,e⟩
theorem WhB.of (hw:WhB ρ) {p:Pol} (h:jh p=true):∃n:Int,evP ρ p=(n:Rat)/\n.natAbs<=500000000:=by
 unfold jh at h;split at h
 .rename_i e;exact hw.wh _ (Z9 e)
 .obtain⟨n,e,b⟩:=hw.wh _ (Z9 h);rw[yu]at e;exact⟨-n,by rw[I3];grind,by rw[Int.natAbs_neg];exact b⟩
theorem Si {p:Pol} {n:Int} (e:evP ρ p=(n:Rat)) (i:Nat):bdF ρ p i=65536*n:=by unfold bdF;rw[e,I2]
theorem ZJ {lx hx ly hy:Pol} {a b c d:Int} (h1:evP ρ lx=(a:Rat)) (h2:evP ρ hx=(b:Rat)) (h3:evP ρ ly=(c:Rat)) (h4:evP ρ hy=(d:Rat)):(AT lx hx ly hy).map (evD (j9 ρ))=bI a b c d:=by
 show [D.int .i64 (bdF ρ lx 4),.int .i64 (bdF ρ hx 4),.int .i64 (bdF ρ ly 4),.int .i64 (bdF ρ hy 4),.bool true]=_;rw[Si h1,Si h2,Si h3,Si h4];rfl
theorem HC (a b:Int):sr ((b:Rat)-(a:Rat))=kh b a:=(M6 b a).symm
variable (hb:∀p s,sg0 p=some s->sr (evP ρ p)=s)
include hb
theorem QI {p q l h:Pol} (ho:SQ p q=some (l,h)) {a b:Int} (ea:evP ρ p=(a:Rat)) (eb:evP ρ q=(b:Rat)):evP ρ l=((min a b:Int):Rat)/\evP ρ h=((max a b:Int):Rat):=by
 unfold SQ at ho;split at ho
 .rename_i n hs;simp only[I0,I1]at ho;obtain⟨rfl,rfl⟩:=ho;have:=hb _ _ hs;rw[zm,ea,eb,HC]at this;have h1:kh b a=(n:Int):=this;unfold kh at h1;have:a<=b:=by
   by_cases q:b<a
   .rw[if_pos q]at h1;omega
   .omega
  rw[ea,eb,Int.min_eq_left this,Int.max_eq_right this];exact⟨rfl,rfl⟩
 .rename_i n hs;simp only[I0,I1]at ho;obtain⟨rfl,rfl⟩:=ho;have:=hb _ _ hs;rw[zm,ea,eb,HC]at this;unfold kh at this;have:b<=a:=by
   by_cases q:b<a
   .omega
   .rw[if_neg q]at this;by_cases q2:b>a
    .rw[if_pos q2]at this;cases this
    .omega
  rw[ea,eb,Int.min_eq_right this,Int.max_eq_left this];exact⟨rfl,rfl⟩
 .cases ho
theorem HD {p q:Pol} {r:Bool} (h:ltT p q=some r) {a b:Int} (ea:evP ρ p=(a:Rat)) (eb:evP ρ q=(b:Rat)):r=decide (a<b):=by
 unfold ltT at h;split at h
 .rename_i n hs;obtain rfl:=Hy h;have:=hb _ _ hs;rw[zm,ea,eb,HC]at this;unfold kh at this;by_cases q:b<a
  .rw[if_pos q]at this;cases this
  .rw[if_neg q]at this;by_cases q2:b>a
   .exact(decide_eq_true (by omega)).symm
   .rw[if_neg q2]at this;cases this
 .rename_i s hn hs;obtain rfl:=Hy h;have:=hb _ _ hs;rw[zm,ea,eb,HC]at this;refine(decide_eq_false λq=>?_).symm;unfold kh at this;rw[if_neg (by omega),if_pos (by omega)]at this;exact hn 0 this.symm
 .cases h
omit hb in
theorem NW {P:Nat->Bool}:∀{l:List (Option Bool)} {r:Bool} (_:orT l=some r) (_:∀i x,l[i]? =some (some x)->x=P i),(r=true->∃i,i<l.length/\P i=true)/\(r=false->∀i,i<l.length->P i=false)
 |[],r,h,_=>by obtain rfl:=Hy h;exact⟨λh=>(by cases h),λ_ i hi=>by simp at hi⟩
 |some true::l,r,h,hl=>by obtain rfl:=Hy h;exact⟨λ_=>⟨0,by simp,(hl 0 true rfl).symm⟩,λh=>(by cases h)⟩
 |some false::l,r,h,hl=>by
  obtain⟨i1,i2⟩:=NW (P:=λi=>P (i+1)) (l:=l) (r:=r) h λi x hi=>hl (i+1) x (by simpa using hi)
  refine⟨λe=>?_,λe i hi=>?_⟩
  .obtain⟨i,a,b⟩:=i1 e;exact⟨i+1,by simpa using a,b⟩
  .cases i with
   |zero=>exact(hl 0 false rfl).symm
   |succ i=>exact i2 e i (by simpa using hi)
 |none::l,r,h,hl=>by
  simp only[orT]at h;split at h
  .rename_i e;obtain rfl:=Hy h;obtain⟨i1,_⟩:=NW (P:=λi=>P (i+1)) (l:=l) e λi x hi=>hl (i+1) x (by simpa using hi)
   obtain⟨i,a,b⟩:=i1 rfl;exact⟨λ_=>⟨i+1,by simpa using a,b⟩,λh=>(by cases h)⟩
  .cases h
omit hb in
theorem evS {a b c fx fy tx ty:Pol}:(cvS a b c fx fy tx ty).map (evD (j9 ρ))= .bool false::rk (q4 (evP ρ a)) (rk (q4 (evP ρ b)) (rk (q4 (evP ρ c)) (rk ⟨false,[],false,[]⟩ (rk ⟨false,[],false,[]⟩ (rk ⟨false,[],false,[]⟩ (.bool false::pk ⟨q4 (evP ρ fx),q4 0,q4 (evP ρ fy),q4 0,q4 0⟩ (pk ⟨q4 (evP ρ tx),q4 0,q4 (evP ρ ty),q4 0,q4 0⟩ []))))))):=rfl
omit hb in
theorem evAc {z:Bool} {x y q:Pol} {cw:Bool} {fx fy tx ty:Pol}:∃r0 r1 r2:R4,(cvA z x y q cw fx fy tx ty).map (evD (j9 ρ))= .bool true::rk r0 (rk r1 (rk r2 (rk (q4 (evP ρ x)) (rk (q4 (evP ρ y)) (rk (q4 (evP ρ q)) (.bool cw::pk ⟨q4 (evP ρ fx),q4 0,q4 (evP ρ fy),q4 0,q4 0⟩ (pk ⟨q4 (evP ρ tx),q4 0,q4 (evP ρ ty),q4 0,q4 0⟩ []))))))):=by
 cases z with
 |true=>exact⟨q4 0,q4 0,q4 0,rfl⟩
 |false=>exact⟨⟨false,[],false,[]⟩,⟨false,[],false,[]⟩,⟨false,[],false,[]⟩,rfl⟩
omit hb in
theorem NX {l:List D} {fx fy tx ty:Pol} (h:dV l=some (fx,fy,tx,ty)):jh fx=true/\jh fy=true/\jh tx=true/\jh ty=true:=by
 unfold dV at h;split at h
 .split at h
  .rename_i e;simp only[Aw]at e;simp only[I0,I1]at h;obtain⟨rfl,rfl,rfl,rfl⟩:=h;exact e
  .cases h
 .cases h
omit hb in
theorem iB {E:Env} {w:World} {F:Nat->Prop} {x:List D} {vs:List Value} (h:All2 (@CA E w F) [.ag x] vs):All2 (@CA E w F) [.ag (x.map (evD E))] vs:=by
 match vs,h with
 |[v],h=>exact⟨KU.1 h.1,trivial⟩
omit hb in
theorem iC {E:Env} {w:World} {F:Nat->Prop} {x y:List D} {vs:List Value} (h:All2 (@CA E w F) [.ag x,.ag y] vs):All2 (@CA E w F) [.ag (x.map (evD E)),.ag (y.map (evD E))] vs:=by
 match vs,h with
 |[u,v],h=>exact⟨KU.1 h.1,KU.1 h.2.1,trivial⟩
omit hb in
theorem EV {x r:List D} {y s:List D} (hx:x.map (evD (j9 ρ))=y) (hr:r.map (evD (j9 ρ))=s) (g: @Gives (j9 ρ) CC 378 [.ag y] [.ag s]): @Gives (j9 ρ) CC 378 [.ag x] [.ag r]:=by
 letI:Env:=j9 ρ
 subst hx;subst hr;refine Gives.conv ?_ ?_ g
 .intro _ _ _ q;exact iB q
 .intro w F v q;exact KU.2 q
theorem EW (hw:WhB ρ) {x r:List D} (h:gj x=some r): @Gives (j9 ρ) CC 378 [.ag x] [.ag r]:=by
 letI:Env:=j9 ρ
 unfold gj at h;split at h
 .rename_i hl hp;split at h
  .rename_i he h1 h2;obtain rfl:=Hy h;obtain rfl:=j0 (JD 20) he;obtain⟨w1,w2,w3,w4⟩:=NX hp;obtain⟨x1,e1,b1⟩:=hw.of w1;obtain⟨y1,e2,b2⟩:=hw.of w2;obtain⟨x2,e3,b3⟩:=hw.of w3;obtain⟨y2,e4,b4⟩:=hw.of w4;obtain⟨o1,o2⟩:=QI hb h1 e1 e3;obtain⟨o3,o4⟩:=QI hb h2 e2 e4;refine EV evS (ZJ o1 o2 o3 o4) ?_;rw[e1,e2,e3,e4];exact bndS (by omega) (by omega) (by omega) (by omega)
  .cases h
 .cases h
theorem NY (hw:WhB ρ) {z:Bool} {x r:List D} (h:dW z x=some r): @Gives (j9 ρ) CC 378 [.ag x] [.ag r]:=by
 letI:Env:=j9 ρ
 unfold dW at h;split at h
 .rename_i hl hp;split at h
  .rename_i hq h1 h2;split at h
   .rename_i hc;simp only[Aw]at hc;obtain⟨c1,c2,c3,c4⟩:=hc;obtain rfl:=vd c1;obtain⟨m,hm,em⟩:=hw.r6;obtain⟨eq,_⟩:=Hg hb hq;rw[em,<-J3]at eq;obtain⟨cy,ec,bc⟩:=hw.of c2;obtain⟨w1,w2,w3,w4⟩:=NX hp;obtain⟨x1,e1,b1⟩:=hw.of w1;obtain⟨y1,e2,b2⟩:=hw.of w2;obtain⟨x2,e3,b3⟩:=hw.of w3;obtain⟨y2,e4,b4⟩:=hw.of w4;obtain⟨o1,o2⟩:=QI hb h1 e1 e3;obtain⟨o3,o4⟩:=QI hb h2 e2 e4;have ep:∀{y:Pol},evP ρ y=(cy:Rat)->evP ρ (jD y (lt 6))=((cy+m:Int):Rat):=λec=>by rw[xM,ec,em,<-Rat.intCast_add]
    have en:∀{y:Pol},evP ρ y=(cy:Rat)->evP ρ (jD y (vZ (lt 6)))=((cy-m:Int):Rat):=λec=>by rw[zm,ec,em,<-Rat.intCast_sub]
    split at h
    .rename_i he h3;obtain rfl:=Hy h;obtain rfl:=j0 (JD 20) he;obtain⟨_,o5⟩:=QI hb h3 o4 (ep ec);obtain⟨r0,r1,r2,ev⟩:=evAc (ρ:=ρ);refine EV ev (ZJ o1 o2 o3 o5) ?_;rw[e1,e2,e3,e4,ec,eq];exact bndA (cw:=true) (by omega) hm (by omega) (by omega) (by omega) (by omega)
    .split at h
     .rename_i he h3;obtain rfl:=Hy h;obtain rfl:=j0 (JD 20) he;obtain⟨o5,_⟩:=QI hb h3 o3 (en ec);obtain⟨r0,r1,r2,ev⟩:=evAc (ρ:=ρ);refine EV ev (ZJ o1 o2 o5 o4) ?_;rw[e1,e2,e3,e4,ec,eq];exact bndA (cw:=false) (by omega) hm (by omega) (by omega) (by omega) (by omega)
     .cases h
   .cases h
  .cases h
 .cases h
omit hb in
theorem NZ {x:List D} {a b c d:Pol} (h:dX x=some (a,b,c,d)):x=AT a b c d/\jh a=true/\jh b=true/\jh c=true/\jh d=true:=by
 unfold dX at h;split at h
 .split at h
  .rename_i e;simp only[Aw]at e;simp only[I0,I1]at h;obtain⟨rfl,rfl,rfl,rfl⟩:=h;exact⟨rfl,e⟩
  .cases h
 .cases h
theorem bA (hw:WhB ρ) {x y:List D} {r:Bool} (h:apT x y=some r): @Gives (j9 ρ) CC 379 [.ag x,.ag y] [.c (.bool r)]:=by
 letI:Env:=j9 ρ
 unfold apT at h;split at h
 .rename_i hx hy;obtain⟨rfl,w1,w2,w3,w4⟩:=NZ hx;obtain⟨rfl,v1,v2,v3,v4⟩:=NZ hy;obtain⟨a0,e0,_⟩:=hw.of w1;obtain⟨a1,e1,_⟩:=hw.of w2;obtain⟨a2,e2,_⟩:=hw.of w3;obtain⟨a3,e3,_⟩:=hw.of w4;obtain⟨b0,f0,_⟩:=hw.of v1;obtain⟨b1,f1,_⟩:=hw.of v2;obtain⟨b2,f2,_⟩:=hw.of v3;obtain⟨b3,f3,_⟩:=hw.of v4;obtain⟨k1,k2⟩:=NW (P:=λi=>match i with
   |0=>decide (a1<b0)
   |1=>decide (b1<a0)
   |2=>decide (a3<b2)
   |_=>decide (b3<a2)) h (λi x hi=>by
    match i,hi with
    |0,hi=>exact HD hb (Hy hi) e1 f0
    |1,hi=>exact HD hb (Hy hi) f1 e0
    |2,hi=>exact HD hb (Hy hi) e3 f2
    |3,hi=>exact HD hb (Hy hi) f3 e2
    |n+4,hi=>simp at hi)
  have l1:r=true->65536*a1<65536*b0\/65536*b1<65536*a0\/65536*a3<65536*b2\/65536*b3<65536*a2:=by
   intro e;obtain⟨i,hi,q⟩:=k1 e
   match i,hi,q with
   |0,_,q=>have q:a1<b0:=of_decide_eq_true q;omega
   |1,_,q=>have q:b1<a0:=of_decide_eq_true q;omega
   |2,_,q=>have q:a3<b2:=of_decide_eq_true q;omega
   |3,_,q=>have q:b3<a2:=of_decide_eq_true q;omega
   |n+4,hi,_=>simp at hi;omega
  have l2:65536*a1<65536*b0\/65536*b1<65536*a0\/65536*a3<65536*b2\/65536*b3<65536*a2->r=true:=by
   intro q;cases r with
   |true=>rfl
   |false=>have:=k2 rfl;have q0:¬a1<b0:=of_decide_eq_false (this 0 (by simp));have q1:¬b1<a0:=of_decide_eq_false (this 1 (by simp));have q2:¬a3<b2:=of_decide_eq_false (this 2 (by simp));have q3:¬b3<a2:=of_decide_eq_false (this 3 (by simp));omega
  have g:=Sh (65536*a0) (65536*a1) (65536*a2) (65536*a3) (65536*b0) (65536*b1) (65536*b2) (65536*b3) r ⟨l1,l2⟩;refine g.conv (λ_ _ _ q=>?_) (λ_ _ _ q=>q);have:=iC q;rw[ZJ e0 e1 e2 e3,ZJ f0 f1 f2 f3]at this;exact this
 .cases h
theorem EX (hw:WhB ρ) (f:Nat) (al rs:List A) (ht:gt f al=some rs): @Gives (j9 ρ) CC f al rs:=by
 unfold gt at ht;split at ht
 .split at ht
  .rename_i e;obtain rfl:=Hu e;split at ht
   .rename_i h;obtain rfl:=Hy ht;exact EW hb hw h
   .split at ht
    .rename_i h;obtain rfl:=Hy ht;exact NY hb hw h
    .split at ht
     .rename_i h;obtain rfl:=Hy ht;exact NY hb hw h
     .cases ht
  .cases ht
 .split at ht
  .rename_i e;obtain rfl:=Hu e;split at ht
   .rename_i h;obtain rfl:=Hy ht;exact bA hb hw h
   .cases ht
  .cases ht
 .cases ht
theorem bdOk (hw:WhB ρ) (ht: @xx (j9 ρ)) (hL: @Wj (j9 ρ) CC Tk.tabL): @BdOk (j9 ρ):=by
 letI:Env:=j9 ρ
 refine⟨λf al rs hh=>?_⟩;unfold zx at hh;split at hh
 .rename_i e;obtain rfl:=Hy hh;exact EX hb hw f al _ e
 .exact KL (C:=CC) (ents:=Tk.tabL) hL (λf al rs k=>ht.ok f al rs k) f al rs hh
end
end Eng
end
