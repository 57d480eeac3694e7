import Derived.Test.YtmfkgpfkpnmdnaaGreatDoorPrcB
import Derived.Test.YtmfkgpfkpnmdnaaGreatDoorBstB
import Derived.Test.YtmfkgpfkpnmdnaaGreatDoorBstC
import Derived.Test.YtmfkgpfkpnmdnaaGreatDoorBstD
import Derived.Test.YtmfkgpfkpnmdnaaGreatDoorBstE
import Derived.Test.YtmfkgpfkpnmdnaaGreatDoorCtF
open Bool renaming and_eq_true->Aw
open Int renaming natCast_mul->Bx
open List renaming not_mem_nil->Dd, mem_cons->F0
open Nat renaming mul_le_mul_left->Gv, mul_le_mul->Hu, le_trans->Hv, eq_of_beq_eq_true->Hx, le_refl->Hy, lt_of_le_of_lt->I0
open Option.some renaming inj->I1, injEq->I2
open Prod.mk renaming injEq->I3
open Rat renaming floor_intCast->J3, intCast_neg->J4, intCast_mul->Lm
set_option maxRecDepth 1000000
section
namespace Eng
open Go Go.Proofs
section
variable [Env]
def NP (L:List OR):Prop:=L.length<=100/\∃needs:List (Int×Int),Gives CC 10 [.c (.sl (jx L))] [.c (.sl (prD needs))]/\∀nums:List Int,nums.length=L.length->PrcOk L.length needs ((L.getD (L.length-1) ⟨0,0,0,[]⟩).k==5) nums
theorem prc0 {cut:Bool} {nums:List Int} (hc:cut=true->∀o∈([[]]:List (List Int)),o.length=0/\o.getD (0-1) 0=((0-1:Nat):Int)) (h:nums.length=0):PrcOk 0 [] cut nums:=by
 refine J6 (first:=[]) (ords:=[[]]) (by omega) ord0 (λo ho=>?_) (λcls h=>?_) hc h
 .simp only[F0,Dd,or_false]at ho;rcases ho with rfl
  .exact Iv
 .have e:rgs 0 0=[[]]:=by decide
  rw[e]at h;simp only[F0,Dd,or_false]at h;rcases h with rfl
  .exact c6
theorem dN {cut:Bool} {nums:List Int} (hc:cut=true->∀o∈([[0]]:List (List Int)),o.length=1/\o.getD (1-1) 0=((1-1:Nat):Int)) (h:nums.length=1):PrcOk 1 [] cut nums:=by
 refine J6 (first:=[0]) (ords:=[[0]]) (by omega) ord1 (λo ho=>?_) (λcls h=>?_) hc h
 .simp only[F0,Dd,or_false]at ho;rcases ho with rfl
  .exact Iw
 .have e:rgs 1 0=[[0]]:=by decide
  rw[e]at h;simp only[F0,Dd,or_false]at h;rcases h with rfl
  .exact EQ
theorem dO {cut:Bool} {nums:List Int} (hc:cut=true->∀o∈([[0,1]]:List (List Int)),o.length=2/\o.getD (2-1) 0=((2-1:Nat):Int)) (h:nums.length=2):PrcOk 2 [(0,1)] cut nums:=by
 refine J6 (first:=[0,1]) (ords:=[[0,1]]) (by omega) ord2 (λo ho=>?_) (λcls h=>?_) hc h
 .simp only[F0,Dd,or_false]at ho;rcases ho with rfl
  .exact Ix
 .have e:rgs 2 0=[[0,0],[0,1]]:=by decide
  rw[e]at h;simp only[F0,Dd,or_false]at h;rcases h with rfl|rfl
  .exact SF
  .exact SG
theorem prc3 {cut:Bool} {nums:List Int} (hc:cut=true->∀o∈([[0,1,2],[0,2,1],[2,0,1]]:List (List Int)),o.length=3/\o.getD (3-1) 0=((3-1:Nat):Int)) (h:nums.length=3):PrcOk 3 [(0,1)] cut nums:=by
 refine J6 (first:=[0,1,2]) (ords:=[[0,1,2],[0,2,1],[2,0,1]]) (by omega) ord3 (λo ho=>?_) (λcls h=>?_) hc h
 .simp only[F0,Dd,or_false]at ho;rcases ho with rfl|rfl|rfl
  .exact Iy
  .exact Iz
  .exact I4
 .have e:rgs 3 0=[[0,0,0],[0,0,1],[0,1,0],[0,1,1],[0,1,2]]:=by decide
  rw[e]at h;simp only[F0,Dd,or_false]at h;rcases h with rfl|rfl|rfl|rfl|rfl
  .exact ND
  .exact NE
  .exact NF
  .exact NG
  .exact NH
theorem prc4 {cut:Bool} {nums:List Int} (hc:cut=true->∀o∈([[0,1,2]]:List (List Int)),o.length=3/\o.getD (3-1) 0=((3-1:Nat):Int)) (h:nums.length=3):PrcOk 3 [(0,1),(0,2),(1,2)] cut nums:=by
 refine J6 (first:=[0,1,2]) (ords:=[[0,1,2]]) (by omega) ord4 (λo ho=>?_) (λcls h=>?_) hc h
 .simp only[F0,Dd,or_false]at ho;rcases ho with rfl
  .exact I5
 .have e:rgs 3 0=[[0,0,0],[0,0,1],[0,1,0],[0,1,1],[0,1,2]]:=by decide
  rw[e]at h;simp only[F0,Dd,or_false]at h;rcases h with rfl|rfl|rfl|rfl|rfl
  .exact NI
  .exact NJ
  .exact NK
  .exact NL
  .exact NM
theorem prc5 {cut:Bool} {nums:List Int} (hc:cut=true->∀o∈([[0,1,2,3],[0,2,1,3],[2,0,1,3]]:List (List Int)),o.length=4/\o.getD (4-1) 0=((4-1:Nat):Int)) (h:nums.length=4):PrcOk 4 [(0,1),(0,3),(1,3),(2,3)] cut nums:=by
 refine J6 (first:=[0,1,2,3]) (ords:=[[0,1,2,3],[0,2,1,3],[2,0,1,3]]) (by omega) ord5 (λo ho=>?_) (λcls h=>?_) hc h
 .simp only[F0,Dd,or_false]at ho;rcases ho with rfl|rfl|rfl
  .exact I6
  .exact I7
  .exact I8
 .have e:rgs 4 0=[[0,0,0,0],[0,0,0,1],[0,0,1,0],[0,0,1,1],[0,0,1,2],[0,1,0,0],[0,1,0,1],[0,1,0,2],[0,1,1,0],[0,1,1,1],[0,1,1,2],[0,1,2,0],[0,1,2,1],[0,1,2,2],[0,1,2,3]]:=by decide
  rw[e]at h;simp only[F0,Dd,or_false]at h;rcases h with rfl|rfl|rfl|rfl|rfl|rfl|rfl|rfl|rfl|rfl|rfl|rfl|rfl|rfl|rfl
  .exact U1
  .exact U2
  .exact U4
  .exact U5
  .exact U6
  .exact U7
  .exact U8
  .exact U9
  .exact UA
  .exact UB
  .exact UC
  .exact UD
  .exact UE
  .exact UF
  .exact UG
theorem np_0:NP []:=⟨by simp,_,nd_0,λnums h=>prc0 (λq=>by cases q) h⟩
theorem np_P (t0:Int) (e0:List Int) (t1:Int) (e1:List Int):NP [⟨1,0,t0,e0⟩,⟨2,0,t1,e1⟩]:=⟨by simp,_,nd_P t0 e0 t1 e1,λnums h=>dO (λq=>by cases q) h⟩
theorem dP (t0:Int) (e0:List Int):NP [⟨1,0,t0,e0⟩]:=⟨by simp,_,eo t0 e0,λnums h=>dN (λq=>by cases q) h⟩
theorem dQ (t0:Int) (e0:List Int):NP [⟨3,0,t0,e0⟩]:=⟨by simp,_,er t0 e0,λnums h=>dN (λq=>by cases q) h⟩
theorem np_O (t0:Int) (e0:List Int):NP [⟨5,0,t0,e0⟩]:=⟨by simp,_,nd_O t0 e0,λnums h=>dN (λ_ o ho=>by simp only[F0,Dd,or_false]at ho;rcases ho with rfl<;>exact⟨rfl,rfl⟩) h⟩
theorem AP (t0:Int) (e0:List Int) (t1:Int) (e1:List Int) (t2:Int) (e2:List Int):NP [⟨1,0,t0,e0⟩,⟨2,0,t1,e1⟩,⟨1,1,t2,e2⟩]:=⟨by simp,_,I9 t0 e0 t1 e1 t2 e2,λnums h=>prc3 (λq=>by cases q) h⟩
theorem AQ (t0:Int) (e0:List Int) (t1:Int) (e1:List Int) (t2:Int) (e2:List Int):NP [⟨1,0,t0,e0⟩,⟨2,0,t1,e1⟩,⟨3,1,t2,e2⟩]:=⟨by simp,_,IA t0 e0 t1 e1 t2 e2,λnums h=>prc3 (λq=>by cases q) h⟩
theorem dR (t0:Int) (e0:List Int) (t1:Int) (e1:List Int) (t2:Int) (e2:List Int):NP [⟨1,0,t0,e0⟩,⟨2,0,t1,e1⟩,⟨5,1,t2,e2⟩]:=⟨by simp,_,ew t0 e0 t1 e1 t2 e2,λnums h=>prc4 (λ_ o ho=>by simp only[F0,Dd,or_false]at ho;rcases ho with rfl<;>exact⟨rfl,rfl⟩) h⟩
theorem AR (t0:Int) (e0:List Int) (t1:Int) (e1:List Int):NP [⟨1,0,t0,e0⟩,⟨5,1,t1,e1⟩]:=⟨by simp,_,IB t0 e0 t1 e1,λnums h=>dO (λ_ o ho=>by simp only[F0,Dd,or_false]at ho;rcases ho with rfl<;>exact⟨rfl,rfl⟩) h⟩
theorem AS (t0:Int) (e0:List Int) (t1:Int) (e1:List Int):NP [⟨3,0,t0,e0⟩,⟨5,1,t1,e1⟩]:=⟨by simp,_,IC t0 e0 t1 e1,λnums h=>dO (λ_ o ho=>by simp only[F0,Dd,or_false]at ho;rcases ho with rfl<;>exact⟨rfl,rfl⟩) h⟩
theorem D0 (t0:Int) (e0:List Int) (t1:Int) (e1:List Int) (t2:Int) (e2:List Int) (t3:Int) (e3:List Int):NP [⟨1,0,t0,e0⟩,⟨2,0,t1,e1⟩,⟨1,1,t2,e2⟩,⟨5,2,t3,e3⟩]:=⟨by simp,_,DH t0 e0 t1 e1 t2 e2 t3 e3,λnums h=>prc5 (λ_ o ho=>by simp only[F0,Dd,or_false]at ho;rcases ho with rfl|rfl|rfl<;>exact⟨rfl,rfl⟩) h⟩
theorem D1 (t0:Int) (e0:List Int) (t1:Int) (e1:List Int) (t2:Int) (e2:List Int) (t3:Int) (e3:List Int):NP [⟨1,0,t0,e0⟩,⟨2,0,t1,e1⟩,⟨3,1,t2,e2⟩,⟨5,2,t3,e3⟩]:=⟨by simp,_,DI t0 e0 t1 e1 t2 e2 t3 e3,λnums h=>prc5 (λ_ o ho=>by simp only[F0,Dd,or_false]at ho;rcases ho with rfl|rfl|rfl<;>exact⟨rfl,rfl⟩) h⟩
end
end Eng
end
section
namespace Eng
open Go Go.Proofs Go.RowKit
section
variable [Env]
omit [Env] in
theorem AT {ts:List TL} {i:Nat} {g:GF} (h:g.k=1):wi ts i g=[⟨1,i,(chA ts g).1,[]⟩,⟨2,i,(chA ts g).2,[]⟩]:=by
 unfold wi;rw[h];rfl
omit [Env] in
theorem AU {ts:List TL} {i:Nat} {g:GF} (h:g.k=4):wi ts i g=[⟨5,i,(chA ts g).1,[]⟩]:=by
 unfold wi;rw[h];rfl
omit [Env] in
theorem AV {ts:List TL} {i:Nat} {g:GF} (h:g.k=3):wi ts i g=[⟨1,i,(chA ts g).1,[]⟩]\/wi ts i g=[⟨3,i,(chA ts g).1,[]⟩]:=by
 unfold wi;rw[h];unfold khI;cases(ts.getD (chA ts g).1.toNat dTL).k==2
 .exact .inl rfl
 .exact .inr rfl
theorem AW {ts:List TL} {P H O:GF} (hP:P.k=1) (hH:H.k=3) (hO:O.k=4) (b1 b2 b3:Bool) (F:OR->OR) (hF:∀k i t,∃e,F ⟨k,i,t,[]⟩=⟨k,i,t,e⟩):NP ((K3 ts (gsS b1 b2 b3 P H O) 0).map F):=by
 have hp:=λi=>AT (ts:=ts) (i:=i) hP
 have ho:=λi=>AU (ts:=ts) (i:=i) hO
 have hh:=λi=>AV (ts:=ts) (i:=i) hH
 cases b1<;>cases b2<;>cases b3
 .exact np_0
 .show NP ((wi ts 0 O++[]).map F);rw[ho];obtain⟨e0,q0⟩:=hF 5 0 (chA ts O).1;show NP [F ⟨5,0,_,[]⟩];rw[q0];exact np_O _ _
 .show NP ((wi ts 0 H++[]).map F);rcases hh 0 with h|h<;>rw[h]
  .obtain⟨e0,q0⟩:=hF 1 0 (chA ts H).1;show NP [F ⟨1,0,_,[]⟩];rw[q0];exact dP _ _
  .obtain⟨e0,q0⟩:=hF 3 0 (chA ts H).1;show NP [F ⟨3,0,_,[]⟩];rw[q0];exact dQ _ _
 .show NP ((wi ts 0 H++(wi ts 1 O++[])).map F);rw[ho];obtain⟨e1,q1⟩:=hF 5 1 (chA ts O).1;rcases hh 0 with h|h<;>rw[h]
  .obtain⟨e0,q0⟩:=hF 1 0 (chA ts H).1;show NP [F ⟨1,0,_,[]⟩,F ⟨5,1,_,[]⟩];rw[q0,q1];exact AR _ _ _ _
  .obtain⟨e0,q0⟩:=hF 3 0 (chA ts H).1;show NP [F ⟨3,0,_,[]⟩,F ⟨5,1,_,[]⟩];rw[q0,q1];exact AS _ _ _ _
 .show NP ((wi ts 0 P++[]).map F);rw[hp];obtain⟨e0,q0⟩:=hF 1 0 (chA ts P).1;obtain⟨e1,q1⟩:=hF 2 0 (chA ts P).2;show NP [F ⟨1,0,_,[]⟩,F ⟨2,0,_,[]⟩];rw[q0,q1];exact np_P _ _ _ _
 .show NP ((wi ts 0 P++(wi ts 1 O++[])).map F);rw[hp,ho];obtain⟨e0,q0⟩:=hF 1 0 (chA ts P).1;obtain⟨e1,q1⟩:=hF 2 0 (chA ts P).2;obtain⟨e2,q2⟩:=hF 5 1 (chA ts O).1;show NP [F ⟨1,0,_,[]⟩,F ⟨2,0,_,[]⟩,F ⟨5,1,_,[]⟩];rw[q0,q1,q2];exact dR _ _ _ _ _ _
 .show NP ((wi ts 0 P++(wi ts 1 H++[])).map F);rw[hp];obtain⟨e0,q0⟩:=hF 1 0 (chA ts P).1;obtain⟨e1,q1⟩:=hF 2 0 (chA ts P).2;rcases hh 1 with h|h<;>rw[h]
  .obtain⟨e2,q2⟩:=hF 1 1 (chA ts H).1;show NP [F ⟨1,0,_,[]⟩,F ⟨2,0,_,[]⟩,F ⟨1,1,_,[]⟩];rw[q0,q1,q2];exact AP _ _ _ _ _ _
  .obtain⟨e2,q2⟩:=hF 3 1 (chA ts H).1;show NP [F ⟨1,0,_,[]⟩,F ⟨2,0,_,[]⟩,F ⟨3,1,_,[]⟩];rw[q0,q1,q2];exact AQ _ _ _ _ _ _
 .show NP ((wi ts 0 P++(wi ts 1 H++(wi ts 2 O++[]))).map F);rw[hp,ho];obtain⟨e0,q0⟩:=hF 1 0 (chA ts P).1;obtain⟨e1,q1⟩:=hF 2 0 (chA ts P).2;obtain⟨e3,q3⟩:=hF 5 2 (chA ts O).1;rcases hh 1 with h|h<;>rw[h]
  .obtain⟨e2,q2⟩:=hF 1 1 (chA ts H).1;show NP [F ⟨1,0,_,[]⟩,F ⟨2,0,_,[]⟩,F ⟨1,1,_,[]⟩,F ⟨5,2,_,[]⟩];rw[q0,q1,q2,q3];exact D0 _ _ _ _ _ _ _ _
  .obtain⟨e2,q2⟩:=hF 3 1 (chA ts H).1;show NP [F ⟨1,0,_,[]⟩,F ⟨2,0,_,[]⟩,F ⟨3,1,_,[]⟩,F ⟨5,2,_,[]⟩];rw[q0,q1,q2,q3];exact D1 _ _ _ _ _ _ _ _
omit [Env] in
theorem AX (gs:List GF) (ts:List TL) (k i t:Int):∃e,Ut gs ts ⟨k,i,t,[]⟩=⟨k,i,t,e⟩:=⟨_,rfl⟩
theorem D2 {gs:List GF} {ts:List TL} {cs:List CLp} (h:PlOk gs ts cs) (hs:∀t∈ts,Ps t.s) (hg:G3 gs ts) (hn:NP ((K3 ts gs 0).map (Ut gs ts))):∃(L:List OR) (needs:List (Int×Int)) (nums:List Int),L.length<=100/\Gives (CN []) 9 [.ag [.int .i64 6000,.sl (J0 (gsF gs))],.c (.sl (mgD ts)),.c (.sl (prR (gs.map (chA ts))))] [.c (.sl (jx L)),.c (.int .i64 0)]/\
 Gives CC 10 [.c (.sl (jx L))] [.c (.sl (prD needs))]/\Gives CC 11 [.c (.sl (jx L)),.c (.sl (mgD ts))] [.c (.sl (iR nums)),.c (.int .i64 0)]/\PrcOk L.length needs ((L.getD (L.length-1) ⟨0,0,0,[]⟩).k==5) nums:=by
 have a0:=Ym hg gs.length (Hy _);rw[List.take_length]at a0;have hin:∀o∈(K3 ts gs 0).map (Ut gs ts),0<=o.t/\o.t<ts.length:=λo ho=>by obtain⟨o',ho',rfl⟩:=List.mem_map.1 ho;obtain⟨t,ht,e⟩:=(a0 o' ho').t;show 0<=o'.t/\o'.t<_;rw[e];omega
 obtain⟨n1,needs,n2,n3⟩:=hn;have gt:=P4 (by omega) hin;refine⟨_,needs,_,n1,?_,n2,gt,n3 _ (by simp[nms])⟩
 match gs,h,hg with
 |[],h,_=>exact P8 h
 |g::r,h,hg=>
  refine Cw h hs hg λe=>?_
  have:wi ts 0 g≠[]:=by
   unfold wi;cases g.k==1
   .cases g.k==4<;>simp
   .simp
  simp only[K3,List.append_eq_nil_iff]at e;exact this e.1
end
end Eng
end
section
namespace Eng
open Go Go.Proofs Rl
theorem Yx {n:Int} (h:n.natAbs<=1000000000):frF (n:Rat)=⟨65536*n,65536*n,true⟩:=by
 have e:(n:Rat)*65536=((65536*n:Int):Rat):=by rw[Lm];grind
 have e2: -((65536*n:Int):Rat)=((-(65536*n):Int):Rat):=by rw[J4]
 have i1:Vt (65536*n)=(65536*n,true):=if_pos (by omega);unfold frF;rw[e,e2,J3,J3,Int.neg_neg,i1];unfold prF;rw[decide_eq_false (by omega),decide_eq_false (by omega)];rfl
theorem Xi {a c:Int} (_:a.natAbs<=1000000000) (_:c.natAbs<=1000000000):GP ⟨65536*a,65536*a,true⟩ ⟨65536*c,65536*c,true⟩ 2 GQ=(65536*min a c,65536*max a c):=by
 simp only[GP,GQ,MM,MN];refine Prod.ext ?_ ?_<;>simp only<;>omega
section
variable [Env]
theorem Ri (a0 a1 a2 a3 b0 b1 b2 b3:Int) (r:Bool) (h:r=true↔a1<b0\/b1<a0\/a3<b2\/b3<a2):Gives CC 327 [.ag [.int .i64 a0,.int .i64 a1,.int .i64 a2,.int .i64 a3,.bool true],.ag [.int .i64 b0,.int .i64 b1,.int .i64 b2,.int .i64 b3,.bool true]] [.c (.bool r)]:=by
 have hv:=MJ (Gives CC) a0 a1 a2 a3 true b0 b1 b2 b3 true (· =[.c (.bool r)]);refine wpG Tryz.func327 ?_;rw[hv];refine Qd (λ_=>Qd (λ_=>brb (λk=>?_) (λk=>brb (λk2=>?_) (λk2=>brb (λk3=>?_) (λk3=>?_)))) (λe=>by cases e)) (λe=>by cases e)
 .rw[h.2 (.inl (of_decide_eq_true k))]
 .rw[h.2 (.inr (.inl (of_decide_eq_true k2)))]
 .rw[h.2 (.inr (.inr (.inl (of_decide_eq_true k3))))]
 .have k:=of_decide_eq_false k;have k2:=of_decide_eq_false k2;have k3:=of_decide_eq_false k3;have:r=decide (b3<a2):=by rw[Bool.eq_iff_iff,h,decide_eq_true_eq];exact⟨λg=>by rcases g with g|g|g|g;exact absurd g k;exact absurd g k2;exact absurd g k3;exact g,λg=> .inr (.inr (.inr g))⟩
  rw[this]
theorem AY {m:Nat} (hm:m<=1000000):Gives CC 410 [.c (.int .i64 (65536*((m:Int)*m)))] [.c (.int .i64 (65536*m)),.c (.bool true)]:=by
 have hmm:m*m<=1000000*1000000:=Hu hm hm;have e0:(65536*((m:Int)*m))=((65536*(m*m):Nat):Int):=by rw[Bx,Bx];rfl
 have e1:((65536*(m*m):Nat):Int)*65536=((65536*m*(65536*m):Nat):Int):=by
  have:65536*(m*m)*65536=65536*m*(65536*m):=by grind
  rw[<-this,Bx];rfl
 have sm:∀{x:Nat},x<=1000000000^4->Sm (x:Int):=λh=>zM (I0 h (by decide))
 have b1:65536*(m*m)<=1000000000^4:=Hv (Gv _ hmm) (by decide);have b2:65536*m*(65536*m)<=1000000000^4:=Hv (Hu (Gv _ hm) (Gv _ hm)) (by decide);have b3:65536*m<=1000000000^4:=Hv (Gv _ hm) (by decide);have s1:=sm b1;have s2:=sm b2;have s3:=sm b3;have s0:Sm 65536:=sm (x:=65536) (by decide);have g1:=Eng.up (xq (n:=((65536*(m*m):Nat):Int)) (by omega) (by omega));have g2:=Eng.up (xq (n:=65536) (by omega) (by omega));have g3:=Eng.up (jd s1 s0);rw[e1]at g3;have g4:=Sw (a:=65536*m*(65536*m)) (I0 b2 (Nat.pow_lt_pow_right (by omega) (by omega)));rw[KB]at g4;have g5:=EF s3;have i1:Vt ((65536*m:Nat):Int)=(((65536*m:Nat):Int),true):=if_pos (by omega);rw[i1]at g5;have g6:=Eng.up (jd s3 s3);rw[<-Bx]at g6;have g7:=Eng.up (jK s2 s2);rw[show kd ((65536*m*(65536*m):Nat):Int) ((65536*m*(65536*m):Nat):Int)=0 by unfold kd;rw[if_neg (by omega),if_neg (by omega)]]at g7;have e5:(65536*(m:Int))=((65536*m:Nat):Int):=by rw[Bx];rfl
 rw[e0,e5];simp only[qX]at g1 g2 g3 g4 g5 g6 g7;refine wpG Tryz.func410 ((MU ..).mpr ?_);exact⟨_,_,g1,_,_,g2,_,_,g3,_,_,_,g4,_,_,g5,_,_,g6,_,g7,rfl⟩
theorem AZ {m:Nat} (hm:m<=1000000):Gives CC 375 [eIv (65536*((m:Int)*m)) (65536*((m:Int)*m))] [eIv (65536*m) (65536*m),eOk true]:=by
 have h:=AY hm;have hp:=GR (65536*m) (65536*m);have hmm:(m:Int)*m<=1000000*1000000:=Int.mul_le_mul (by omega) (by omega) (by omega) (by omega);have h0:0<=(m:Int)*m:=Int.mul_nonneg (by omega) (by omega);have e:prF (65536*(m:Int)) (65536*m)=⟨65536*m,65536*m,true⟩:=by unfold prF;rw[decide_eq_false (by omega),decide_eq_false (by omega)];rfl
 rw[e]at hp;refine wpG Tryz.func375 ((PT ..).mpr ?_);refine brd (λq=>by omega) λ_=>?_
 rw[decide_eq_false (by omega)];exact⟨_,_,h,_,_,h,brb (λq=>by cases q) λ_=>⟨_,_,_,hp,rfl⟩⟩
theorem frZ {n:Int} (h:n.natAbs<=1000000000):FrOk (n:Rat) ⟨65536*n,65536*n,true⟩:=by
 rw[<-Yx h];exact AI (k:=20) (Hz.int (by rw[show(10:Nat)^20=100000000000000000000 by decide];omega))
def bI (a b c d:Int):List D:=[.int .i64 (65536*a),.int .i64 (65536*b),.int .i64 (65536*c),.int .i64 (65536*d),.bool true]
theorem bndS {r0 r1 r2 r3 r4 r5:R4} {x1 y1 x2 y2:Int} (h1:x1.natAbs<=1000000000) (h2:y1.natAbs<=1000000000) (h3:x2.natAbs<=1000000000) (h4:y2.natAbs<=1000000000):
 Gives CC 326 [.ag (.bool false::rk r0 (rk r1 (rk r2 (rk r3 (rk r4 (rk r5 (.bool false::pk ⟨q4 (x1:Rat),q4 0,q4 (y1:Rat),q4 0,q4 0⟩ (pk ⟨q4 (x2:Rat),q4 0,q4 (y2:Rat),q4 0,q4 0⟩ []))))))))] [.ag (bI (min x1 x2) (max x1 x2) (min y1 y2) (max y1 y2))]:=by
 have g:=AG (r0:=r0) (r1:=r1) (r2:=r2) (r3:=r3) (r4:=r4) (r5:=r5) (frZ h1) (frZ h2) (frZ h3) (frZ h4);unfold Dj at g;simp only[Bool.and_self,Xi h1 h3,Xi h2 h4]at g;exact g
theorem bndA {r0 r1 r2 r3:R4} {cw:Bool} {cy x1 y1 x2 y2:Int} {m:Nat} (hc:cy.natAbs<=1000000000) (hm:m<=30000) (h1:x1.natAbs<=1000000000) (h2:y1.natAbs<=1000000000) (h3:x2.natAbs<=1000000000) (h4:y2.natAbs<=1000000000):
 Gives CC 326 [.ag (.bool true::rk r0 (rk r1 (rk r2 (rk r3 (rk (q4 (cy:Rat)) (rk (q4 (((m:Int)*m:Int):Rat)) (.bool cw::pk ⟨q4 (x1:Rat),q4 0,q4 (y1:Rat),q4 0,q4 0⟩ (pk ⟨q4 (x2:Rat),q4 0,q4 (y2:Rat),q4 0,q4 0⟩ []))))))))]
  [.ag (match cw with
   |true=>bI (min x1 x2) (max x1 x2) (min y1 y2) (max (max y1 y2) (cy+m))
   |false=>bI (min x1 x2) (max x1 x2) (min (min y1 y2) (cy-m)) (max y1 y2))]:=by
 have hmm:m*m<=30000*30000:=Hu hm hm;have eq:((m:Int)*m).natAbs=m*m:=by rw[<-Bx,Int.natAbs_natCast]
 have hq:((m:Int)*m).natAbs<=1000000000:=by omega
 have f1:=frZ h1;have f2:=frZ h2;have f3:=frZ h3;have f4:=frZ h4;have hz:∀{n:Int},n.natAbs<=1000000000->Hz 20 (n:Rat):=λh=>Hz.int (by rw[show(10:Nat)^20=100000000000000000000 by decide];omega)
 have g1:=Z3 (hz hc);have g2:=Z3 (hz hq);rw[Yx hc]at g1;rw[Yx hq]at g2;have g3:=AZ (m:=m) (by omega);refine xP (C:=CSp) rfl rfl ?_;refine qm (C:=CSp) (anns:=λ_=>⟨[.slot 22 (.int .i64 0),.box 3 [(.int .i64 0),(.int .i64 0),(.int .i64 0),(.int .i64 0),(.bool false)]],[],
  λ_ ds=>∃n:Nat,n<=2/\ds=[.int .i64 (n:Int),.int .i64 (GP ⟨65536*x1,65536*x1,true⟩ ⟨65536*x2,65536*x2,true⟩ n GQ).1,.int .i64 (GP ⟨65536*x1,65536*x1,true⟩ ⟨65536*x2,65536*x2,true⟩ n GQ).2,
   .int .i64 (GP ⟨65536*y1,65536*y1,true⟩ ⟨65536*y2,65536*y2,true⟩ n GQ).1,.int .i64 (GP ⟨65536*y1,65536*y1,true⟩ ⟨65536*y2,65536*y2,true⟩ n GQ).2,.bool true],
  λds=>(2-toI (nth .undef ds 0)).toNat⟩) mixedT Tryz.func326 ?_
 rw[Dk];have a0:∀{f:Nat} {al rs:List A},Gives CC f al rs->Gives CSp f al rs:=λh=>xP (C:=CC) (C':=CSp) rfl rfl h
 refine⟨⟨0,by omega,rfl⟩,?_⟩;rintro i a b c d k ⟨n,hn,he⟩;simp only[List.cons.injEq,D.int.injEq,D.bool.injEq,and_true,true_and]at he;obtain⟨rfl,rfl,rfl,rfl,rfl,rfl⟩:=he;refine brd (λh=>?_) (λh=>?_)
 .refine⟨⟨by omega,h⟩,?_⟩;rcases(by omega:n=0\/n=1)with rfl|rfl
  .exact⟨_,⟨rfl,Hy 20⟩,_,_,_,a0 (pXQ (x1:Rat) (y1:Rat)),_,_,_,a0 f1.g,_,_,_,a0 (pYQ (x1:Rat) (y1:Rat)),_,_,_,a0 f2.g,brb (λh=>by simp at h) λ_=>brb (λh=>by simp at h) λ_=>⟨rfl,⟨1,by omega,rfl⟩,show(1:Nat)<2 by omega⟩⟩
  .exact⟨_,⟨rfl,Hy 20⟩,_,_,_,a0 (pXQ (x2:Rat) (y2:Rat)),_,_,_,a0 f3.g,_,_,_,a0 (pYQ (x2:Rat) (y2:Rat)),_,_,_,a0 f4.g,brb (λh=>by simp at h) λ_=>brb (λh=>by simp at h) λ_=>⟨rfl,⟨2,by omega,rfl⟩,show(0:Nat)<1 by omega⟩⟩
 .obtain rfl:n=2:=by omega
  rw[Xi h1 h3,Xi h2 h4];refine⟨_,_,_,a0 g1,_,_,_,a0 g2,brb (λh=>by simp at h) λ_=>brb (λh=>by simp at h) λ_=>⟨_,_,_,a0 g3,brb (λh=>by simp at h) λ_=>?_⟩⟩;simp only;rw[xb (n:=65536*cy+65536*(m:Int)) (by omega) (by omega),xb (n:=65536*cy-65536*(m:Int)) (by omega) (by omega)];cases cw with
  |true=>
   refine Qd (λ_=>?_) λh=>by cases h
   unfold bI;have:mxI (65536*max y1 y2) (65536*cy+65536*(m:Int))=65536*max (max y1 y2) (cy+m):=by rw[MN];omega
   show [A.ag [_,_,_,.int .i64 (mxI (65536*max y1 y2) (65536*cy+65536*(m:Int))),_]]=_;rw[this]
  |false=>
   refine Qd (λh=>by cases h) λ_=>?_
   unfold bI;have:mnI (65536*cy-65536*(m:Int)) (65536*min y1 y2)=65536*min (min y1 y2) (cy-m):=by rw[MM];omega
   show [A.ag [_,_,.int .i64 (mnI (65536*cy-65536*(m:Int)) (65536*min y1 y2)),_,_]]=_;rw[this]
end
end Eng
end
section
namespace Eng
open Go Go.Proofs Rl
structure WhB (ρ:Nat->Rat):Prop where
 wh:∀p∈whL,∃n:Int,evP ρ p=(n:Rat)/\n.natAbs<=500000000
 r6:∃m:Nat,m<=30000/\evP ρ (lt 6)=((m:Int):Rat)
def bdF (ρ:Nat->Rat) (p:Pol) (_:Nat):Int:=65536*(evP ρ p).floor
abbrev jP (ρ:Nat->Rat):Env:=envP ρ (bdF ρ)
section
variable {ρ:Nat->Rat}
theorem WhB.wo (h:WhB ρ):CZ ρ:=λp hp=>by
 obtain⟨n,e,_⟩:=h.wh p hp;exact⟨n,e⟩
theorem WhB.of (hw:WhB ρ) {p:Pol} (h:jo p=true):∃n:Int,evP ρ p=(n:Rat)/\n.natAbs<=500000000:=by
 unfold jo at h;split at h
 .rename_i e;exact hw.wh _ (Z1 e)
 .obtain⟨n,e,b⟩:=hw.wh _ (Z1 h);rw[yi]at e;exact⟨-n,by rw[J4];grind,by rw[Int.natAbs_neg];exact b⟩
theorem Rj {p:Pol} {n:Int} (e:evP ρ p=(n:Rat)) (i:Nat):bdF ρ p i=65536*n:=by unfold bdF;rw[e,J3]
theorem Z5 {lx hx ly hy:Pol} {a b c d:Int} (h1:evP ρ lx=(a:Rat)) (h2:evP ρ hx=(b:Rat)) (h3:evP ρ ly=(c:Rat)) (h4:evP ρ hy=(d:Rat)):(ET lx hx ly hy).map (evD (jP ρ))=bI a b c d:=by
 show [D.int .i64 (bdF ρ lx 4),.int .i64 (bdF ρ hx 4),.int .i64 (bdF ρ ly 4),.int .i64 (bdF ρ hy 4),.bool true]=_;rw[Rj h1,Rj h2,Rj h3,Rj h4];rfl
theorem GT (a b:Int):sr ((b:Rat)-(a:Rat))=kd b a:=(MZ b a).symm
variable (hb:∀p s,sg0 p=some s->sr (evP ρ p)=s)
include hb
theorem Qx {p q l h:Pol} (ho:R8 p q=some (l,h)) {a b:Int} (ea:evP ρ p=(a:Rat)) (eb:evP ρ q=(b:Rat)):evP ρ l=((min a b:Int):Rat)/\evP ρ h=((max a b:Int):Rat):=by
 unfold R8 at ho;split at ho
 .rename_i n hs;simp only[I2,I3]at ho;obtain⟨rfl,rfl⟩:=ho;have:=hb _ _ hs;rw[zL,ea,eb,GT]at this;have h1:kd b a=(n:Int):=this;unfold kd at h1;have:a<=b:=by
   by_cases q:b<a
   .rw[if_pos q]at h1;omega
   .omega
  rw[ea,eb,Int.min_eq_left this,Int.max_eq_right this];exact⟨rfl,rfl⟩
 .rename_i n hs;simp only[I2,I3]at ho;obtain⟨rfl,rfl⟩:=ho;have:=hb _ _ hs;rw[zL,ea,eb,GT]at this;unfold kd at this;have:b<=a:=by
   by_cases q:b<a
   .omega
   .rw[if_neg q]at this;by_cases q2:b>a
    .rw[if_pos q2]at this;cases this
    .omega
  rw[ea,eb,Int.min_eq_right this,Int.max_eq_left this];exact⟨rfl,rfl⟩
 .cases ho
theorem GU {p q:Pol} {r:Bool} (h:ltT p q=some r) {a b:Int} (ea:evP ρ p=(a:Rat)) (eb:evP ρ q=(b:Rat)):r=decide (a<b):=by
 unfold ltT at h;split at h
 .rename_i n hs;obtain rfl:=I1 h;have:=hb _ _ hs;rw[zL,ea,eb,GT]at this;unfold kd at this;by_cases q:b<a
  .rw[if_pos q]at this;cases this
  .rw[if_neg q]at this;by_cases q2:b>a
   .exact(decide_eq_true (by omega)).symm
   .rw[if_neg q2]at this;cases this
 .rename_i s hn hs;obtain rfl:=I1 h;have:=hb _ _ hs;rw[zL,ea,eb,GT]at this;refine(decide_eq_false λq=>?_).symm;unfold kd at this;rw[if_neg (by omega),if_pos (by omega)]at this;exact hn 0 this.symm
 .cases h
omit hb in
theorem Nk {P:Nat->Bool}:∀{l:List (Option Bool)} {r:Bool} (_:orT l=some r) (_:∀i x,l[i]? =some (some x)->x=P i),(r=true->∃i,i<l.length/\P i=true)/\(r=false->∀i,i<l.length->P i=false)
 |[],r,h,_=>by obtain rfl:=I1 h;exact⟨λh=>(by cases h),λ_ i hi=>by simp at hi⟩
 |some true::l,r,h,hl=>by obtain rfl:=I1 h;exact⟨λ_=>⟨0,by simp,(hl 0 true rfl).symm⟩,λh=>(by cases h)⟩
 |some false::l,r,h,hl=>by
  obtain⟨i1,i2⟩:=Nk (P:=λi=>P (i+1)) (l:=l) (r:=r) h λi x hi=>hl (i+1) x (by simpa using hi)
  refine⟨λe=>?_,λe i hi=>?_⟩
  .obtain⟨i,a,b⟩:=i1 e;exact⟨i+1,by simpa using a,b⟩
  .cases i with
   |zero=>exact(hl 0 false rfl).symm
   |succ i=>exact i2 e i (by simpa using hi)
 |none::l,r,h,hl=>by
  simp only[orT]at h;split at h
  .rename_i e;obtain rfl:=I1 h;obtain⟨i1,_⟩:=Nk (P:=λi=>P (i+1)) (l:=l) e λi x hi=>hl (i+1) x (by simpa using hi)
   obtain⟨i,a,b⟩:=i1 rfl;exact⟨λ_=>⟨i+1,by simpa using a,b⟩,λh=>(by cases h)⟩
  .cases h
omit hb in
theorem evS {a b c fx fy tx ty:Pol}:(cvS a b c fx fy tx ty).map (evD (jP ρ))= .bool false::rk (q4 (evP ρ a)) (rk (q4 (evP ρ b)) (rk (q4 (evP ρ c)) (rk ⟨false,[],false,[]⟩ (rk ⟨false,[],false,[]⟩ (rk ⟨false,[],false,[]⟩ (.bool false::pk ⟨q4 (evP ρ fx),q4 0,q4 (evP ρ fy),q4 0,q4 0⟩ (pk ⟨q4 (evP ρ tx),q4 0,q4 (evP ρ ty),q4 0,q4 0⟩ []))))))):=rfl
omit hb in
theorem evAc {z:Bool} {x y q:Pol} {cw:Bool} {fx fy tx ty:Pol}:∃r0 r1 r2:R4,(cvA z x y q cw fx fy tx ty).map (evD (jP ρ))= .bool true::rk r0 (rk r1 (rk r2 (rk (q4 (evP ρ x)) (rk (q4 (evP ρ y)) (rk (q4 (evP ρ q)) (.bool cw::pk ⟨q4 (evP ρ fx),q4 0,q4 (evP ρ fy),q4 0,q4 0⟩ (pk ⟨q4 (evP ρ tx),q4 0,q4 (evP ρ ty),q4 0,q4 0⟩ []))))))):=by
 cases z with
 |true=>exact⟨q4 0,q4 0,q4 0,rfl⟩
 |false=>exact⟨⟨false,[],false,[]⟩,⟨false,[],false,[]⟩,⟨false,[],false,[]⟩,rfl⟩
omit hb in
theorem Nl {l:List D} {fx fy tx ty:Pol} (h:az l=some (fx,fy,tx,ty)):jo fx=true/\jo fy=true/\jo tx=true/\jo ty=true:=by
 unfold az at h;split at h
 .split at h
  .rename_i e;simp only[Aw]at e;simp only[I2,I3]at h;obtain⟨rfl,rfl,rfl,rfl⟩:=h;exact e
  .cases h
 .cases h
omit hb in
theorem dS {E:Env} {w:World} {F:Nat->Prop} {x:List D} {vs:List Value} (h:All2 (@CA E w F) [.ag x] vs):All2 (@CA E w F) [.ag (x.map (evD E))] vs:=by
 match vs,h with
 |[v],h=>exact⟨KE.1 h.1,trivial⟩
omit hb in
theorem dT {E:Env} {w:World} {F:Nat->Prop} {x y:List D} {vs:List Value} (h:All2 (@CA E w F) [.ag x,.ag y] vs):All2 (@CA E w F) [.ag (x.map (evD E)),.ag (y.map (evD E))] vs:=by
 match vs,h with
 |[u,v],h=>exact⟨KE.1 h.1,KE.1 h.2.1,trivial⟩
omit hb in
theorem D3 {x r:List D} {y s:List D} (hx:x.map (evD (jP ρ))=y) (hr:r.map (evD (jP ρ))=s) (g: @Gives (jP ρ) CC 326 [.ag y] [.ag s]): @Gives (jP ρ) CC 326 [.ag x] [.ag r]:=by
 letI:Env:=jP ρ
 subst hx;subst hr;refine Gives.conv ?_ ?_ g
 .intro _ _ _ q;exact dS q
 .intro w F v q;exact KE.2 q
theorem D4 (hw:WhB ρ) {x r:List D} (h:c8 x=some r): @Gives (jP ρ) CC 326 [.ag x] [.ag r]:=by
 letI:Env:=jP ρ
 unfold c8 at h;split at h
 .rename_i hl hp;split at h
  .rename_i he h1 h2;obtain rfl:=I1 h;obtain rfl:=zP (Zq 20) he;obtain⟨w1,w2,w3,w4⟩:=Nl hp;obtain⟨x1,e1,b1⟩:=hw.of w1;obtain⟨y1,e2,b2⟩:=hw.of w2;obtain⟨x2,e3,b3⟩:=hw.of w3;obtain⟨y2,e4,b4⟩:=hw.of w4;obtain⟨o1,o2⟩:=Qx hb h1 e1 e3;obtain⟨o3,o4⟩:=Qx hb h2 e2 e4;refine D3 evS (Z5 o1 o2 o3 o4) ?_;rw[e1,e2,e3,e4];exact bndS (by omega) (by omega) (by omega) (by omega)
  .cases h
 .cases h
theorem Nm (hw:WhB ρ) {z:Bool} {x r:List D} (h:a8 z x=some r): @Gives (jP ρ) CC 326 [.ag x] [.ag r]:=by
 letI:Env:=jP ρ
 unfold a8 at h;split at h
 .rename_i hl hp;split at h
  .rename_i hq h1 h2;split at h
   .rename_i hc;simp only[Aw]at hc;obtain⟨c1,c2,c3,c4⟩:=hc;obtain rfl:=wX c1;obtain⟨m,hm,em⟩:=hw.r6;obtain⟨eq,_⟩:=GK hb hq;rw[em,<-Lm]at eq;obtain⟨cy,ec,bc⟩:=hw.of c2;obtain⟨w1,w2,w3,w4⟩:=Nl hp;obtain⟨x1,e1,b1⟩:=hw.of w1;obtain⟨y1,e2,b2⟩:=hw.of w2;obtain⟨x2,e3,b3⟩:=hw.of w3;obtain⟨y2,e4,b4⟩:=hw.of w4;obtain⟨o1,o2⟩:=Qx hb h1 e1 e3;obtain⟨o3,o4⟩:=Qx hb h2 e2 e4;have ep:∀{y:Pol},evP ρ y=(cy:Rat)->evP ρ (kA y (lt 6))=((cy+m:Int):Rat):=λec=>by rw[xT,ec,em,<-Rat.intCast_add]
    have en:∀{y:Pol},evP ρ y=(cy:Rat)->evP ρ (kA y (Qf (lt 6)))=((cy-m:Int):Rat):=λec=>by rw[zL,ec,em,<-Rat.intCast_sub]
    split at h
    .rename_i he h3;obtain rfl:=I1 h;obtain rfl:=zP (Zq 20) he;obtain⟨_,o5⟩:=Qx hb h3 o4 (ep ec);obtain⟨r0,r1,r2,ev⟩:=evAc (ρ:=ρ);refine D3 ev (Z5 o1 o2 o3 o5) ?_;rw[e1,e2,e3,e4,ec,eq];exact bndA (cw:=true) (by omega) hm (by omega) (by omega) (by omega) (by omega)
    .split at h
     .rename_i he h3;obtain rfl:=I1 h;obtain rfl:=zP (Zq 20) he;obtain⟨o5,_⟩:=Qx hb h3 o3 (en ec);obtain⟨r0,r1,r2,ev⟩:=evAc (ρ:=ρ);refine D3 ev (Z5 o1 o2 o5 o4) ?_;rw[e1,e2,e3,e4,ec,eq];exact bndA (cw:=false) (by omega) hm (by omega) (by omega) (by omega) (by omega)
     .cases h
   .cases h
  .cases h
 .cases h
omit hb in
theorem Nn {x:List D} {a b c d:Pol} (h:a9 x=some (a,b,c,d)):x=ET a b c d/\jo a=true/\jo b=true/\jo c=true/\jo d=true:=by
 unfold a9 at h;split at h
 .split at h
  .rename_i e;simp only[Aw]at e;simp only[I2,I3]at h;obtain⟨rfl,rfl,rfl,rfl⟩:=h;exact⟨rfl,e⟩
  .cases h
 .cases h
theorem Ia (hw:WhB ρ) {x y:List D} {r:Bool} (h:apT x y=some r): @Gives (jP ρ) CC 327 [.ag x,.ag y] [.c (.bool r)]:=by
 letI:Env:=jP ρ
 unfold apT at h;split at h
 .rename_i hx hy;obtain⟨rfl,w1,w2,w3,w4⟩:=Nn hx;obtain⟨rfl,v1,v2,v3,v4⟩:=Nn hy;obtain⟨a0,e0,_⟩:=hw.of w1;obtain⟨a1,e1,_⟩:=hw.of w2;obtain⟨a2,e2,_⟩:=hw.of w3;obtain⟨a3,e3,_⟩:=hw.of w4;obtain⟨b0,f0,_⟩:=hw.of v1;obtain⟨b1,f1,_⟩:=hw.of v2;obtain⟨b2,f2,_⟩:=hw.of v3;obtain⟨b3,f3,_⟩:=hw.of v4;obtain⟨k1,k2⟩:=Nk (P:=λi=>match i with
   |0=>decide (a1<b0)
   |1=>decide (b1<a0)
   |2=>decide (a3<b2)
   |_=>decide (b3<a2)) h (λi x hi=>by
    match i,hi with
    |0,hi=>exact GU hb (I1 hi) e1 f0
    |1,hi=>exact GU hb (I1 hi) f1 e0
    |2,hi=>exact GU hb (I1 hi) e3 f2
    |3,hi=>exact GU hb (I1 hi) f3 e2
    |n+4,hi=>simp at hi)
  have l1:r=true->65536*a1<65536*b0\/65536*b1<65536*a0\/65536*a3<65536*b2\/65536*b3<65536*a2:=by
   intro e;obtain⟨i,hi,q⟩:=k1 e
   match i,hi,q with
   |0,_,q=>have q:a1<b0:=of_decide_eq_true q;omega
   |1,_,q=>have q:b1<a0:=of_decide_eq_true q;omega
   |2,_,q=>have q:a3<b2:=of_decide_eq_true q;omega
   |3,_,q=>have q:b3<a2:=of_decide_eq_true q;omega
   |n+4,hi,_=>simp at hi;omega
  have l2:65536*a1<65536*b0\/65536*b1<65536*a0\/65536*a3<65536*b2\/65536*b3<65536*a2->r=true:=by
   intro q;cases r with
   |true=>rfl
   |false=>have:=k2 rfl;have q0:¬a1<b0:=of_decide_eq_false (this 0 (by simp));have q1:¬b1<a0:=of_decide_eq_false (this 1 (by simp));have q2:¬a3<b2:=of_decide_eq_false (this 2 (by simp));have q3:¬b3<a2:=of_decide_eq_false (this 3 (by simp));omega
  have g:=Ri (65536*a0) (65536*a1) (65536*a2) (65536*a3) (65536*b0) (65536*b1) (65536*b2) (65536*b3) r ⟨l1,l2⟩;refine g.conv (λ_ _ _ q=>?_) (λ_ _ _ q=>q);have:=dT q;rw[Z5 e0 e1 e2 e3,Z5 f0 f1 f2 f3]at this;exact this
 .cases h
theorem D5 (hw:WhB ρ) (f:Nat) (al rs:List A) (ht:c9 f al=some rs): @Gives (jP ρ) CC f al rs:=by
 unfold c9 at ht;split at ht
 .split at ht
  .rename_i e;obtain rfl:=Hx e;split at ht
   .rename_i h;obtain rfl:=I1 ht;exact D4 hb hw h
   .split at ht
    .rename_i h;obtain rfl:=I1 ht;exact Nm hb hw h
    .split at ht
     .rename_i h;obtain rfl:=I1 ht;exact Nm hb hw h
     .cases ht
  .cases ht
 .split at ht
  .rename_i e;obtain rfl:=Hx e;split at ht
   .rename_i h;obtain rfl:=I1 ht;exact Ia hb hw h
   .cases ht
  .cases ht
 .cases ht
theorem bdOk (hw:WhB ρ) (ht: @xr (jP ρ)) (hL: @KP (jP ρ) CC Tk.tabL): @BdOk (jP ρ):=by
 letI:Env:=jP ρ
 refine⟨λf al rs hh=>?_⟩;unfold zt at hh;split at hh
 .rename_i e;obtain rfl:=I1 hh;exact D5 hb hw f al _ e
 .exact K8 (C:=CC) (ents:=Tk.tabL) hL (λf al rs k=>ht.ok f al rs k) f al rs hh
end
end Eng
end
