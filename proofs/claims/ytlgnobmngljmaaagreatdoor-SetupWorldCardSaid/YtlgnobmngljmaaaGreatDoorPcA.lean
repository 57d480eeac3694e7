/- The bounds' tokens: region.boundsOf and region.apart at tokens, for a rectangle with corners at integers. -/
import Derived.Test.YtlgnobmngljmaaaGreatDoorPaD
import Derived.Test.YtlgnobmngljmaaaGreatDoorCtF
import Derived.Test.YtlgnobmngljmaaaGreatDoorPbA
section
namespace Eng
open Go Go.Proofs Rl
set_option maxRecDepth 100000
theorem frF_int {n:Int} (h:n.natAbs≤1000000000):frF (n:Rat)=⟨65536*n,65536*n,true⟩:=by
 have e:(n:Rat)*65536=((65536*n:Int):Rat):=by rw[Rat.intCast_mul];grind
 have e2: -((65536*n:Int):Rat)=((-(65536*n):Int):Rat):=by rw[Rat.intCast_neg]
 have i1:i64O (65536*n)=(65536*n,true):=if_pos (by omega);unfold frF;rw[e,e2,Rat.floor_intCast,Rat.floor_intCast,Int.neg_neg,i1];unfold prF;rw[decide_eq_false (by omega),decide_eq_false (by omega)];rfl
def bxZ (x0 y0 x1 y1:Int):Nat→Nat→Int
 |0,4=>x0|0,5=>x1|0,6=>y0|0,7=>y0
 |1,4=>x1|1,5=>x1|1,6=>y0|1,7=>y1
 |2,4=>x0|2,5=>x1|2,6=>y1|2,7=>y1
 |3,4=>x0|3,5=>x0|3,6=>y0|3,7=>y1
 |_,_=>1
def bdZ (x0 y0 x1 y1:Int):Pol→Nat→Int
 |[(.ofNat k,[])],i=>65536*bxZ x0 y0 x1 y1 k i
 |_,_=>0
section
variable [Env]
theorem apart_ok (a0 a1 a2 a3 b0 b1 b2 b3:Int) (r:Bool) (h:r=true↔a1<b0∨b1<a0∨a3<b2∨b3<a2):Gives CC 250 [.ag [.int .i64 a0,.int .i64 a1,.int .i64 a2,.int .i64 a3,.bool true],.ag [.int .i64 b0,.int .i64 b1,.int .i64 b2,.int .i64 b3,.bool true]] [.c (.bool r)]:=by
 have hv:=vc_bApart (Gives CC) a0 a1 a2 a3 true b0 b1 b2 b3 true (· =[.c (.bool r)]);refine wpG Tryz.func250 ?_;rw[hv];refine brb' (fun _=>brb' (fun _=>brb (fun k=>?_) (fun k=>brb (fun k2=>?_) (fun k2=>brb (fun k3=>?_) (fun k3=>?_)))) (fun e=>by cases e)) (fun e=>by cases e)
 ·rw[h.2 (.inl (of_decide_eq_true k))]
 ·rw[h.2 (.inr (.inl (of_decide_eq_true k2)))]
 ·rw[h.2 (.inr (.inr (.inl (of_decide_eq_true k3))))]
 ·have k:=of_decide_eq_false k;have k2:=of_decide_eq_false k2;have k3:=of_decide_eq_false k3;have:r=decide (b3<a2):=by rw[Bool.eq_iff_iff,h,decide_eq_true_eq];exact⟨fun g=>by rcases g with g|g|g|g;exact absurd g k;exact absurd g k2;exact absurd g k3;exact g,fun g=> .inr (.inr (.inr g))⟩
  rw[this]
end
section
variable {ρ:Nat→Rat} {x0 y0 x1 y1:Int}
abbrev envZ (ρ:Nat→Rat) (x0 y0 x1 y1:Int):Env:=envP ρ (bdZ x0 y0 x1 y1)
structure AtZ (ρ:Nat→Rat) (x0 y0 x1 y1:Int):Prop where
 e0:evP ρ lX0=(x0:Rat)
 f0:evP ρ lY0=(y0:Rat)
 e1:evP ρ lX1=(x1:Rat)
 f1:evP ρ lY1=(y1:Rat)
 bx:x0.natAbs≤1000000000∧x1.natAbs≤1000000000
 by':y0.natAbs≤1000000000∧y1.natAbs≤1000000000
 ltx:x0<x1
 lty:y0<y1
def bdC (x0 y0 x1 y1:Int) (k:Nat):List D:=[.int .i64 (65536*bxZ x0 y0 x1 y1 k 4),.int .i64 (65536*bxZ x0 y0 x1 y1 k 5),.int .i64 (65536*bxZ x0 y0 x1 y1 k 6),.int .i64 (65536*bxZ x0 y0 x1 y1 k 7),.bool true]
theorem bdT_ev (k:Nat) (hk:k<4):(bdT k).map (evD (envZ ρ x0 y0 x1 y1))=bdC x0 y0 x1 y1 k:=by
 match k,hk with
 |0,_=>rfl
 |1,_=>rfl
 |2,_=>rfl
 |3,_=>rfl
theorem bdN_ok {x:List D}:∀{l:List (List D)} {j k:Nat},bdN x l j=some k→∃i,l[i]? =some x∧k=j+i
 |[],_,_,h=>by simp[bdN]at h
 |c::r,j,k,h=>by
  unfold bdN at h;split at h
  ·rename_i e;obtain rfl:=Option.some.inj h;exact⟨0,by rw[eqL_ok (eqD_ok 20) e];rfl,rfl⟩
  ·obtain⟨i,h1,h2⟩:=bdN_ok h;exact⟨i+1,by simpa using h1,by omega⟩
theorem bdX_ok {x:List D} {k:Nat} (h:bdX x=some k):x=bdT k:=by
 unfold bdX at h;split at h
 ·split at h
  ·split at h
   ·rename_i e;obtain rfl:=Option.some.inj h;exact eqL_ok (eqD_ok 20) e
   ·cases h
  ·cases h
 ·cases h
theorem opp_ok (hx:x0<x1) (hy:y0<y1):∀i k:Nat,i<4→k<4→(opp i k=true↔65536*bxZ x0 y0 x1 y1 i 5<65536*bxZ x0 y0 x1 y1 k 4∨65536*bxZ x0 y0 x1 y1 k 5<65536*bxZ x0 y0 x1 y1 i 4∨65536*bxZ x0 y0 x1 y1 i 7<65536*bxZ x0 y0 x1 y1 k 6∨65536*bxZ x0 y0 x1 y1 k 7<65536*bxZ x0 y0 x1 y1 i 6):=by
 intro i k hi hk;rcases(by omega:i=0∨i=1∨i=2∨i=3)with rfl|rfl|rfl|rfl<;>rcases(by omega:k=0∨k=1∨k=2∨k=3)with rfl|rfl|rfl|rfl<;>constructor<;>intro h<;>
  first
  |rfl
  |exact absurd h (by decide)
  |(simp only[bxZ]at h;omega)
  |(simp only[bxZ];omega)
theorem frZ [Env] {n:Int} (h:n.natAbs≤1000000000):FrOk (n:Rat) ⟨65536*n,65536*n,true⟩:=by
 rw[←frF_int h];exact frF_ok (k:=20) (Hz.int (by rw[show(10:Nat)^20=100000000000000000000 by decide];omega))
theorem evC {a b c fx fy tx ty:Pol}:(cvT a b c fx fy tx ty).map (evD (envZ ρ x0 y0 x1 y1))= .bool false::rk (q4 (evP ρ a)) (rk (q4 (evP ρ b)) (rk (q4 (evP ρ c)) (rk (q4 0) (rk (q4 0) (rk (q4 0) (.bool false::pk ⟨q4 (evP ρ fx),q4 0,q4 (evP ρ fy),q4 0,q4 0⟩ (pk ⟨q4 (evP ρ tx),q4 0,q4 (evP ρ ty),q4 0,q4 0⟩ []))))))):=rfl
theorem bndZ {a b c d:Int} (h:a≤c∧b≤d) (ha:a.natAbs≤1000000000∧b.natAbs≤1000000000∧c.natAbs≤1000000000∧d.natAbs≤1000000000):bndF ⟨65536*a,65536*a,true⟩ ⟨65536*b,65536*b,true⟩ ⟨65536*c,65536*c,true⟩ ⟨65536*d,65536*d,true⟩=
 [.int .i64 (65536*a),.int .i64 (65536*c),.int .i64 (65536*b),.int .i64 (65536*d),.bool true]:=by
 have m:∀{a c:Int},a≤c→a.natAbs≤1000000000→c.natAbs≤1000000000→bndN ⟨65536*a,65536*a,true⟩ ⟨65536*c,65536*c,true⟩ 2 big2=(65536*a,65536*c):=by intro a c h h1 h2;simp only[bndN,big2,mnI_eq,mxI_eq];refine Prod.ext ?_ ?_<;>simp only<;>omega
 unfold bndF;simp only[Bool.and_self];rw[m h.1 ha.1 ha.2.2.1,m h.2 ha.2.1 ha.2.2.2]
theorem allE1 {E:Env} {w:World} {F:Nat→Prop} {x:List D} {vs:List Value} (h:All2 (@CA E w F) [.ag x] vs):All2 (@CA E w F) [.ag (x.map (evD E))] vs:=by
 match vs,h with
 |[v],h=>exact⟨evA_iff.1 h.1,trivial⟩
theorem allE2 {E:Env} {w:World} {F:Nat→Prop} {x y:List D} {vs:List Value} (h:All2 (@CA E w F) [.ag x,.ag y] vs):All2 (@CA E w F) [.ag (x.map (evD E)),.ag (y.map (evD E))] vs:=by
 match vs,h with
 |[u,v],h=>exact⟨evA_iff.1 h.1,evA_iff.1 h.2.1,trivial⟩
theorem tabB_ok (h:AtZ ρ x0 y0 x1 y1) (f:Nat) (al rs:List A) (ht:tabB f al=some rs): @Gives (envZ ρ x0 y0 x1 y1) CC f al rs:=by
 letI:Env:=envZ ρ x0 y0 x1 y1
 obtain⟨b1,b2⟩:=h.bx;obtain⟨b3,b4⟩:=h.by'
 have lx:=h.ltx;have ly:=h.lty;unfold tabB at ht;split at ht
 ·split at ht
  ·rename_i e;obtain rfl:=Nat.eq_of_beq_eq_true e;split at ht
   ·rename_i k hk;obtain rfl:=Option.some.inj ht;obtain⟨i,hi,rfl⟩:=bdN_ok hk;have go:∀{a b c d:Int} {k:Nat} {r0 r1 r2 r3 r4 r5:R4} {x:List D},k<4→x.map (evD (envZ ρ x0 y0 x1 y1))= .bool false::rk r0 (rk r1 (rk r2 (rk r3 (rk r4 (rk r5 (.bool false::pk ⟨q4 (a:Rat),q4 0,q4 (b:Rat),q4 0,q4 0⟩ (pk ⟨q4 (c:Rat),q4 0,q4 (d:Rat),q4 0,q4 0⟩ [])))))))→
     a≤c→b≤d→a.natAbs≤1000000000→b.natAbs≤1000000000→c.natAbs≤1000000000→d.natAbs≤1000000000→
     bdC x0 y0 x1 y1 k=[.int .i64 (65536*a),.int .i64 (65536*c),.int .i64 (65536*b),.int .i64 (65536*d),.bool true]→Gives CC 249 [.ag x] [.ag (bdT k)]:=by
     intro a b c d k r0 r1 r2 r3 r4 r5 x hk hx h1 h2 ha hb hc hd hC;have g:=bnd_ok (r0:=r0) (r1:=r1) (r2:=r2) (r3:=r3) (r4:=r4) (r5:=r5) (frZ ha) (frZ hb) (frZ hc) (frZ hd);rw[bndZ ⟨h1,h2⟩ ⟨ha,hb,hc,hd⟩,←hC,←hx,←bdT_ev (ρ:=ρ) k hk]at g;refine Gives.conv ?_ ?_ g
     ·intro _ _ _ q;exact allE1 q
     ·intro w F v q;exact evA_iff.2 q
    rcases(by omega:i=0∨i=1∨i=2∨i=3∨4≤i)with rfl|rfl|rfl|rfl|hi4
    ·obtain rfl:=Option.some.inj hi;exact go (by omega) (by rw[show cB=cvT [] lA (pMul lA lY0) lX0 lY0 lX1 lY0 from rfl,evC,h.e0,h.f0,h.e1]) (by omega) (by omega) b1 b3 b2 b3 rfl
    ·obtain rfl:=Option.some.inj hi;exact go (by omega) (by rw[show cR'=cvT nB [] (pMul nB lX1) lX1 lY0 lX1 lY1 from rfl,evC,h.f0,h.e1,h.f1]) (by omega) (by omega) b2 b3 b2 b4 rfl
    ·obtain rfl:=Option.some.inj hi;exact go (by omega) (by rw[show cT'=cvT [] nA (pMul nA lY1) lX0 lY1 lX1 lY1 from rfl,evC,h.e0,h.e1,h.f1]) (by omega) (by omega) b1 b4 b2 b4 rfl
    ·obtain rfl:=Option.some.inj hi;exact go (by omega) (by rw[show cL'=cvT lB [] (pMul lB lX0) lX0 lY0 lX0 lY1 from rfl,evC,h.e0,h.f0,h.f1]) (by omega) (by omega) b1 b3 b1 b4 rfl
    ·rw[List.getElem?_eq_none (by simpa using hi4)]at hi;cases hi
   ·cases ht
  ·cases ht
 ·split at ht
  ·rename_i e;obtain rfl:=Nat.eq_of_beq_eq_true e;split at ht
   ·rename_i i k hi hk;split at ht
    ·rename_i hb;rw[Bool.and_eq_true]at hb;have i4:=Nat.le_of_ble_eq_true hb.1;have k4:=Nat.le_of_ble_eq_true hb.2;obtain rfl:=Option.some.inj ht;obtain rfl:=bdX_ok hi;obtain rfl:=bdX_ok hk;have g:=apart_ok _ _ _ _ _ _ _ _ (opp i k) (opp_ok lx ly i k (by omega) (by omega));refine g.conv (fun _ _ _ q=>?_) (fun _ _ _ q=>q);have:=allE2 q;rw[bdT_ev i (by omega),bdT_ev k (by omega)]at this;exact this
    ·cases ht
   ·cases ht
  ·cases ht
 ·cases ht
theorem bdOk (h:AtZ ρ x0 y0 x1 y1) (ht: @TokOk (envZ ρ x0 y0 x1 y1)) (hL: @AllG (envZ ρ x0 y0 x1 y1) CC Tk.tabL): @BdOk (envZ ρ x0 y0 x1 y1):=by
 letI:Env:=envZ ρ x0 y0 x1 y1
 refine⟨fun f al rs hh=>?_⟩;unfold tabF at hh;split at hh
 ·rename_i e;obtain rfl:=Option.some.inj hh;exact tabB_ok h f al _ e
 ·exact tabH_ok (C:=CC) (ents:=Tk.tabL) hL (fun f al rs k=>ht.ok f al rs k) f al rs hh
end
end Eng
end

section
namespace Eng
open Go Go.Proofs Rl
set_option maxRecDepth 100000
theorem evL (ρ:Nat→Rat) (i:Nat):evP ρ (lt i)=ρ i:=by
 show(1:Rat)*evE ρ 0 (zE i [1])+0=_;rw[zE_ev,Nat.zero_add];show(1:Rat)*(ρ i*1*1)+0=_
 grind
def inA (a b p:Rat):Rat:=if a<p∧p<b then p-a else(b-a)/2
def inB (a b p:Rat):Rat:=if a<p∧p<b then b-p else(b-a)/2
def outA (a b p:Rat):Rat:=if p<a then a-p else if b<p then p-b else 1
def plK (a b p:Rat):Nat:=if p<a then 0 else if p=a then 1 else if p<b then 2 else if p=b then 3 else 4
theorem plK_lt (a b p:Rat):plK a b p<5:=by
 unfold plK;split;omega;split;omega;split;omega;split<;>omega
theorem inAB {a b:Rat} (p:Rat):b-a=inA a b p+inB a b p:=by
 unfold inA inB;split<;>grind
theorem inA_pos {a b:Rat} (p:Rat) (h:a<b):0<inA a b p:=by
 unfold inA;split<;>grind
theorem inB_pos {a b:Rat} (p:Rat) (h:a<b):0<inB a b p:=by
 unfold inB;split<;>grind
theorem outA_pos (a b p:Rat):0<outA a b p:=by
 unfold outA;split
 ·grind
 ·split<;>grind
def lett (x0 y0 x1 y1 px py:Rat):Nat→Rat
 |0=>x0
 |1=>y0
 |2=>x1-x0
 |3=>y1-y0
 |4=>inA x0 x1 px
 |5=>inA y0 y1 py
 |6=>inB x0 x1 px
 |7=>inB y0 y1 py
 |8=>outA x0 x1 px
 |9=>outA y0 y1 py
 |_=>0
theorem hz_in {a b p:Rat} (ha:Hz 8 a) (hb:Hz 8 b) (hp:Hz 5 p):Hz 20 (inA a b p)∧Hz 20 (inB a b p)∧Hz 20 (outA a b p):=by
 have h2:Hz 1 ((2:Int):Rat):=Hz.int (by decide);have h3:Hz 20 ((b-a)/2):=(hb.sub ha (l:=17)).div h2 (by decide) (by omega);have h4:Hz 20 (p-a):=hp.sub ha;have h5:Hz 20 (b-p):=hb.sub hp;have h6:Hz 20 (a-p):=ha.sub hp;have h7:Hz 20 (p-b):=hp.sub hb;unfold inA inB outA;refine⟨?_,?_,?_⟩
 ·split
  ·exact h4
  ·exact h3
 ·split
  ·exact h5
  ·exact h3
 ·split
  ·exact h6
  ·split
   ·exact h7
   ·exact Hz.one
section
variable {x0 y0 x1 y1:Int} {px py:Rat}
theorem lett_hz (hx:x0.natAbs≤10000000∧x1.natAbs≤10000000) (hy:y0.natAbs≤10000000∧y1.natAbs≤10000000) (h1:Hz 5 px) (h2:Hz 5 py):∀i,Hz 20 (lett x0 y0 x1 y1 px py i):=by
 have z:∀{n:Int},n.natAbs≤10000000→Hz 8 (n:Rat):=fun h=>Hz.int (by rw[show(10:Nat)^8=100000000 by decide];omega)
 have a0:=z hx.1;have a1:=z hx.2;have b0:=z hy.1;have b1:=z hy.2;have i1:=hz_in a0 a1 h1;have i2:=hz_in b0 b1 h2;intro i
 match i with
 |0=>exact a0.mono (by omega)
 |1=>exact b0.mono (by omega)
 |2=>exact a1.sub a0
 |3=>exact b1.sub b0
 |4=>exact i1.1
 |5=>exact i2.1
 |6=>exact i1.2.1
 |7=>exact i2.2.1
 |8=>exact i1.2.2
 |9=>exact i2.2.2
 |n+10=>exact Hz.zero
theorem lett_pos (hx:x0<x1) (hy:y0<y1):PosOk (lett x0 y0 x1 y1 px py) bsT:=by
 have hx':(x0:Rat)<x1:=Rat.intCast_lt_intCast.2 hx;have hy':(y0:Rat)<y1:=Rat.intCast_lt_intCast.2 hy;intro i h
 match i,h with
 |0,h=>cases h
 |1,h=>cases h
 |2,_=>show 0<(x1:Rat)-x0;grind
 |3,_=>show 0<(y1:Rat)-y0;grind
 |4,_=>exact inA_pos _ hx'
 |5,_=>exact inA_pos _ hy'
 |6,_=>exact inB_pos _ hx'
 |7,_=>exact inB_pos _ hy'
 |8,_=>exact outA_pos _ _ _
 |9,_=>exact outA_pos _ _ _
 |n+10,h=>cases h
theorem lett_at (hx:x0.natAbs≤10000000∧x1.natAbs≤10000000) (hy:y0.natAbs≤10000000∧y1.natAbs≤10000000) (lx:x0<x1) (ly:y0<y1):AtZ (lett x0 y0 x1 y1 px py) x0 y0 x1 y1:=by
 refine⟨evL _ 0,evL _ 1,?_,?_,by omega,by omega,lx,ly⟩
 ·unfold lX1 lX0 lA;rw[pAdd_ev,evL,evL];show(x0:Rat)+(x1-x0)=x1
  grind
 ·unfold lY1 lY0 lB;rw[pAdd_ev,evL,evL];show(y0:Rat)+(y1-y0)=y1
  grind
theorem lett_x (h:x0<x1):evP (lett x0 y0 x1 y1 px py) (plX (plK x0 x1 px))=px:=by
 have hx:(x0:Rat)<x1:=Rat.intCast_lt_intCast.2 h;have e0:evP (lett x0 y0 x1 y1 px py) lX0=x0:=evL _ 0;have e1:evP (lett x0 y0 x1 y1 px py) lX1=x1:=by
  unfold lX1 lX0 lA;rw[pAdd_ev,evL,evL];show(x0:Rat)+(x1-x0)=x1
  grind
 unfold plK;split
 ·rename_i h1;show evP _ (pAdd lX0 (pNeg (lt 8)))=px;rw[pAdd_ev,pNeg_ev,evL,e0];show(x0:Rat)+ -(outA x0 x1 px)=px;unfold outA;rw[if_pos h1];grind
 ·rename_i h1;split
  ·rename_i h2;rw[h2];exact e0
  ·rename_i h2;split
   ·rename_i h3;show evP _ (pAdd lX0 (lt 4))=px;rw[pAdd_ev,evL,e0];show(x0:Rat)+inA x0 x1 px=px;unfold inA;rw[if_pos ⟨by grind,h3⟩];grind
   ·rename_i h3;split
    ·rename_i h4;rw[h4];exact e1
    ·rename_i h4;show evP _ (pAdd lX1 (lt 8))=px;rw[pAdd_ev,evL,e1];show(x1:Rat)+outA x0 x1 px=px;unfold outA;rw[if_neg h1,if_pos (by grind)];grind
theorem lett_y (h:y0<y1):evP (lett x0 y0 x1 y1 px py) (plY (plK y0 y1 py))=py:=by
 have hx:(y0:Rat)<y1:=Rat.intCast_lt_intCast.2 h;have e0:evP (lett x0 y0 x1 y1 px py) lY0=y0:=evL _ 1;have e1:evP (lett x0 y0 x1 y1 px py) lY1=y1:=by
  unfold lY1 lY0 lB;rw[pAdd_ev,evL,evL];show(y0:Rat)+(y1-y0)=y1
  grind
 unfold plK;split
 ·rename_i h1;show evP _ (pAdd lY0 (pNeg (lt 9)))=py;rw[pAdd_ev,pNeg_ev,evL,e0];show(y0:Rat)+ -(outA y0 y1 py)=py;unfold outA;rw[if_pos h1];grind
 ·rename_i h1;split
  ·rename_i h2;rw[h2];exact e0
  ·rename_i h2;split
   ·rename_i h3;show evP _ (pAdd lY0 (lt 5))=py;rw[pAdd_ev,evL,e0];show(y0:Rat)+inA y0 y1 py=py;unfold inA;rw[if_pos ⟨by grind,h3⟩];grind
   ·rename_i h3;split
    ·rename_i h4;rw[h4];exact e1
    ·rename_i h4;show evP _ (pAdd lY1 (lt 9))=py;rw[pAdd_ev,evL,e1];show(y1:Rat)+outA y0 y1 py=py;unfold outA;rw[if_neg h1,if_pos (by grind)];grind
end
class RunsOk [Env]:Prop where
 rect:Gives CC 26 boxT [.ag regT,.c (.int .i64 0)]
 rrect:Gives CC 27 boxT [.ag wantT,.c (.int .i64 0)]
 val:Gives CC 13 [.ag regT] [.c (.bool true)]
 eq:Gives CC 14 [.ag regT,.ag wantT] [.c (.bool true)]
 con:∀k l,k<5→l<5→∃v,Gives CC 15 [.ag regT,.ag (ptT (plX k) (plY l))] [.c (.int .i64 v)]∧Gives CC 15 [.ag wantT,.ag (ptT (plX k) (plY l))] [.c (.int .i64 v)]
section
variable {ρ:Nat→Rat} {s:Su}
theorem box_ev (h:AtZ ρ s.x0 s.y0 s.x1 s.y1):(tkR [lX0,lY0,lX1,lY1]).map (evD (envZ ρ s.x0 s.y0 s.x1 s.y1))=boxR s 0:=by
 have e:(tkR [lX0,lY0,lX1,lY1]).map (evD (envZ ρ s.x0 s.y0 s.x1 s.y1))=rk (q4 (evP ρ lX0)) (rk (q4 (evP ρ lY0)) (rk (q4 (evP ρ lX1)) (rk (q4 (evP ρ lY1)) []))):=rfl;rw[e,h.e0,h.f0,h.e1,h.f1];unfold boxR;rw[Int.sub_zero,Int.sub_zero,Int.add_zero,Int.add_zero]
theorem mg0_zero:mg0 0=0:=rfl
theorem pStock_ok (hb:BoxOk s) (h:AtZ ρ s.x0 s.y0 s.x1 s.y1) (hr: @RunsOk (envZ ρ s.x0 s.y0 s.x1 s.y1)): @Gives (envZ ρ s.x0 s.y0 s.x1 s.y1) CC 8 [encS s] [.ag regT,.c (.int .i64 0)]:=by
 letI:Env:=envZ ρ s.x0 s.y0 s.x1 s.y1
 have hw:=pWorld_ok hb (m:=0) (by omega);rw[mg0_zero]at hw;refine wpG Tryz.func8 ?_;unfold encS at hw ⊢;rw[vc_pStock];refine⟨_,_,_,_,hw,_,_,?_,rfl⟩;refine Gives.conv ?_ (fun _ _ _ q=>q) hr.rect;intro w F vs q
 match vs,q with
 |[v],q=>refine⟨evA_iff.2 ?_,trivial⟩;rw[box_ev h];exact q.1
theorem rStock_ok (hb:BoxOk s) (h:AtZ ρ s.x0 s.y0 s.x1 s.y1) (hr: @RunsOk (envZ ρ s.x0 s.y0 s.x1 s.y1)): @Gives (envZ ρ s.x0 s.y0 s.x1 s.y1) CC 9 [encS s] [.ag wantT,.c (.int .i64 0)]:=by
 letI:Env:=envZ ρ s.x0 s.y0 s.x1 s.y1
 have hw:=rWorld_ok hb (m:=0) (by omega);rw[mg0_zero]at hw;refine wpG Tryz.func9 ?_;unfold encS at hw ⊢;rw[vc_rStock];refine⟨_,_,_,_,hw,_,_,?_,rfl⟩;refine Gives.conv ?_ (fun _ _ _ q=>q) hr.rrect;intro w F vs q
 match vs,q with
 |[v],q=>refine⟨evA_iff.2 ?_,trivial⟩;rw[box_ev h];exact q.1
theorem pt_ev {x y:Pol} (E:Env) (hE:E=envZ ρ s.x0 s.y0 s.x1 s.y1):(ptT x y).map (evD E)=pk ⟨q4 (evP ρ x),q4 0,q4 (evP ρ y),q4 0,q4 0⟩ []:=by subst hE;rfl
theorem con_ok {E:Env} (hE:E=envZ ρ s.x0 s.y0 s.x1 s.y1) {f:Nat} {reg:List D} {x y:Pol} {px py:Rat} {rs:List A} (hx:evP ρ x=px) (hy:evP ρ y=py) (h: @Gives E CC f [.ag reg,.ag (ptT x y)] rs):
 @Gives E CC f [.ag reg,.ag (pk ⟨q4 px,q4 0,q4 py,q4 0,q4 0⟩ [])] rs:=by
 refine @Gives.conv E _ _ _ _ _ _ ?_ (fun _ _ _ q=>q) h;intro w F vs q
 match vs,q with
 |[u,v],q=>refine⟨q.1,evA_iff.2 ?_,trivial⟩;rw[pt_ev E hE,hx,hy];exact q.2.1
end
theorem lWorld_ok (hA:∀E:Env, @Gives E CS 4 [] [.c (.bool true)]) (hR:∀(ρ:Nat→Rat) (x0 y0 x1 y1:Int),AtZ ρ x0 y0 x1 y1→ @TokOk (envZ ρ x0 y0 x1 y1)→ @RunsOk (envZ ρ x0 y0 x1 y1))
 (s:Su) (hl:s.cl.length≤1000000000∨4<s.cl.length) (mg:Int) {sx sy:Int} {su:Nat} (hx:sm16 sx) (hy:sm16 sy) (hu:su<256):
 ∃E:Env, @Gives E CS 3 [encS s,.c (.int .i64 mg),.ag [.int .i16 sx,.int .i16 sy,.int .u8 (su:Int)]] [.c (.bool true)]:=by
 let ρ:=lett s.x0 s.y0 s.x1 s.y1 (spQ sx su) (spQ sy su)
 let E:=envZ ρ s.x0 s.y0 s.x1 s.y1
 refine⟨E,?_⟩
 letI:Env:=E
 have aw:=hA E;refine wpF_ok (C:=CS) (anns:=fun _=>⟨[],[],fun _ _=>True,fun _=>0⟩) mixedT Tryz.func3 ?_;obtain⟨x0,y0,x1,y1,th,ga,cl,sf⟩:=s;have hv:=vc_lWorld (Gives CS) x0 y0 x1 y1 th ga sf (clRs cl) mg sx sy (su:Int) (· =[.c (.bool true)]);unfold encS;rw[hv];clear hv;refine⟨true,aw,brb (fun h=>by cases h) fun _=>⟨_,upS (sRight_ok ⟨x0,y0,x1,y1,th,ga,cl,sf⟩ hl),?_⟩⟩;refine brb (fun _=>⟨true,aw,rfl⟩) fun h1=>?_
 have h1:(decide (cl.length≤4)&&validB ⟨x0,y0,x1,y1,th,ga,cl,sf⟩)=true:=by simpa using h1
 rw[Bool.and_eq_true]at h1;have hb:=valid_box h1.2;refine brd (fun _=>⟨true,aw,rfl⟩) fun h2=>?_
 have hm:mg≤10000000:=by omega
 have b1:=hb.x0;have b2:=hb.y0;have b3:=hb.x1;have b4:=hb.y1;have b5:=hb.x;have b6:=hb.y;simp only at b1 b2 b3 b4 b5 b6;have hz:=lett_hz (x0:=x0) (y0:=y0) (x1:=x1) (y1:=y1) (by omega) (by omega) (spQ_hz hx hu) (spQ_hz hy hu);have at':AtZ ρ x0 y0 x1 y1:=lett_at (x0:=x0) (y0:=y0) (x1:=x1) (y1:=y1) (by omega) (by omega) b5 b6;have ht: @TokOk E:=tokOk hz (lett_pos (x0:=x0) (y0:=y0) (x1:=x1) (y1:=y1) b5 b6) (inAB _) (inAB _);have hr: @RunsOk E:=hR ρ x0 y0 x1 y1 at' ht;have pw:=upS (pWorld_ok hb hm);have rw':=upS (rWorld_ok hb hm);have ps:=upS (pStock_ok hb at' hr);have rs:=upS (rStock_ok hb at' hr);obtain⟨v,c1,c2⟩:=hr.con (plK x0 x1 (spQ sx su)) (plK y0 y1 (spQ sy su)) (plK_lt _ _ _) (plK_lt _ _ _);have c1:=con_ok (s:=⟨x0,y0,x1,y1,th,ga,cl,sf⟩) rfl (lett_x b5) (lett_y b6) c1;have c2:=con_ok (s:=⟨x0,y0,x1,y1,th,ga,cl,sf⟩) rfl (lett_x b5) (lett_y b6) c2;obtain⟨m0,m1⟩:=mg0_le hm;have si:∀{n:Int},n.natAbs≤100000000→Sr (n:Rat):=fun h=>(Hz.int (k:=8) (by rw[show(10:Nat)^8=100000000 by decide];exact h)).sr (by omega)
 refine⟨_,_,_,_,pw,_,_,_,_,rw',_,_,ps,_,_,rs,?_⟩;refine⟨true,upS (uSame_ok (si (n:=x0-mg0 mg) (by omega))),brb (fun h=>by cases h) fun _=>?_⟩;refine⟨true,upS (uSame_ok (si (n:=y0-mg0 mg) (by omega))),brb (fun h=>by cases h) fun _=>?_⟩;refine⟨true,upS (uSame_ok (si (n:=x1+mg0 mg) (by omega))),brb (fun h=>by cases h) fun _=>?_⟩;refine⟨true,upS (uSame_ok (si (n:=y1+mg0 mg) (by omega))),brb (fun h=>by cases h) fun _=>?_⟩;refine⟨_,_,upS (s7At2_ok hx hy hu),_,upS (s7At_ok _ _),brb (fun _=>?_) (fun h=>by cases h)⟩;refine⟨true,upS hr.val,brb' (fun _=>?_) (fun h=>by cases h)⟩;refine⟨true,upS hr.eq,brb' (fun _=>?_) (fun h=>by cases h)⟩;refine⟨v,upS c1,v,upS c2,brb (fun _=>?_) (fun h=>by simp at h)⟩;refine⟨_,upS (pTable_ok ⟨x0,y0,x1,y1,th,ga,cl,sf⟩),_,upS (rTable_ok ⟨x0,y0,x1,y1,th,ga,cl,sf⟩),?_⟩;rw[beq_self_eq_true]
end Eng
end
