/- The long division. -/
import Derived.Test.YtbehlcfelmbmlaaGreatDoorDivV
import Derived.Test.YtbehlcfelmbmlaaGreatDoorIntA
import Derived.Test.YtbehlcfelmbmlaaGreatDoorCtxB
open Eng.Limbs renaming nil→Aa, cons→Ab
open Go.IntKind renaming wrap→Ac
open Int renaming toNat_natCast→Ad, ofNat_eq_natCast→Ae, tdiv_eq_ediv_of_nonneg→Af, tdiv→Ah
open List renaming length_take→Ai, take_of_length_le→Aj, drop_eq_nil_of_le→Ak, length_drop→Al, take_append_of_le_length→Am, drop_append_of_le_length→An, length_append→Ao, append_assoc→Ap, nil_append→Aq, replicate→Ar, drop_zero→As
open Nat renaming mod_eq_of_lt→At, mul_comm→Au, mul_le_mul_right→Av, min_eq_left→Aw, mul_le_mul_left→Ax, div_lt_iff_lt_mul→Ay, lt_of_le_of_lt→Az, pow_succ→A0, mul_lt_mul_of_pos_right→A1, mod_lt→A2, pow_le_pow_right→A3, le_sub_one_of_lt→A4, eq_zero_or_pos→A5, div_eq_of_lt→A6, mul_le_mul→A7, mul_assoc→A8, add_zero→A9, one_mul→AA, mul_one→AB, mul_add→AC, add_mul→AD
section
namespace Eng
open Go Go.Proofs
set_option maxRecDepth 1000000
theorem y7 (l:List Nat):qW (raw l)=kf l:=by simp[qW,raw,kf,Bz]
theorem y8 (l:List Nat):xl (kf l)=raw l:=by simp[xl,raw,kf]
theorem kj:∀(l:List Nat),wq (raw l)=true
 |[]=>rfl
 |x::l=>by have:=kj l;simp only[raw,List.map_cons,wq]at this ⊢;rw[this];rfl
theorem Np {l:List Nat} (h:l≠[]):raw l≠[]:=by
 intro e;apply h;exact List.map_eq_nil_iff.1 e
def I0v (n m V U0:Nat):List D→List D→Prop:=fun _ ds=>∃(kk:Nat) (ul ql:List Nat),ds=[.sl (raw ul),.sl (raw ql),.int .i64 ((kk:Int)-1)]∧DInv n m V U0 kk ul ql
def M0v:List D→Nat:=fun ds=>(toI (nth .undef ds 2)+1).toNat
def SD (es:List (List D)) (k n:Nat):Nat:=QJ ((es.drop k).take (n+1))
def I1v (n v1 V:Nat):List D→List D→Prop:=fun gs ds=>∃(top k:Nat) (es:List (List D)) (g r:Nat),gs=[.int .u64 (top:Int),.int .i64 (k:Int),.sl es]∧ds=[.int .u64 (g:Int),.int .u64 (r:Int)]∧top=g*v1+r∧SD es k n/V≤g∧g≤1000000001∧r<1000000000
def M1v:List D→Nat:=fun ds=>(toI (nth .undef ds 0)).toNat
theorem TF (ul:List Nat) (k n:Nat):SD (raw ul) k n=val ((ul.drop k).take (n+1)):=by
 unfold SD;rw[wW,zR,jD]
theorem TG {n m V U0 k g:Nat} {bl ul ql vl:List Nat} (hn:2≤n) (hb:bl.length=n) (hv:vl.length=n) (lv:Limbs vl) (vV:val vl=V) (hD:DInv n m V U0 (k+1) ul ql) (hm:n+m≤1000000) (hV0:0<V)
 (hq:val ((ul.drop k).take (n+1))/V≤g) (hg:g≤1000000000) (hgV:g*V≤val ((ul.drop k).take (n+1))+V):vN (I0v n m V U0) M0v (raw bl) (raw vl) (raw ul) (raw ql) (k:Int) (g:Int):=by
 have hk:=hD.hk;have lu:=hD.lu;have lq:=hD.lq;have a3:V<1000000000^n:=by have:=qG lv;rw[hv,vV]at this;exact this
 obtain⟨hlt,a1⟩:=hD.mid a3 hV0;have l1:(ul.take k).length=k:=by rw[Ai];omega
 have l2:((ul.drop k).take (n+1)).length=n+1:=by rw[Ai,Al];omega
 have Lm:Limbs ((ul.drop k).take (n+1)):=(hD.Lu.drop k).take _;have hdv:val ((ul.drop k).take (n+1))/V<1000000000:=by rw[Ay hV0,Au];exact hlt
 obtain⟨r,c,b,hs,Lr,lr,a0⟩:=UI (us:=(ul.drop k).take (n+1)) (vs:=vl) (V:=V) (g:=g) Lm lv (by omega) vV hV0
  (by rw[l2];exact Nat.le_trans (Nat.le_of_lt a3) (A3 (by omega) (by omega))) hq hg hgV
 rw[l2]at lr;have a4:vl≠[]:=by intro e;rw[e]at hv;simp at hv;omega
 have w1:Ac .i64 (Ac .i64 ((k:Int)+(n:Int))+1)=((k+n+1:Nat):Int):=by rw[xL (n:=(k:Int)+(n:Int)) (by omega) (by omega),xL (by omega) (by omega)];omega
 have w2:Ac .i64 ((k:Int)-1)=(k:Int)-1:=xL (by omega) (by omega);unfold vN;simp only[Ae,qh,hb,w1,Ad];rw[show k+n+1-k=n+1 by omega,wW,zR,y7,y7,hs];simp only;rw[y8];rw[wW,zR,←qT,←qT];have l3:(ul.take k++r++ul.drop (k+(n+1))).length=n+m:=by rw[Ao,Ao,l1,lr,Al];omega
 refine⟨⟨by omega,by omega,by omega⟩,⟨⟨Np a4,kj _,by rw[hv];omega⟩,by omega,kj _⟩,brb (fun h=>?_) (fun h=>?_)⟩
 ·have hcb:c≠0∨b≠0:=by rw[Bool.or_eq_true,decide_eq_true_eq,decide_eq_true_eq]at h;omega
  rcases a0 with⟨e1,e2,_,_⟩|⟨_,a2,r2,h2,Lr2,a5,vr2⟩
  ·omega
  rw[l2]at a5;have e3:(ul.take k++r++ul.drop (k+(n+1))).take k=ul.take k:=by rw[Ap,Am (by omega),List.take_take,Nat.min_self]
  have e4:((ul.take k++r++ul.drop (k+(n+1))).drop k).take (n+1)=r:=by rw[Ap,An (by omega),Ak (by omega),Aq,Am (by omega),Aj (by omega)]
  have e5:(ul.take k++r++ul.drop (k+(n+1))).drop (k+(n+1))=ul.drop (k+(n+1)):=by rw[An (by simp[l1,lr])];rw[Ak (by simp[l1,lr]),Aq]
  rw[wW,zR,y7,e4,h2,y8,zR,e3,wW,e5,←qT,←qT];have w3:Ac .u32 (Ac .u64 ((g:Int)-1))=((val ((ul.drop k).take (n+1))/V:Nat):Int):=by
   have hg1':1≤g:=by rw[a2];exact Nat.le_add_left 1 _
   have hg2:g-1=val ((ul.drop k).take (n+1))/V:=by rw[a2];exact Nat.add_sub_cancel ..
   rw[←hg2,x6 (by omega) (by omega),zK (by omega) (by omega)];omega
  rw[w3,x9 (by omega),qh,l3,w2];refine⟨⟨by omega,by omega,by omega⟩,⟨⟨Np a4,kj _,by rw[hv];omega⟩,by omega,kj _⟩,⟨by omega,by omega⟩,by omega,⟨k,_,_,rfl,a1 r2 Lr2 a5 vr2⟩,?_⟩;simp only[M0v,nth,toI];omega
 ·have hcb:c=0∧b=0:=by rw[Bool.or_eq_false_iff,decide_eq_false_iff_not,decide_eq_false_iff_not]at h;omega
  rcases a0 with⟨_,_,a2,vr⟩|⟨e1,_⟩
  ·have w3:Ac .u32 (g:Int)=((val ((ul.drop k).take (n+1))/V:Nat):Int):=by rw[zK (by omega) (by omega)];omega
   rw[w3,x9 (by omega),w2];refine⟨⟨by omega,by omega⟩,by omega,⟨k,_,_,rfl,a1 r Lr lr vr⟩,?_⟩;simp only[M0v,nth,toI];omega
  ·omega
theorem GY {a b:List Nat} (ha:Limbs a) (hb:Limbs b) (h1:a.length≤536870912) (h2:b.length≤536870912) (h3:0<a.length+b.length):xT [.c (.sl (raw a)),.c (.sl (raw b))]=true:=by
 simp only[xT,kA ha,kA hb,qh,Bool.true_and,Bool.and_eq_true,Nat.ble_eq,Nat.blt_eq];exact⟨h1,h2,h3⟩
theorem Nq (a b:List Nat):zV [.c (.sl (raw a)),.c (.sl (raw b))]=raw (pad (a.length+b.length) (val a*val b)):=by
 simp only[zV,qh,jD]
theorem XJ {ul:List Nat} {k n i:Nat} (hi:i≤n):((ul.drop k).take (n+1)).getD i 0=ul.getD (k+i) 0:=by
 simp only[List.getD,List.getElem?_take,List.getElem?_drop];rw[if_pos (by omega)]
def PU (I0:List D→List D→Prop) (M0:List D→Nat) (I1:List D→List D→Prop) (M1:List D→Nat):Nat→Ann:=
 Vn ⟨[.own 8 180 1,.own 10 181 1,.slot 11 (.int .i64 0)],[],I0,M0⟩ ⟨[.slot 13 (.int .u64 0),.slot 14 (.int .u64 0)],[.slot 12 (.int .u64 0),.slot 11 (.int .i64 0),.own 8 180 1],I1,M1⟩
theorem GZ {a b al:List Nat} {d:Nat} (ta:qe CC 307 [.c (.sl (raw a))] [.c (.sl (raw al))]) (tb:qe CC 307 [.c (.sl (raw b))] [.c (.sl (raw [d]))]) (lA:Limbs al) (ra:al.length≤1000) (hd0:0<d) (hd1:d<1000000000):
 qe CC 233 [.c (.sl (raw a)),.c (.sl (raw b))] [.c (.sl (raw (pad al.length (val al/d)))),.c (.sl (raw [val al%d]))]:=by
 refine qf (anns:=PU (fun _ _=>True) (fun _=>0) (fun _ _=>True) (fun _=>0)) mixedT Tryz.func233 ?_;show wpF (CM xT zV) _ _ _ _ _;unfold PU;rw[y9];refine⟨_,ta,_,tb,brb (fun _=>?_) (fun h=>?_)⟩
 ·exact⟨⟨by omega,by simp[raw],rfl⟩,_,qu (l:=[d]) (i:=0) (by simp),_,_,up (X0 lA hd0 hd1 (by omega)),rfl⟩
 ·simp[raw]at h
theorem TH {a b al bl:List Nat} (ta:qe CC 307 [.c (.sl (raw a))] [.c (.sl (raw al))]) (tb:qe CC 307 [.c (.sl (raw b))] [.c (.sl (raw bl))]) (lA:Limbs al) (lB:Limbs bl) (ra:al.length≤1000) (rb:bl.length≤1000) (hn:2≤bl.length) (hlt:val al<val bl):
 qe CC 233 [.c (.sl (raw a)),.c (.sl (raw b))] [.c (.sl (raw [])),.c (.sl (raw al))]:=by
 refine qf (anns:=PU (fun _ _=>True) (fun _=>0) (fun _ _=>True) (fun _=>0)) mixedT Tryz.func233 ?_;show wpF (CM xT zV) _ _ _ _ _;unfold PU;rw[y9];refine⟨_,ta,_,tb,brb (fun h=>?_) (fun h=>?_)⟩
 ·rw[qh]at h;simp only[Ae,beq_iff_eq]at h;omega
 ·refine⟨_,up (jg lA lB (by omega) (by omega)),brd (fun h2=>?_) (fun h2=>?_)⟩
  ·exact⟨⟨by rw[qh];unfold room;omega,zm _⟩,rfl⟩
  ·rw[vg,if_pos hlt]at h2;omega
set_option maxHeartbeats 2000000 in
theorem Ha {a b al bl:List Nat} (ta:qe CC 307 [.c (.sl (raw a))] [.c (.sl (raw al))]) (tb:qe CC 307 [.c (.sl (raw b))] [.c (.sl (raw bl))]) (lA:Limbs al) (lB:Limbs bl) (ra:al.length≤1000) (rb:bl.length≤1000)
 (vA:val al=val a) (vB:val bl=val b) (zB:bl.getLast?≠some 0) {p:Nat} (hn:bl.length=p+2) (hle:val bl≤val al):
 ∃q r,qe CC 233 [.c (.sl (raw a)),.c (.sl (raw b))] [.c (.sl (raw q)),.c (.sl (raw r))]∧Limbs q∧Limbs r∧val q=val a/val b∧val r=val a%val b∧q.length≤1073741824∧r.length≤1073741824:=by
 have hBn:bl≠[]:=by intro e;rw[e]at hn;simp at hn
 have ah:p+1<bl.length:=by omega
 obtain⟨d,aj⟩:∃d,bl[p+1]=d:=⟨_,rfl⟩;have hd0:0<d:=by
  rcases A5 d with h0|h0
  ·exfalso;apply zB;rw[List.getLast?_eq_getElem?,hn,show p+2-1=p+1 by omega,List.getElem?_eq_getElem ah,aj,h0]
  ·exact h0
 have hd1:d<1000000000:=aj▸lB.get ah;obtain⟨s,hs⟩:∃s,s=1000000000/(d+1):=⟨_,rfl⟩;obtain⟨hs1,hs2,hs3⟩:=X5 hd0 hd1 hs;have bn:s<1000000000:=by have:s*2≤s*(d+1):=Ax _ (by omega);omega
 obtain⟨B,hB⟩:∃B,val b=B:=⟨_,rfl⟩;obtain⟨A,hA⟩:∃A,val a=A:=⟨_,rfl⟩;rw[hA]at vA ⊢;rw[hB]at vB ⊢;rw[vA,vB]at hle
 --the scaled divisor
 obtain⟨V,hV⟩:∃V,V=B*s:=⟨_,rfl⟩;have ax:B=val (bl.take (p+1))+1000000000^(p+1)*d:=by rw[←vB,←aj,←xf ah,←qD,Aj (by omega)]
 have hlo:val (bl.take (p+1))<1000000000^(p+1):=by have:=qG (lB.take (p+1));rw[Ai,hn,Aw (by omega)]at this;exact this
 obtain⟨P1,a2⟩:∃P1,1000000000^(p+1)=P1:=⟨_,rfl⟩;have ad:1000000000^(p+2)=P1*1000000000:=by rw[←a2];exact A0 ..
 rw[a2]at ax hlo;have hP0:0<P1:=by rw[←a2];exact Nat.pow_pos (by omega)
 have a8:V<P1*1000000000:=by
  have h1:B<P1*(d+1):=by rw[AC,AB];omega
  have h2:B*s<P1*(d+1)*s:=A1 h1 (by omega);have h3:P1*(d+1)*s=P1*(s*(d+1)):=by rw[A8,Au (d+1) s]
  have h4:P1*(s*(d+1))≤P1*1000000000:=Ax _ hs3;omega
 have aw:500000000*P1≤V:=by
  have h1:P1*d*s≤B*s:=Av s (by omega);have h2:P1*d*s=d*s*P1:=by rw[A8,Au]
  have h3:500000000*P1≤d*s*P1:=Av P1 hs1;omega
 have a3:0<V:=by omega
 obtain⟨vl,ak⟩:∃vl,lim V=vl:=⟨_,rfl⟩;have Lv:Limbs vl:=ak▸qc _;have vV:val vl=V:=ak▸qj _;have lv:vl.length=p+2:=by have h1:(lim V).length≤p+2:=qo (by rw[ad];exact a8);have h2:p+1<(lim V).length:=zJ (by rw[a2];omega);rw[ak]at h1 h2;omega
 obtain⟨v1,ab⟩:∃v1,vl[p+1]=v1:=⟨_,rfl⟩;obtain⟨v2,b8⟩:∃v2,vl[p]=v2:=⟨_,rfl⟩;have hv1B:v1<1000000000:=ab▸Lv.get _;have hv2B:v2<1000000000:=b8▸Lv.get _;have av:=val2 (v:=vl) (p:=p);rw[Aj (by omega),xf (by omega),xf (by omega),ab,b8,vV]at av;have b9:val (vl.take p)<1000000000^p:=by have:=qG (Lv.take p);rw[Ai,lv,Aw (by omega)]at this;exact this
 have hVd1:V=val (vl.take (p+1))+P1*v1:=by rw[←a2,←ab,←xf,←qD,Aj (by omega),vV]
 have bp:val (vl.take (p+1))<P1:=by have:=qG (Lv.take (p+1));rw[Ai,lv,Aw (by omega),a2]at this;exact this
 have be:V<(v1+1)*P1:=by rw[Au,AC];omega
 have hVb:v1*P1≤V:=by rw[Au];omega
 have b7:500000000≤v1:=by apply Nat.le_of_lt_succ;exact Nat.lt_of_mul_lt_mul_right (a:=P1) (Az aw be)
 --the scaled dividend
 have hal:p+2≤al.length:=by apply Nat.le_of_not_lt;intro h;have:=ya lA zB hBn (by omega);omega
 obtain⟨m,hm⟩:∃m,al.length=p+m:=⟨al.length-p,by omega⟩;have aq:A*s<1000000000^(al.length+1):=by have h1:=qG lA;rw[vA]at h1;have h2:A*s≤A*1000000000:=Ax _ (by omega);have h3:A*1000000000<1000000000^al.length*1000000000:=A1 h1 (by omega);rw[A0];omega
 obtain⟨ac,a4⟩:∃ac,pad (al.length+1) (A*s)++[0]=ac:=⟨_,rfl⟩;have ba:ac.length=al.length+2:=by rw[←a4];simp[xh]
 have a1:DInv (p+2) m V (A*s) m ac (Ar m 0):=by
  have am:val ac=A*s:=by rw[←a4,qL,ji,At aq,show val [0]=0 from rfl,Nat.mul_zero,A9]
  refine⟨Nat.le_refl _,by omega,List.length_replicate,?_,?_,?_,?_⟩
  ·rw[←a4];exact(xA _ _).append (Ab (by omega) Aa)
  ·intro x hx;rw[List.eq_of_mem_replicate hx];omega
  ·rw[am];have h1:P1*1000000000^m≤V*1000000000^m:=Av _ (by omega);have h2:P1*1000000000^m=1000000000^(al.length+1):=by rw[←a2,←Nat.pow_add,show p+1+m=al.length+1 by omega]
   omega
  ·rw[Ak (by simp),am];simp[val]
 have hsc:Ac .u32 (Ac .u64 (Ah 1000000000 (Ac .u64 (Ac .u64 (d:Int)+1))))=(s:Int):=by
  have e:Ah 1000000000 ((d:Int)+1)=(s:Int):=by rw[hs,Af (by omega),Int.natCast_ediv];have e2:((d+1:Nat):Int)=(d:Int)+1:=Int.natCast_add d 1;rw[e2];exact congrArg (· /((d:Int)+1)) (show(1000000000:Int)=((1000000000:Nat):Int)from rfl)
  rw[x6 (n:=(d:Int)) (by omega) (by omega),x6 (n:=(d:Int)+1) (by omega) (by omega),e,x6 (by omega) (by omega),zK (by omega) (by omega)]
 have mkA:zV [.c (.sl (raw al)),.c (.sl [[.int .u32 (s:Int)]])]=raw (pad (al.length+1) (A*s)):=(Nq al [s]).trans (by rw[vA];simp[val]);have mkB:zV [.c (.sl (raw bl)),.c (.sl [[.int .u32 (s:Int)]])]=raw (pad (p+3) V):=(Nq bl [s]).trans (by rw[vB,hV,hn];simp[val]);have Ls:Limbs [s]:=Ab bn Aa;have ao:xT [.c (.sl (raw al)),.c (.sl [[.int .u32 (s:Int)]])]=true:=GY lA Ls (by omega) (by simp) (by simp);have ap:xT [.c (.sl (raw bl)),.c (.sl [[.int .u32 (s:Int)]])]=true:=GY lB Ls (by omega) (by simp) (by simp);have tv:qe CC 307 [.c (.sl (raw (pad (p+3) V)))] [.c (.sl (raw vl))]:=by have:=up (kI (xA (p+3) V) (by rw[xh];omega));rw[ji,At (show V<1000000000^(p+3)from Nat.lt_of_lt_of_le a8 (by rw[←ad];exact A3 (by omega) (by omega))),ak]at this;exact this
 have eU:raw (pad (al.length+1) (A*s))++[[D.int .u32 (0:Int)]]=raw ac:=by rw[←a4,qT];rfl
 have ag:A*s/V=A/B:=by rw[hV];exact Nat.mul_div_mul_right _ _ (by omega)
 have aa:A*s%V=A%B*s:=by rw[hV];exact Nat.mul_mod_mul_right _ _ _
 refine⟨pad m (A/B),pad (lim (A%B*s)).length (A%B),qf (anns:=PU (I0v (p+2) m V (A*s)) M0v (I1v (p+2) v1 V) M1v) mixedT Tryz.func233 ?_,xA _ _,xA _ _,?_,?_,by rw[xh];omega,?_⟩
 ·show wpF (CM xT zV) _ _ _ _ _;unfold PU;rw[y9];refine⟨_,ta,_,tb,?_⟩;have wn1:Ac .i64 (((p+2:Nat):Int)-1)=((p+1:Nat):Int):=by rw[xL (by omega) (by omega)];omega
  have wn2:Ac .i64 (((p+2:Nat):Int)-2)=(p:Int):=by rw[xL (by omega) (by omega)];omega
  simp only[Ae,qh,hn,wn1,wn2,Ad];refine brb (fun h=>?_) (fun _=>⟨_,up (jg lA lB (by omega) (by omega)),brd (fun h2=>?_) (fun _=>?_)⟩)
  ·simp only[beq_iff_eq]at h;omega
  ·rw[vg,vA,vB,if_neg (by omega)]at h2;split at h2<;>omega
  refine⟨⟨by omega,by omega,qt ah⟩,_,qu ah,?_⟩;rw[aj];simp only[hsc,mkA,mkB,eU,qh,ba];have wm:Ac .i64 (((al.length+2:Nat):Int)-((p+2:Nat):Int))=(m:Int):=by rw[xL (by omega) (by omega)];omega
  have wm1:Ac .i64 ((m:Int)-1)=(m:Int)-1:=xL (by omega) (by omega);simp only[wm,wm1,Ad,xh];refine⟨?_,ao,⟨by unfold room;omega,zm [0]⟩,ap,_,tv,⟨by omega,by omega,by unfold room;omega⟩,⟨m,ac,Ar m 0,by rw[xg],a1⟩,?_⟩
  ·rw[x6 (n:=(d:Int)) (by omega) (by omega),x6 (by omega) (by omega)];omega
  rintro es_3 es_4 n_1 ⟨kk,ul,ql,he,hD⟩;simp only[List.cons.injEq,D.sl.injEq,D.int.injEq,true_and,and_true]at he;obtain⟨rfl,rfl,rfl⟩:=he;have bk:=hD.lu;have hkm:=hD.hk;refine brd (fun h=>?_) (fun h=>?_)
  ·obtain⟨k,rfl⟩:∃k,kk=k+1:=⟨kk-1,by omega⟩;rw[show((k+1:Nat):Int)-1=(k:Int)by omega];have W0:Ac .i64 ((k:Int)+((p+2:Nat):Int))=((k+p+2:Nat):Int):=by rw[xL (by omega) (by omega)];omega
   have W1:Ac .i64 (((k+p+2:Nat):Int)-1)=((k+p+1:Nat):Int):=by rw[xL (by omega) (by omega)];omega
   have W2:Ac .i64 (((k+p+2:Nat):Int)-2)=((k+p:Nat):Int):=by rw[xL (by omega) (by omega)];omega
   simp only[W0,W1,W2,Ad,qh,bk,lv];have hVn:V<1000000000^(p+2):=by rw[ad];exact a8
   obtain⟨a7,_⟩:=hD.mid hVn a3;have hlm:((ul.drop k).take (p+2+1)).length=p+3:=by rw[Ai,Al];omega
   have Lm:Limbs ((ul.drop k).take (p+2+1)):=(hD.Lu.drop k).take _;obtain⟨t3,b5⟩:∃t,ul[k+p+2]=t:=⟨_,rfl⟩;obtain⟨t2,b3⟩:∃t,ul[k+p+1]=t:=⟨_,rfl⟩;obtain⟨t0,b2⟩:∃t,ul[k+p]=t:=⟨_,rfl⟩;have ht3B:t3<1000000000:=b5▸hD.Lu.get _;have b4:t2<1000000000:=b3▸hD.Lu.get _;have ht0B:t0<1000000000:=b2▸hD.Lu.get _;obtain⟨U,hU⟩:∃U,val ((ul.drop k).take (p+2+1))=U:=⟨_,rfl⟩;rw[hU]at a7;have a6:=val3 (u:=(ul.drop k).take (p+2+1)) (p:=p);rw[Aj (by omega),XJ (by omega),XJ (by omega),XJ (by omega),xf (by omega),xf (by omega),xf (by omega)]at a6;simp only[←Nat.add_assoc,b5,b3,b2]at a6;rw[hU]at a6;have au:val (((ul.drop k).take (p+2+1)).take p)<1000000000^p:=by have:=qG (Lm.take p);rw[Ai,hlm,Aw (by omega)]at this;exact this
   obtain⟨a0,b6⟩:∃a0,t3*1000000000+t2=a0:=⟨_,rfl⟩;have ar:U=(t3*1000000000+t2)*P1+(t0*1000000000^p+val (((ul.drop k).take (p+2+1)).take p)):=by rw[a6,←a2,A0];grind
   have ae:t0*1000000000^p+val (((ul.drop k).take (p+2+1)).take p)<P1:=by have:(t0+1)*1000000000^p≤1000000000*1000000000^p:=Av _ (by omega);rw[AD,AA]at this;rw[←a2,A0];omega
   obtain⟨az,b0,hg3⟩:=Ws be hVb b7 ar ae b4 a7 a3;rw[b6]at az b0 a6;have bd:Ac .u64 (Ac .u64 (Ac .u64 (t3:Int)*1000000000)+Ac .u64 (t2:Int))=(a0:Int):=by rw[x6 (n:=(t3:Int)) (by omega) (by omega),x6 (n:=(t3:Int)*1000000000) (by omega) (by omega),x6 (n:=(t2:Int)) (by omega) (by omega),x6 (by omega) (by omega)];omega
   have an:Ac .u64 (v1:Int)=(v1:Int):=x6 (by omega) (by omega);have wv2:Ac .u64 (v2:Int)=(v2:Int):=x6 (by omega) (by omega);have wt0:Ac .u64 (t0:Int)=(t0:Int):=x6 (by omega) (by omega);have bf:=Nat.div_add_mod a0 v1;have hml:=A2 a0 (show 0<v1 by omega);have a5:Ah (a0:Int) (v1:Int)=((a0/v1:Nat):Int):=by rw[Af (by omega)];rfl
   have ai:Int.tmod (a0:Int) (v1:Int)=((a0%v1:Nat):Int):=by rw[Int.tmod_eq_emod_of_nonneg (by omega)];rfl
   obtain⟨g0,hg0⟩:∃g0,a0/v1=g0:=⟨_,rfl⟩;obtain⟨r0,hr0⟩:∃r0,a0%v1=r0:=⟨_,rfl⟩;rw[hg0]at az b0 bf a5;rw[hr0]at bf hml ai;have bc:Ac .u64 (Ah (a0:Int) (v1:Int))=(g0:Int):=by rw[a5,x6 (by omega) (by omega)]
   have b1:SD (raw ul) k (p+2)=U:=by rw[TF,hU]
   refine⟨⟨by omega,by omega⟩,_,qu (by omega),⟨by omega,by omega⟩,_,qu (by omega),⟨by omega,by omega,qt (by omega)⟩,_,qu (by omega),?_⟩;rw[b5,b3,ab];refine⟨by rw[an];omega,⟨by omega,by omega,qt (by omega)⟩,_,qu (by omega),?_⟩;rw[ab,bd,an,bc,ai];refine⟨by omega,⟨a0,k,raw ul,g0,r0,rfl,rfl,by rw[Au];omega,by rw[b1];exact az,b0,by omega⟩,?_⟩;rintro n_5 n_6 ⟨bb,k',es',g,r,bh,bi,bj,bm,hgB,hrB⟩;simp only[List.cons.injEq,D.int.injEq,D.sl.injEq,true_and,and_true]at bh bi;obtain⟨e1,e2,rfl⟩:=bh;obtain⟨rfl,rfl⟩:=bi;obtain rfl:a0=bb:=by omega
   obtain rfl:k=k':=by omega
   rw[b1]at bm;have af:∀g' r',a0=g'*v1+r'→U/V≤g'→g'≤1000000000→g'*v2≤r'*1000000000+t0→vN (I0v (p+2) m V (A*s)) M0v (raw bl) (raw vl) (raw ul) (raw ql) (k:Int) (g':Int):=fun g' r' h1 h2 h3 h4=>
    TG (by omega) hn lv Lv vV hD (by omega) a3 (by rw[hU];exact h2) h3 (by rw[hU];exact Gi av a6 b9 h1 h4 h3 (by omega))
   have bg:U/V<g→br (toB (D.bool (decide (Ac .u64 ((r:Int)+(v1:Int))≥1000000000))))
    (vN (I0v (p+2) m V (A*s)) M0v (raw bl) (raw vl) (raw ul) (raw ql) (k:Int) (Ac .u64 ((g:Int)-1)))
    (I1v (p+2) v1 V [.int .u64 (a0:Int),.int .i64 (k:Int),.sl (raw ul)] [.int .u64 (Ac .u64 ((g:Int)-1)),.int .u64 (Ac .u64 ((r:Int)+(v1:Int)))]∧
     M1v [.int .u64 (Ac .u64 ((g:Int)-1)),.int .u64 (Ac .u64 ((r:Int)+(v1:Int)))]<M1v [.int .u64 (g:Int),.int .u64 (r:Int)]):=by
    intro a9;have hgp:1≤g:=Az (Nat.zero_le _) a9;have wg:Ac .u64 ((g:Int)-1)=((g-1:Nat):Int):=by rw[x6 (by omega) (by omega)];omega
    have wr:Ac .u64 ((r:Int)+(v1:Int))=((r+v1:Nat):Int):=by rw[x6 (by omega) (by omega)];omega
    have bo:a0=(g-1)*v1+(r+v1):=by
     have:g*v1=(g-1)*v1+v1:=by
      conv=>lhs;rw[show g=(g-1)+1 by omega]
      rw[AD,AA]
     omega
    rw[wg,wr];refine brd (fun h3=>?_) (fun h3=>?_)
    ·refine af (g-1) (r+v1) bo (A4 a9) (by omega) ?_;have h5:(g-1)*v2≤1000000000*1000000000:=A7 (by omega) (by omega);have h6:1000000000*1000000000≤(r+v1)*1000000000:=Av _ (by omega);omega
    ·exact⟨⟨a0,k,raw ul,g-1,r+v1,rfl,rfl,bo,by rw[b1];exact A4 a9,by omega,by omega⟩,by simp only[M1v,nth,toI,Ad];omega⟩
   have hqB:U/V<1000000000:=by rw[Ay a3,Au];exact a7
   refine brd (fun h3=>?_) (fun h3=>?_)
   ·refine⟨⟨by omega,by omega,qt (by omega)⟩,_,qu (by omega),?_⟩;rw[ab,an];exact bg (by omega)
   ·refine⟨⟨by omega,by omega,qt (by omega)⟩,_,qu (by omega),⟨by omega,by omega⟩,_,qu (by omega),?_⟩;rw[b8,b2,wv2,wt0];have hgv:g*v2≤1000000000*1000000000:=A7 (by omega) (by omega);have wgv:Ac .u64 ((g:Int)*(v2:Int))=((g*v2:Nat):Int):=by have e:(g:Int)*(v2:Int)=((g*v2:Nat):Int):=(Int.natCast_mul ..).symm;rw[e,x6 (by omega) (by omega)]
    have wrt:Ac .u64 (Ac .u64 ((r:Int)*1000000000)+(t0:Int))=((r*1000000000+t0:Nat):Int):=by rw[x6 (n:=(r:Int)*1000000000) (by omega) (by omega),x6 (by omega) (by omega)];omega
    rw[wgv,wrt];refine brd (fun h4=>?_) (fun h4=>?_)
    ·refine⟨⟨by omega,by omega,qt (by omega)⟩,_,qu (by omega),?_⟩;rw[ab,an];exact bg (Gh av a6 au bj (by omega) a3)
    ·exact af g r bj bm (by omega) (by omega)
  ·have hk0:kk=0:=by omega
   subst hk0;have a9:=hD.hlt;have ay:=hD.heq;simp only[Nat.pow_zero,AB,As]at a9 ay;have am:val ul=A*s%V:=by rw[ay,Au,Nat.mul_add_mod,At a9]
   have bq:val ql=A/B:=by rw[←ag,ay,Au,Nat.mul_add_div a3,A6 a9,A9]
   have htk:val (ul.take (p+2))=A%B*s:=by
    rw[←aa,←am];have h1:val ul=val (ul.take (p+2))+1000000000^(p+2)*val (ul.drop (p+2)):=by
     conv=>lhs;rw[←List.take_append_drop (p+2) ul]
     rw[qL,Ai,Aw (by omega)]
    rcases A5 (val (ul.drop (p+2)))with h0|h0
    ·rw[h0]at h1;omega
    ·exfalso;have h2:1000000000^(p+2)≤1000000000^(p+2)*val (ul.drop (p+2)):=Nat.le_mul_of_pos_right _ h0;rw[ad]at h2 h1;omega
   have hlul:(lim (A%B*s)).length≤p+2:=by rw[←aa];refine qo ?_;have:=A2 (A*s) a3;rw[ad];omega
   have g1:=up (kI (hD.Lu.take (p+2)) (by rw[Ai];omega));rw[htk]at g1;have g2:=up (X0 (qc (A%B*s)) (d:=s) (by omega) bn (by omega));rw[qj,Nat.mul_div_cancel _ (show 0<s by omega)]at g2;simp only[As,zR,qh,bk];refine⟨⟨by omega,by omega,by omega,zm _⟩,_,g1,_,_,g2,?_⟩;have:ql=pad m (A/B):=by refine Ww hD.Lq (xA _ _) (by rw[xh];exact hD.lq) ?_;have h1:=qG hD.Lq;rw[hD.lq,bq]at h1;rw[ji,At h1,bq]
   rw[this]
 ·rw[ji,At];rw[←ag,Ay a3];have h1:=a1.hlt;have h2:=a1.heq;rw[Ak (by simp)]at h2;simp only[val,Nat.zero_mul,Nat.zero_add]at h2;rw[←h2]at h1;rw[Au (1000000000^m)];exact h1
 ·rw[ji,At];have h1:=qG (qc (A%B*s));rw[qj]at h1;have:A%B*1≤A%B*s:=Ax _ hs2;omega
 ·rw[xh,←aa];have:(lim (A*s%V)).length≤p+2:=by refine qo ?_;have:=A2 (A*s) a3;rw[ad];omega
  omega
theorem Yu:zn:=by
 intro a b la lb hb0 ra rb;have ta:=up (kI la (by omega));have tb:=up (kI lb (by omega));have nA:(lim (val a)).length≤a.length:=qo (qG la);have nB:(lim (val b)).length≤b.length:=qo (qG lb);have a0:lim (val b)≠[]:=by rw[ne_eq,jY];exact hb0
 have hpos:0<(lim (val b)).length:=List.length_pos_iff.2 a0;by_cases h1:(lim (val b)).length=1
 ·obtain⟨d,hd⟩:=List.length_eq_one_iff.1 h1;have hv:val b=d:=by rw[←qj (val b),hd];simp[val]
  rw[hd]at tb;have hd1:d<1000000000:=(qc (val b)) d (by rw[hd];simp);refine⟨_,_,GZ ta tb (qc _) (by omega) (by omega) hd1,xA _ _,Ab ?_ Aa,?_,?_,by rw[xh];omega,by simp⟩
  ·have:=A2 (val (lim (val a))) (show 0<d by omega);omega
  ·rw[ji,qj,hv,At];have h2:=qG (qc (val a));rw[qj]at h2;exact Az (Nat.div_le_self _ _) h2
  ·rw[qj,hv];simp[val]
 ·by_cases h2:val a<val b
  ·refine⟨_,_,TH ta tb (qc _) (qc _) (by omega) (by omega) (by omega) (by rw[qj,qj];exact h2),Aa,qc _,?_,?_,by simp,by omega⟩
   ·rw[A6 h2];rfl
   ·rw[At h2,qj]
  ·exact Ha (p:=(lim (val b)).length-2) ta tb (qc _) (qc _) (by omega) (by omega) (qj _) (qj _) ((zl _).resolve_left a0) (by omega) (by rw[qj,qj];omega)
end Eng
end
