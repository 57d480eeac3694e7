/- The long division. -/
import Derived.Test.YtbehlcfelmbmlaaGreatDoorDivV
import Derived.Test.YtbehlcfelmbmlaaGreatDoorIntA
import Derived.Test.YtbehlcfelmbmlaaGreatDoorCtxB
open Eng.Limbs renaming nil→Aw, cons→Bx
open Go.IntKind renaming wrap→Dd
open Int renaming toNat_natCast→F0, ofNat_eq_natCast→F2, tdiv_eq_ediv_of_nonneg→Gv, tdiv→Hu
open List renaming length_take→Hv, take_of_length_le→Hx, drop_eq_nil_of_le→Hy, length_drop→I2, take_append_of_le_length→J3, drop_append_of_le_length→J4, length_append→J6, append_assoc→J7, nil_append→J9, replicate→M2, drop_zero→No
open Nat renaming mod_eq_of_lt→Pl, mul_comm→Ts, mul_le_mul_right→T1, min_eq_left→U3, mul_le_mul_left→V1, div_lt_iff_lt_mul→aA, lt_of_le_of_lt→aB, pow_succ→aC, mul_lt_mul_of_pos_right→aD, mod_lt→aE, pow_le_pow_right→aF, le_sub_one_of_lt→aG, eq_zero_or_pos→aH, div_eq_of_lt→aI, mul_le_mul→aJ, mul_assoc→aK, add_zero→aL, one_mul→aM, mul_one→aN, mul_add→aO, add_mul→aP
section
namespace Eng
open Go Go.Proofs
set_option maxRecDepth 1000000
theorem Zw (l:List Nat):xg (raw l)=wI l:=by simp[xg,raw,wI,IG]
theorem Zx (l:List Nat):x7 (wI l)=raw l:=by simp[x7,raw,wI]
theorem wN:∀(l:List Nat),yx (raw l)=true
 |[]=>rfl
 |x::l=>by have:=wN l;simp only[raw,List.map_cons,yx]at this ⊢;rw[this];rfl
theorem Cd {l:List Nat} (h:l≠[]):raw l≠[]:=by
 intro e;apply h;exact List.map_eq_nil_iff.1 e
def I0v (n m V U0:Nat):List D→List D→Prop:=fun _ ds=>∃(kk:Nat) (ul ql:List Nat),ds=[.sl (raw ul),.sl (raw ql),.int .i64 ((kk:Int)-1)]∧DInv n m V U0 kk ul ql
def M0v:List D→Nat:=fun ds=>(toI (nth .undef ds 2)+1).toNat
def Ia (es:List (List D)) (k n:Nat):Nat:=JO ((es.drop k).take (n+1))
def I1v (n v1 V:Nat):List D→List D→Prop:=fun gs ds=>∃(top k:Nat) (es:List (List D)) (g r:Nat),gs=[.int .u64 (top:Int),.int .i64 (k:Int),.sl es]∧ds=[.int .u64 (g:Int),.int .u64 (r:Int)]∧top=g*v1+r∧Ia es k n/V≤g∧g≤1000000001∧r<1000000000
def M1v:List D→Nat:=fun ds=>(toI (nth .undef ds 0)).toNat
theorem RV (ul:List Nat) (k n:Nat):Ia (raw ul) k n=val ((ul.drop k).take (n+1)):=by
 unfold Ia;rw[Qu,j6,kO]
theorem RW {n m V U0 k g:Nat} {bl ul ql vl:List Nat} (hn:2≤n) (hb:bl.length=n) (hv:vl.length=n) (lv:Limbs vl) (vV:val vl=V) (hD:DInv n m V U0 (k+1) ul ql) (hm:n+m≤1000000) (hV0:0<V)
 (hq:val ((ul.drop k).take (n+1))/V≤g) (hg:g≤1000000000) (hgV:g*V≤val ((ul.drop k).take (n+1))+V):Xs (I0v n m V U0) M0v (raw bl) (raw vl) (raw ul) (raw ql) (k:Int) (g:Int):=by
 have hk:=hD.hk;have lu:=hD.lu;have lq:=hD.lq;have a3:V<1000000000^n:=by have:=qO lv;rw[hv,vV]at this;exact this
 obtain⟨hlt,a1⟩:=hD.mid a3 hV0;have l1:(ul.take k).length=k:=by rw[Hv];omega
 have l2:((ul.drop k).take (n+1)).length=n+1:=by rw[Hv,I2];omega
 have Lm:Limbs ((ul.drop k).take (n+1)):=(hD.Lu.drop k).take _;have hdv:val ((ul.drop k).take (n+1))/V<1000000000:=by rw[aA hV0,Ts];exact hlt
 obtain⟨r,c,b,hs,Lr,lr,a0⟩:=Pa (us:=(ul.drop k).take (n+1)) (vs:=vl) (V:=V) (g:=g) Lm lv (by omega) vV hV0
  (by rw[l2];exact Nat.le_trans (Nat.le_of_lt a3) (aF (by omega) (by omega))) hq hg hgV
 rw[l2]at lr;have a4:vl≠[]:=by intro e;rw[e]at hv;simp at hv;omega
 have w1:Dd .i64 (Dd .i64 ((k:Int)+(n:Int))+1)=((k+n+1:Nat):Int):=by rw[qK (n:=(k:Int)+(n:Int)) (by omega) (by omega),qK (by omega) (by omega)];omega
 have w2:Dd .i64 ((k:Int)-1)=(k:Int)-1:=qK (by omega) (by omega);unfold Xs;simp only[F2,qh,hb,w1,F0];rw[show k+n+1-k=n+1 by omega,Qu,j6,Zw,Zw,hs];simp only;rw[Zx];rw[Qu,j6,←qV,←qV];have l3:(ul.take k++r++ul.drop (k+(n+1))).length=n+m:=by rw[J6,J6,l1,lr,I2];omega
 refine⟨⟨by omega,by omega,by omega⟩,⟨⟨Cd a4,wN _,by rw[hv];omega⟩,by omega,wN _⟩,brb (fun h=>?_) (fun h=>?_)⟩
 ·have hcb:c≠0∨b≠0:=by rw[Bool.or_eq_true,decide_eq_true_eq,decide_eq_true_eq]at h;omega
  rcases a0 with⟨e1,e2,_,_⟩|⟨_,a2,r2,h2,Lr2,a5,vr2⟩
  ·omega
  rw[l2]at a5;have e3:(ul.take k++r++ul.drop (k+(n+1))).take k=ul.take k:=by rw[J7,J3 (by omega),List.take_take,Nat.min_self]
  have e4:((ul.take k++r++ul.drop (k+(n+1))).drop k).take (n+1)=r:=by rw[J7,J4 (by omega),Hy (by omega),J9,J3 (by omega),Hx (by omega)]
  have e5:(ul.take k++r++ul.drop (k+(n+1))).drop (k+(n+1))=ul.drop (k+(n+1)):=by rw[J4 (by simp[l1,lr])];rw[Hy (by simp[l1,lr]),J9]
  rw[Qu,j6,Zw,e4,h2,Zx,j6,e3,Qu,e5,←qV,←qV];have w3:Dd .u32 (Dd .u64 ((g:Int)-1))=((val ((ul.drop k).take (n+1))/V:Nat):Int):=by
   have hg1':1≤g:=by rw[a2];exact Nat.le_add_left 1 _
   have hg2:g-1=val ((ul.drop k).take (n+1))/V:=by rw[a2];exact Nat.add_sub_cancel ..
   rw[←hg2,x9 (by omega) (by omega),zR (by omega) (by omega)];omega
  rw[w3,xG (by omega),qh,l3,w2];refine⟨⟨by omega,by omega,by omega⟩,⟨⟨Cd a4,wN _,by rw[hv];omega⟩,by omega,wN _⟩,⟨by omega,by omega⟩,by omega,⟨k,_,_,rfl,a1 r2 Lr2 a5 vr2⟩,?_⟩;simp only[M0v,nth,toI];omega
 ·have hcb:c=0∧b=0:=by rw[Bool.or_eq_false_iff,decide_eq_false_iff_not,decide_eq_false_iff_not]at h;omega
  rcases a0 with⟨_,_,a2,vr⟩|⟨e1,_⟩
  ·have w3:Dd .u32 (g:Int)=((val ((ul.drop k).take (n+1))/V:Nat):Int):=by rw[zR (by omega) (by omega)];omega
   rw[w3,xG (by omega),w2];refine⟨⟨by omega,by omega⟩,by omega,⟨k,_,_,rfl,a1 r Lr lr vr⟩,?_⟩;simp only[M0v,nth,toI];omega
  ·omega
theorem NQ {a b:List Nat} (ha:Limbs a) (hb:Limbs b) (h1:a.length≤536870912) (h2:b.length≤536870912) (h3:0<a.length+b.length):zp [.c (.sl (raw a)),.c (.sl (raw b))]=true:=by
 simp only[zp,vo ha,vo hb,qh,Bool.true_and,Bool.and_eq_true,Nat.ble_eq,Nat.blt_eq];exact⟨h1,h2,h3⟩
theorem Cf (a b:List Nat):jA [.c (.sl (raw a)),.c (.sl (raw b))]=raw (pad (a.length+b.length) (val a*val b)):=by
 simp only[jA,qh,kO]
theorem Wx {ul:List Nat} {k n i:Nat} (hi:i≤n):((ul.drop k).take (n+1)).getD i 0=ul.getD (k+i) 0:=by
 simp only[List.getD,List.getElem?_take,List.getElem?_drop];rw[if_pos (by omega)]
def Ft (I0:List D→List D→Prop) (M0:List D→Nat) (I1:List D→List D→Prop) (M1:List D→Nat):Nat→Ann:=
 JW ⟨[.own 8 180 1,.own 10 181 1,.slot 11 (.int .i64 0)],[],I0,M0⟩ ⟨[.slot 13 (.int .u64 0),.slot 14 (.int .u64 0)],[.slot 12 (.int .u64 0),.slot 11 (.int .i64 0),.own 8 180 1],I1,M1⟩
theorem NR {a b al:List Nat} {d:Nat} (ta:qf CC 307 [.c (.sl (raw a))] [.c (.sl (raw al))]) (tb:qf CC 307 [.c (.sl (raw b))] [.c (.sl (raw [d]))]) (lA:Limbs al) (ra:al.length≤1000) (hd0:0<d) (hd1:d<1000000000):
 qf CC 233 [.c (.sl (raw a)),.c (.sl (raw b))] [.c (.sl (raw (pad al.length (val al/d)))),.c (.sl (raw [val al%d]))]:=by
 refine qg (anns:=Ft (fun _ _=>True) (fun _=>0) (fun _ _=>True) (fun _=>0)) mixedT Tryz.func233 ?_;show wpF (CM zp jA) _ _ _ _ _;unfold Ft;rw[Zy];refine⟨_,ta,_,tb,brb (fun _=>?_) (fun h=>?_)⟩
 ·exact⟨⟨by omega,by simp[raw],rfl⟩,_,qw (l:=[d]) (i:=0) (by simp),_,_,up (KN lA hd0 hd1 (by omega)),rfl⟩
 ·simp[raw]at h
theorem RX {a b al bl:List Nat} (ta:qf CC 307 [.c (.sl (raw a))] [.c (.sl (raw al))]) (tb:qf CC 307 [.c (.sl (raw b))] [.c (.sl (raw bl))]) (lA:Limbs al) (lB:Limbs bl) (ra:al.length≤1000) (rb:bl.length≤1000) (hn:2≤bl.length) (hlt:val al<val bl):
 qf CC 233 [.c (.sl (raw a)),.c (.sl (raw b))] [.c (.sl (raw [])),.c (.sl (raw al))]:=by
 refine qg (anns:=Ft (fun _ _=>True) (fun _=>0) (fun _ _=>True) (fun _=>0)) mixedT Tryz.func233 ?_;show wpF (CM zp jA) _ _ _ _ _;unfold Ft;rw[Zy];refine⟨_,ta,_,tb,brb (fun h=>?_) (fun h=>?_)⟩
 ·rw[qh]at h;simp only[F2,beq_iff_eq]at h;omega
 ·refine⟨_,up (jM lA lB (by omega) (by omega)),brd (fun h2=>?_) (fun h2=>?_)⟩
  ·exact⟨⟨by rw[qh];unfold room;omega,zL _⟩,rfl⟩
  ·rw[Q9,if_pos hlt]at h2;omega
set_option maxHeartbeats 2000000 in
theorem NS {a b al bl:List Nat} (ta:qf CC 307 [.c (.sl (raw a))] [.c (.sl (raw al))]) (tb:qf CC 307 [.c (.sl (raw b))] [.c (.sl (raw bl))]) (lA:Limbs al) (lB:Limbs bl) (ra:al.length≤1000) (rb:bl.length≤1000)
 (vA:val al=val a) (vB:val bl=val b) (zB:bl.getLast?≠some 0) {p:Nat} (hn:bl.length=p+2) (hle:val bl≤val al):
 ∃q r,qf CC 233 [.c (.sl (raw a)),.c (.sl (raw b))] [.c (.sl (raw q)),.c (.sl (raw r))]∧Limbs q∧Limbs r∧val q=val a/val b∧val r=val a%val b∧q.length≤1073741824∧r.length≤1073741824:=by
 have hBn:bl≠[]:=by intro e;rw[e]at hn;simp at hn
 have ak:p+1<bl.length:=by omega
 obtain⟨d,an⟩:∃d,bl[p+1]=d:=⟨_,rfl⟩;have hd0:0<d:=by
  rcases aH d with h0|h0
  ·exfalso;apply zB;rw[List.getLast?_eq_getElem?,hn,show p+2-1=p+1 by omega,List.getElem?_eq_getElem ak,an,h0]
  ·exact h0
 have hd1:d<1000000000:=an▸lB.get ak;obtain⟨s,hs⟩:∃s,s=1000000000/(d+1):=⟨_,rfl⟩;obtain⟨hs1,hs2,hs3⟩:=Wa hd0 hd1 hs;have bq:s<1000000000:=by have:s*2≤s*(d+1):=V1 _ (by omega);omega
 obtain⟨B,hB⟩:∃B,val b=B:=⟨_,rfl⟩;obtain⟨A,hA⟩:∃A,val a=A:=⟨_,rfl⟩;rw[hA]at vA ⊢;rw[hB]at vB ⊢;rw[vA,vB]at hle
 --the scaled divisor
 obtain⟨V,hV⟩:∃V,V=B*s:=⟨_,rfl⟩;have b0:B=val (bl.take (p+1))+1000000000^(p+1)*d:=by rw[←vB,←an,←xu ak,←qF,Hx (by omega)]
 have hlo:val (bl.take (p+1))<1000000000^(p+1):=by have:=qO (lB.take (p+1));rw[Hv,hn,U3 (by omega)]at this;exact this
 obtain⟨P1,a2⟩:∃P1,1000000000^(p+1)=P1:=⟨_,rfl⟩;have ag:1000000000^(p+2)=P1*1000000000:=by rw[←a2];exact aC ..
 rw[a2]at b0 hlo;have hP0:0<P1:=by rw[←a2];exact Nat.pow_pos (by omega)
 have a8:V<P1*1000000000:=by
  have h1:B<P1*(d+1):=by rw[aO,aN];omega
  have h2:B*s<P1*(d+1)*s:=aD h1 (by omega);have h3:P1*(d+1)*s=P1*(s*(d+1)):=by rw[aK,Ts (d+1) s]
  have h4:P1*(s*(d+1))≤P1*1000000000:=V1 _ hs3;omega
 have az:500000000*P1≤V:=by
  have h1:P1*d*s≤B*s:=T1 s (by omega);have h2:P1*d*s=d*s*P1:=by rw[aK,Ts]
  have h3:500000000*P1≤d*s*P1:=T1 P1 hs1;omega
 have a3:0<V:=by omega
 obtain⟨vl,ao⟩:∃vl,lim V=vl:=⟨_,rfl⟩;have Lv:Limbs vl:=ao▸qe _;have vV:val vl=V:=ao▸qj _;have lv:vl.length=p+2:=by have h1:(lim V).length≤p+2:=qq (by rw[ag];exact a8);have h2:p+1<(lim V).length:=jt (by rw[a2];omega);rw[ao]at h1 h2;omega
 obtain⟨v1,ae⟩:∃v1,vl[p+1]=v1:=⟨_,rfl⟩;obtain⟨v2,bb⟩:∃v2,vl[p]=v2:=⟨_,rfl⟩;have hv1B:v1<1000000000:=ae▸Lv.get _;have hv2B:v2<1000000000:=bb▸Lv.get _;have ay:=val2 (v:=vl) (p:=p);rw[Hx (by omega),xu (by omega),xu (by omega),ae,bb,vV]at ay;have bc:val (vl.take p)<1000000000^p:=by have:=qO (Lv.take p);rw[Hv,lv,U3 (by omega)]at this;exact this
 have hVd1:V=val (vl.take (p+1))+P1*v1:=by rw[←a2,←ae,←xu,←qF,Hx (by omega),vV]
 have bt:val (vl.take (p+1))<P1:=by have:=qO (Lv.take (p+1));rw[Hv,lv,U3 (by omega),a2]at this;exact this
 have bh:V<(v1+1)*P1:=by rw[Ts,aO];omega
 have hVb:v1*P1≤V:=by rw[Ts];omega
 have ba:500000000≤v1:=by apply Nat.le_of_lt_succ;exact Nat.lt_of_mul_lt_mul_right (a:=P1) (aB az bh)
 --the scaled dividend
 have hal:p+2≤al.length:=by apply Nat.le_of_not_lt;intro h;have:=Qt lA zB hBn (by omega);omega
 obtain⟨m,hm⟩:∃m,al.length=p+m:=⟨al.length-p,by omega⟩;have av:A*s<1000000000^(al.length+1):=by have h1:=qO lA;rw[vA]at h1;have h2:A*s≤A*1000000000:=V1 _ (by omega);have h3:A*1000000000<1000000000^al.length*1000000000:=aD h1 (by omega);rw[aC];omega
 obtain⟨af,a4⟩:∃af,pad (al.length+1) (A*s)++[0]=af:=⟨_,rfl⟩;have bd:af.length=al.length+2:=by rw[←a4];simp[xc]
 have a1:DInv (p+2) m V (A*s) m af (M2 m 0):=by
  have ap:val af=A*s:=by rw[←a4,qS,js,Pl av,show val [0]=0 from rfl,Nat.mul_zero,aL]
  refine⟨Nat.le_refl _,by omega,List.length_replicate,?_,?_,?_,?_⟩
  ·rw[←a4];exact(xH _ _).append (Bx (by omega) Aw)
  ·intro x hx;rw[List.eq_of_mem_replicate hx];omega
  ·rw[ap];have h1:P1*1000000000^m≤V*1000000000^m:=T1 _ (by omega);have h2:P1*1000000000^m=1000000000^(al.length+1):=by rw[←a2,←Nat.pow_add,show p+1+m=al.length+1 by omega]
   omega
  ·rw[Hy (by simp),ap];simp[val]
 have hsc:Dd .u32 (Dd .u64 (Hu 1000000000 (Dd .u64 (Dd .u64 (d:Int)+1))))=(s:Int):=by
  have e:Hu 1000000000 ((d:Int)+1)=(s:Int):=by rw[hs,Gv (by omega),Int.natCast_ediv];have e2:((d+1:Nat):Int)=(d:Int)+1:=Int.natCast_add d 1;rw[e2];exact congrArg (· /((d:Int)+1)) (show(1000000000:Int)=((1000000000:Nat):Int)from rfl)
  rw[x9 (n:=(d:Int)) (by omega) (by omega),x9 (n:=(d:Int)+1) (by omega) (by omega),e,x9 (by omega) (by omega),zR (by omega) (by omega)]
 have mkA:jA [.c (.sl (raw al)),.c (.sl [[.int .u32 (s:Int)]])]=raw (pad (al.length+1) (A*s)):=(Cf al [s]).trans (by rw[vA];simp[val]);have mkB:jA [.c (.sl (raw bl)),.c (.sl [[.int .u32 (s:Int)]])]=raw (pad (p+3) V):=(Cf bl [s]).trans (by rw[vB,hV,hn];simp[val]);have Ls:Limbs [s]:=Bx bq Aw;have ar:zp [.c (.sl (raw al)),.c (.sl [[.int .u32 (s:Int)]])]=true:=NQ lA Ls (by omega) (by simp) (by simp);have au:zp [.c (.sl (raw bl)),.c (.sl [[.int .u32 (s:Int)]])]=true:=NQ lB Ls (by omega) (by simp) (by simp);have tv:qf CC 307 [.c (.sl (raw (pad (p+3) V)))] [.c (.sl (raw vl))]:=by have:=up (vD (xH (p+3) V) (by rw[xc];omega));rw[js,Pl (show V<1000000000^(p+3)from Nat.lt_of_lt_of_le a8 (by rw[←ag];exact aF (by omega) (by omega))),ao]at this;exact this
 have eU:raw (pad (al.length+1) (A*s))++[[D.int .u32 (0:Int)]]=raw af:=by rw[←a4,qV];rfl
 have aj:A*s/V=A/B:=by rw[hV];exact Nat.mul_div_mul_right _ _ (by omega)
 have ad:A*s%V=A%B*s:=by rw[hV];exact Nat.mul_mod_mul_right _ _ _
 refine⟨pad m (A/B),pad (lim (A%B*s)).length (A%B),qg (anns:=Ft (I0v (p+2) m V (A*s)) M0v (I1v (p+2) v1 V) M1v) mixedT Tryz.func233 ?_,xH _ _,xH _ _,?_,?_,by rw[xc];omega,?_⟩
 ·show wpF (CM zp jA) _ _ _ _ _;unfold Ft;rw[Zy];refine⟨_,ta,_,tb,?_⟩;have wn1:Dd .i64 (((p+2:Nat):Int)-1)=((p+1:Nat):Int):=by rw[qK (by omega) (by omega)];omega
  have wn2:Dd .i64 (((p+2:Nat):Int)-2)=(p:Int):=by rw[qK (by omega) (by omega)];omega
  simp only[F2,qh,hn,wn1,wn2,F0];refine brb (fun h=>?_) (fun _=>⟨_,up (jM lA lB (by omega) (by omega)),brd (fun h2=>?_) (fun _=>?_)⟩)
  ·simp only[beq_iff_eq]at h;omega
  ·rw[Q9,vA,vB,if_neg (by omega)]at h2;split at h2<;>omega
  refine⟨⟨by omega,by omega,qt ak⟩,_,qw ak,?_⟩;rw[an];simp only[hsc,mkA,mkB,eU,qh,bd];have wm:Dd .i64 (((al.length+2:Nat):Int)-((p+2:Nat):Int))=(m:Int):=by rw[qK (by omega) (by omega)];omega
  have wm1:Dd .i64 ((m:Int)-1)=(m:Int)-1:=qK (by omega) (by omega);simp only[wm,wm1,F0,xc];refine⟨?_,ar,⟨by unfold room;omega,zL [0]⟩,au,_,tv,⟨by omega,by omega,by unfold room;omega⟩,⟨m,af,M2 m 0,by rw[xe],a1⟩,?_⟩
  ·rw[x9 (n:=(d:Int)) (by omega) (by omega),x9 (by omega) (by omega)];omega
  rintro es_3 es_4 n_1 ⟨kk,ul,ql,he,hD⟩;simp only[List.cons.injEq,D.sl.injEq,D.int.injEq,true_and,and_true]at he;obtain⟨rfl,rfl,rfl⟩:=he;have bo:=hD.lu;have hkm:=hD.hk;refine brd (fun h=>?_) (fun h=>?_)
  ·obtain⟨k,rfl⟩:∃k,kk=k+1:=⟨kk-1,by omega⟩;rw[show((k+1:Nat):Int)-1=(k:Int)by omega];have W0:Dd .i64 ((k:Int)+((p+2:Nat):Int))=((k+p+2:Nat):Int):=by rw[qK (by omega) (by omega)];omega
   have W1:Dd .i64 (((k+p+2:Nat):Int)-1)=((k+p+1:Nat):Int):=by rw[qK (by omega) (by omega)];omega
   have W2:Dd .i64 (((k+p+2:Nat):Int)-2)=((k+p:Nat):Int):=by rw[qK (by omega) (by omega)];omega
   simp only[W0,W1,W2,F0,qh,bo,lv];have hVn:V<1000000000^(p+2):=by rw[ag];exact a8
   obtain⟨a7,_⟩:=hD.mid hVn a3;have hlm:((ul.drop k).take (p+2+1)).length=p+3:=by rw[Hv,I2];omega
   have Lm:Limbs ((ul.drop k).take (p+2+1)):=(hD.Lu.drop k).take _;obtain⟨t3,b8⟩:∃t,ul[k+p+2]=t:=⟨_,rfl⟩;obtain⟨t2,b6⟩:∃t,ul[k+p+1]=t:=⟨_,rfl⟩;obtain⟨t0,b5⟩:∃t,ul[k+p]=t:=⟨_,rfl⟩;have ht3B:t3<1000000000:=b8▸hD.Lu.get _;have b7:t2<1000000000:=b6▸hD.Lu.get _;have ht0B:t0<1000000000:=b5▸hD.Lu.get _;obtain⟨U,hU⟩:∃U,val ((ul.drop k).take (p+2+1))=U:=⟨_,rfl⟩;rw[hU]at a7;have a6:=val3 (u:=(ul.drop k).take (p+2+1)) (p:=p);rw[Hx (by omega),Wx (by omega),Wx (by omega),Wx (by omega),xu (by omega),xu (by omega),xu (by omega)]at a6;simp only[←Nat.add_assoc,b8,b6,b5]at a6;rw[hU]at a6;have ax:val (((ul.drop k).take (p+2+1)).take p)<1000000000^p:=by have:=qO (Lm.take p);rw[Hv,hlm,U3 (by omega)]at this;exact this
   obtain⟨a0,b9⟩:∃a0,t3*1000000000+t2=a0:=⟨_,rfl⟩;have aw:U=(t3*1000000000+t2)*P1+(t0*1000000000^p+val (((ul.drop k).take (p+2+1)).take p)):=by rw[a6,←a2,aC];grind
   have ah:t0*1000000000^p+val (((ul.drop k).take (p+2+1)).take p)<P1:=by have:(t0+1)*1000000000^p≤1000000000*1000000000^p:=T1 _ (by omega);rw[aP,aM]at this;rw[←a2,aC];omega
   obtain⟨b2,b3,hg3⟩:=Ht bh hVb ba aw ah b7 a7 a3;rw[b9]at b2 b3 a6;have bg:Dd .u64 (Dd .u64 (Dd .u64 (t3:Int)*1000000000)+Dd .u64 (t2:Int))=(a0:Int):=by rw[x9 (n:=(t3:Int)) (by omega) (by omega),x9 (n:=(t3:Int)*1000000000) (by omega) (by omega),x9 (n:=(t2:Int)) (by omega) (by omega),x9 (by omega) (by omega)];omega
   have aq:Dd .u64 (v1:Int)=(v1:Int):=x9 (by omega) (by omega);have wv2:Dd .u64 (v2:Int)=(v2:Int):=x9 (by omega) (by omega);have wt0:Dd .u64 (t0:Int)=(t0:Int):=x9 (by omega) (by omega);have bi:=Nat.div_add_mod a0 v1;have hml:=aE a0 (show 0<v1 by omega);have a5:Hu (a0:Int) (v1:Int)=((a0/v1:Nat):Int):=by rw[Gv (by omega)];rfl
   have am:Int.tmod (a0:Int) (v1:Int)=((a0%v1:Nat):Int):=by rw[Int.tmod_eq_emod_of_nonneg (by omega)];rfl
   obtain⟨g0,hg0⟩:∃g0,a0/v1=g0:=⟨_,rfl⟩;obtain⟨r0,hr0⟩:∃r0,a0%v1=r0:=⟨_,rfl⟩;rw[hg0]at b2 b3 bi a5;rw[hr0]at bi hml am;have bf:Dd .u64 (Hu (a0:Int) (v1:Int))=(g0:Int):=by rw[a5,x9 (by omega) (by omega)]
   have b4:Ia (raw ul) k (p+2)=U:=by rw[RV,hU]
   refine⟨⟨by omega,by omega⟩,_,qw (by omega),⟨by omega,by omega⟩,_,qw (by omega),⟨by omega,by omega,qt (by omega)⟩,_,qw (by omega),?_⟩;rw[b8,b6,ae];refine⟨by rw[aq];omega,⟨by omega,by omega,qt (by omega)⟩,_,qw (by omega),?_⟩;rw[ae,bg,aq,bf,am];refine⟨by omega,⟨a0,k,raw ul,g0,r0,rfl,rfl,by rw[Ts];omega,by rw[b4];exact b2,b3,by omega⟩,?_⟩;rintro n_5 n_6 ⟨be,k',es',g,r,bk,bm,bn,bp,hgB,hrB⟩;simp only[List.cons.injEq,D.int.injEq,D.sl.injEq,true_and,and_true]at bk bm;obtain⟨e1,e2,rfl⟩:=bk;obtain⟨rfl,rfl⟩:=bm;obtain rfl:a0=be:=by omega
   obtain rfl:k=k':=by omega
   rw[b4]at bp;have ai:∀g' r',a0=g'*v1+r'→U/V≤g'→g'≤1000000000→g'*v2≤r'*1000000000+t0→Xs (I0v (p+2) m V (A*s)) M0v (raw bl) (raw vl) (raw ul) (raw ql) (k:Int) (g':Int):=fun g' r' h1 h2 h3 h4=>
    RW (by omega) hn lv Lv vV hD (by omega) a3 (by rw[hU];exact h2) h3 (by rw[hU];exact Mm ay a6 bc h1 h4 h3 (by omega))
   have bj:U/V<g→br (toB (D.bool (decide (Dd .u64 ((r:Int)+(v1:Int))≥1000000000))))
    (Xs (I0v (p+2) m V (A*s)) M0v (raw bl) (raw vl) (raw ul) (raw ql) (k:Int) (Dd .u64 ((g:Int)-1)))
    (I1v (p+2) v1 V [.int .u64 (a0:Int),.int .i64 (k:Int),.sl (raw ul)] [.int .u64 (Dd .u64 ((g:Int)-1)),.int .u64 (Dd .u64 ((r:Int)+(v1:Int)))]∧
     M1v [.int .u64 (Dd .u64 ((g:Int)-1)),.int .u64 (Dd .u64 ((r:Int)+(v1:Int)))]<M1v [.int .u64 (g:Int),.int .u64 (r:Int)]):=by
    intro a9;have hgp:1≤g:=aB (Nat.zero_le _) a9;have wg:Dd .u64 ((g:Int)-1)=((g-1:Nat):Int):=by rw[x9 (by omega) (by omega)];omega
    have wr:Dd .u64 ((r:Int)+(v1:Int))=((r+v1:Nat):Int):=by rw[x9 (by omega) (by omega)];omega
    have bs:a0=(g-1)*v1+(r+v1):=by
     have:g*v1=(g-1)*v1+v1:=by
      conv=>lhs;rw[show g=(g-1)+1 by omega]
      rw[aP,aM]
     omega
    rw[wg,wr];refine brd (fun h3=>?_) (fun h3=>?_)
    ·refine ai (g-1) (r+v1) bs (aG a9) (by omega) ?_;have h5:(g-1)*v2≤1000000000*1000000000:=aJ (by omega) (by omega);have h6:1000000000*1000000000≤(r+v1)*1000000000:=T1 _ (by omega);omega
    ·exact⟨⟨a0,k,raw ul,g-1,r+v1,rfl,rfl,bs,by rw[b4];exact aG a9,by omega,by omega⟩,by simp only[M1v,nth,toI,F0];omega⟩
   have hqB:U/V<1000000000:=by rw[aA a3,Ts];exact a7
   refine brd (fun h3=>?_) (fun h3=>?_)
   ·refine⟨⟨by omega,by omega,qt (by omega)⟩,_,qw (by omega),?_⟩;rw[ae,aq];exact bj (by omega)
   ·refine⟨⟨by omega,by omega,qt (by omega)⟩,_,qw (by omega),⟨by omega,by omega⟩,_,qw (by omega),?_⟩;rw[bb,b5,wv2,wt0];have hgv:g*v2≤1000000000*1000000000:=aJ (by omega) (by omega);have wgv:Dd .u64 ((g:Int)*(v2:Int))=((g*v2:Nat):Int):=by have e:(g:Int)*(v2:Int)=((g*v2:Nat):Int):=(Int.natCast_mul ..).symm;rw[e,x9 (by omega) (by omega)]
    have wrt:Dd .u64 (Dd .u64 ((r:Int)*1000000000)+(t0:Int))=((r*1000000000+t0:Nat):Int):=by rw[x9 (n:=(r:Int)*1000000000) (by omega) (by omega),x9 (by omega) (by omega)];omega
    rw[wgv,wrt];refine brd (fun h4=>?_) (fun h4=>?_)
    ·refine⟨⟨by omega,by omega,qt (by omega)⟩,_,qw (by omega),?_⟩;rw[ae,aq];exact bj (Ml ay a6 ax bn (by omega) a3)
    ·exact ai g r bn bp (by omega) (by omega)
  ·have hk0:kk=0:=by omega
   subst hk0;have a9:=hD.hlt;have b1:=hD.heq;simp only[Nat.pow_zero,aN,No]at a9 b1;have ap:val ul=A*s%V:=by rw[b1,Ts,Nat.mul_add_mod,Pl a9]
   have bu:val ql=A/B:=by rw[←aj,b1,Ts,Nat.mul_add_div a3,aI a9,aL]
   have htk:val (ul.take (p+2))=A%B*s:=by
    rw[←ad,←ap];have h1:val ul=val (ul.take (p+2))+1000000000^(p+2)*val (ul.drop (p+2)):=by
     conv=>lhs;rw[←List.take_append_drop (p+2) ul]
     rw[qS,Hv,U3 (by omega)]
    rcases aH (val (ul.drop (p+2)))with h0|h0
    ·rw[h0]at h1;omega
    ·exfalso;have h2:1000000000^(p+2)≤1000000000^(p+2)*val (ul.drop (p+2)):=Nat.le_mul_of_pos_right _ h0;rw[ag]at h2 h1;omega
   have hlul:(lim (A%B*s)).length≤p+2:=by rw[←ad];refine qq ?_;have:=aE (A*s) a3;rw[ag];omega
   have g1:=up (vD (hD.Lu.take (p+2)) (by rw[Hv];omega));rw[htk]at g1;have g2:=up (KN (qe (A%B*s)) (d:=s) (by omega) bq (by omega));rw[qj,Nat.mul_div_cancel _ (show 0<s by omega)]at g2;simp only[No,j6,qh,bo];refine⟨⟨by omega,by omega,by omega,zL _⟩,_,g1,_,_,g2,?_⟩;have:ql=pad m (A/B):=by refine H7 hD.Lq (xH _ _) (by rw[xc];exact hD.lq) ?_;have h1:=qO hD.Lq;rw[hD.lq,bu]at h1;rw[js,Pl h1,bu]
   rw[this]
 ·rw[js,Pl];rw[←aj,aA a3];have h1:=a1.hlt;have h2:=a1.heq;rw[Hy (by simp)]at h2;simp only[val,Nat.zero_mul,Nat.zero_add]at h2;rw[←h2]at h1;rw[Ts (1000000000^m)];exact h1
 ·rw[js,Pl];have h1:=qO (qe (A%B*s));rw[qj]at h1;have:A%B*1≤A%B*s:=V1 _ hs2;omega
 ·rw[xc,←ad];have:(lim (A*s%V)).length≤p+2:=by refine qq ?_;have:=aE (A*s) a3;rw[ag];omega
  omega
theorem XC:V8:=by
 intro a b la lb hb0 ra rb;have ta:=up (vD la (by omega));have tb:=up (vD lb (by omega));have nA:(lim (val a)).length≤a.length:=qq (qO la);have nB:(lim (val b)).length≤b.length:=qq (qO lb);have a0:lim (val b)≠[]:=by rw[ne_eq,vh];exact hb0
 have hpos:0<(lim (val b)).length:=List.length_pos_iff.2 a0;by_cases h1:(lim (val b)).length=1
 ·obtain⟨d,hd⟩:=List.length_eq_one_iff.1 h1;have hv:val b=d:=by rw[←qj (val b),hd];simp[val]
  rw[hd]at tb;have hd1:d<1000000000:=(qe (val b)) d (by rw[hd];simp);refine⟨_,_,NR ta tb (qe _) (by omega) (by omega) hd1,xH _ _,Bx ?_ Aw,?_,?_,by rw[xc];omega,by simp⟩
  ·have:=aE (val (lim (val a))) (show 0<d by omega);omega
  ·rw[js,qj,hv,Pl];have h2:=qO (qe (val a));rw[qj]at h2;exact aB (Nat.div_le_self _ _) h2
  ·rw[qj,hv];simp[val]
 ·by_cases h2:val a<val b
  ·refine⟨_,_,RX ta tb (qe _) (qe _) (by omega) (by omega) (by omega) (by rw[qj,qj];exact h2),Aw,qe _,?_,?_,by simp,by omega⟩
   ·rw[aI h2];rfl
   ·rw[Pl h2,qj]
  ·exact NS (p:=(lim (val b)).length-2) ta tb (qe _) (qe _) (by omega) (by omega) (qj _) (qj _) ((zr _).resolve_left a0) (by omega) (by rw[qj,qj];omega)
end Eng
end
