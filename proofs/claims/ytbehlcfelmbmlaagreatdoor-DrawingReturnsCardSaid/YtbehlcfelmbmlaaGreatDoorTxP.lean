/- Decimal digits of numbers, and the text of a length in millimetres: plain laws. -/
import Derived.Test.YtbehlcfelmbmlaaGreatDoorRatA
import Derived.Lib.ItoaNum
open Bool renaming and_eq_true→Aw, not_eq_true'→Bx, or_eq_true→Dd
open Go.Lib renaming decDigits→F0, nDigits→F2, decDigits_length→Gv
open List renaming length_cons→Hu, all_cons→Hv, cons_append→Hx, length_append→Hy, all_eq_true→I0, drop_append_of_le_length→I1, nil_append→I2, isEmpty_iff→J3, length_nil→J4, replicate→J6
open List.cons renaming injEq→J7
open Nat renaming pow_le_pow_right→J9, pow_succ→Lm, mul_comm→Lr, pow_zero→Ls, pow_pos→Lv, lt_of_lt_of_le→M0, add_comm→M1, mod_eq_of_lt→M2, div_eq_of_lt→No, mod_mul_right_div_self→Pl, mod_lt→P1, div_div_eq_div_mul→Ts, mod_mul_right_mod→T1, le_div_iff_mul_le→U0, div_lt_iff_lt_mul→U3, pow_add→V1, mul_one→W0, mul_le_mul_right→W1, add_assoc→W2, zero_add→ad
open UInt8 renaming ofNat→ae, toNat_ofNat'→af, toNat_inj→ah
section
namespace Eng
open Go
def xq:Nat→Nat→List UInt8
 |0,_=>[]
 |n+1,v=>xq n (v/10)++[ae (48+v%10)]
theorem qN:∀(n v:Nat),(xq n v).length=n
 |0,_=>rfl
 |n+1,v=>by simp[xq,qN n]
theorem zo:∀(n v:Nat),xq (n+1) v=ae (48+v/10^n%10)::xq n v
 |0,v=>by simp[xq]
 |n+1,v=>by rw[xq,zo n (v/10),xq];rw[Ts,Lm,Lr 10];rfl
theorem jR:∀(n m v:Nat),xq (m+n) v=xq m (v/10^n)++xq n v
 |0,m,v=>by simp[xq]
 |n+1,m,v=>by rw[←W2,xq,xq,jR n m (v/10),Ts,Lm,Lr 10,List.append_assoc]
theorem vL:∀(n v w:Nat),v%10^n=w%10^n→xq n v=xq n w
 |0,_,_,_=>rfl
 |n+1,v,w,h=>by
  rw[xq,xq];have h1:v%10=w%10:=by have a:=T1 v 10 (10^n);have b:=T1 w 10 (10^n);rw[Lm,Lr]at h;rw[←a,←b,h]
  have h2:v/10%10^n=w/10%10^n:=by rw[Lm,Lr]at h;have a:=Pl v 10 (10^n);have b:=Pl w 10 (10^n);rw[←a,←b,h]
  rw[vL n _ _ h2,h1]
theorem Rl (n:Nat):xq n 0=J6 n 48:=by
 induction n with
 |zero=>rfl
 |succ n ih=>rw[zo,ih,Nat.zero_div];rfl
theorem Vu (n m v:Nat) (h:v<10^n):xq (m+n) v=J6 m 48++xq n v:=by
 rw[jR,No h,Rl]
theorem xy (u:Nat):0<F2 u:=by
 rw[F2];split<;>omega
theorem qZ (u:Nat):F0 u=xq (F2 u) u:=by
 induction u using Nat.strongRecOn with
 |_ u ih=>
  rw[F0,F2];by_cases h:u<10
  ·rw[dif_pos h,dif_pos h];simp only[xq,I2];rw[M2 h]
  ·rw[dif_neg h,dif_neg h,xq,ih (u/10) (by omega)]
theorem qR:∀(n u:Nat),F2 u≤n+1↔u<10^(n+1)
 |0,u=>by
  rw[F2];by_cases h:u<10
  ·rw[dif_pos h];simp;omega
  ·rw[dif_neg h];have:=xy (u/10);simp;omega
 |n+1,u=>by
  rw[F2];by_cases h:u<10
  ·rw[dif_pos h];have:10^1≤10^(n+1+1):=J9 (by omega) (by omega);constructor
   ·intro _;omega
   ·intro _;omega
  ·rw[dif_neg h];have:=qR n (u/10);rw[Lm 10 (n+1)];rw[U3 (by omega)]at this;omega
theorem MA {u n:Nat} (h1:10^n≤u) (h2:u<10^(n+1)):F2 u=n+1:=by
 have a:=(qR n u).2 h2;cases n with
 |zero=>have:=xy u;omega
 |succ n=>
  have b:=qR n u;have:¬u<10^(n+1):=by omega
  omega
theorem jb {u n:Nat} (h1:10^n≤u) (h2:u<10^(n+1)):xq (n+1) u=F0 u:=by
 rw[qZ,MA h1 h2]
theorem zh {u n:Nat} (h:u<10^(n+1)):(F0 u).length≤n+1:=by
 rw[Gv];exact(qR n u).2 h
def w7 (c:UInt8):List UInt8→List UInt8
 |[]=>[]
 |a::r=>match w7 c r with
  |[]=>match a==c with
   |true=>[]
   |false=>[a]
  |b::s=>a::b::s
theorem vM (c a:UInt8):∀(l:List UInt8),w7 c (l++[a])=if a=c then w7 c l else l++[a]
 |[]=>by
  simp only[I2,w7];by_cases h:a=c
  ·subst h;simp
  ·have:(a==c)=false:=by simpa using h
   rw[this,if_neg h]
 |b::l=>by
  rw[Hx,w7,vM c a l];by_cases h:a=c
  ·rw[if_pos h,if_pos h,w7]
  ·rw[if_neg h,if_neg h];cases l<;>rfl
theorem JG (c:UInt8):∀(l:List UInt8),(w7 c l).length≤l.length
 |[]=>by simp[w7]
 |a::r=>by
  have:=JG c r;rw[w7];split
  ·split<;>simp
  ·rename_i h;rw[h]at this;simp at this ⊢;omega
def mmU (u:Nat):List UInt8:=F0 (u/1000)++(match decide (u%1000=0)with|true=>[]|false=>46::w7 48 (xq 3 u))
def mm (n:Int):List UInt8:=(match decide (n<0)with|true=>[45]|false=>[])++mmU n.natAbs
theorem Rm {n:Int} (h:n.natAbs<10^23):(mm n).length≤25:=by
 have h1:(F0 (n.natAbs/1000)).length≤20:=zh (n:=19) (by omega);have h2:=JG 48 (xq 3 n.natAbs);rw[qN]at h2;unfold mm mmU;split<;>split<;>simp only[Hy,Hu,J4]<;>omega
theorem BJ {r:Nat} (h:r<1000):(F0 (1000+r)).drop 1=xq 3 r:=by
 rw[←jb (n:=3) (by omega) (by omega),zo];rw[List.drop_succ_cons,List.drop_zero];exact vL 3 _ _ (by omega)
def qY (u k:Nat):List UInt8:=match k with
 |0=>F0 u
 |k+1=>F0 (u/10^(k+1))++46::xq (k+1) u
theorem BK {v:Nat} (h:v%10≠0):ae (48+v%10)≠48:=by
 have:v%10<10:=P1 _ (by omega);intro e;have:=congrArg UInt8.toNat e;simp[af]at this;omega
theorem kL (n v:Nat):w7 48 (xq (n+1) v)=if v%10=0 then w7 48 (xq n (v/10))else xq (n+1) v:=by
 rw[xq,vM];by_cases h:v%10=0
 ·rw[if_pos h,if_pos (by rw[h];rfl)]
 ·rw[if_neg h,if_neg (BK h)]
theorem JH (u k:Nat) (h1:u*10^k%1000=0) (h2:∀j,j<k→u*10^j%1000≠0) (hk:k≤3):mmU u=qY (u*10^k/1000) k:=by
 unfold mmU;rcases k with _|_|_|_|k
 ·have:u%1000=0:=by simpa using h1
  rw[decide_eq_true this];simp[qY]
 ·have h0:=h2 0 (by omega);simp only[Ls,W0]at h0;rw[decide_eq_false h0];have e1:u*10^1/1000=u/100:=by omega
  rw[e1];simp only[qY];rw[kL,if_pos (by omega),kL,if_pos (by omega),kL,if_neg (by omega)];have:u/10/10=u/100:=by omega
  rw[this];have:u/100/10^(0+1)=u/1000:=by omega
  rw[this]
 ·have h0:=h2 0 (by omega);have h3:=h2 1 (by omega);simp only[Ls,W0]at h0;rw[decide_eq_false h0];have e1:u*10^2/1000=u/10:=by omega
  rw[e1];simp only[qY];rw[kL,if_pos (by omega),kL,if_neg (by omega)];have:u/10/10^(0+1+1)=u/1000:=by omega
  rw[this]
 ·have h0:=h2 0 (by omega);have h3:=h2 1 (by omega);have h4:=h2 2 (by omega);simp only[Ls,W0]at h0;rw[decide_eq_false h0];have e1:u*10^3/1000=u:=by omega
  rw[e1];simp only[qY];rw[kL,if_neg (by omega)]
 ·omega
theorem Tt (u:Nat):∃k,k≤3∧u*10^k%1000=0∧∀j,j<k→u*10^j%1000≠0:=by
 by_cases h0:u%1000=0
 ·exact⟨0,by omega,by omega,fun j hj=>by omega⟩
 ·by_cases h1:u*10%1000=0
  ·refine⟨1,by omega,by omega,fun j hj=>?_⟩;obtain rfl:j=0:=by omega
   simpa using h0
  ·by_cases h2:u*100%1000=0
   ·refine⟨2,by omega,by omega,fun j hj=>?_⟩;rcases(by omega:j=0∨j=1)with rfl|rfl
    ·simpa using h0
    ·simpa using h1
   ·refine⟨3,by omega,by omega,fun j hj=>?_⟩;rcases(by omega:j=0∨j=1∨j=2)with rfl|rfl|rfl
    ·simpa using h0
    ·simpa using h1
    ·simpa using h2
theorem Gg {u k L:Nat} (h2:L=max (F2 u) (k+1)):(xq L u).take (L-k)++46::(xq L u).drop (L-k)=F0 (u/10^k)++46::xq k u:=by
 have hL:L=(L-k)+k:=by omega
 have e:=jR k (L-k) u;rw[←hL]at e;rw[e];have hl:(xq (L-k) (u/10^k)).length=L-k:=qN _ _;have ht:((xq (L-k) (u/10^k))++xq k u).take (L-k)=xq (L-k) (u/10^k):=by rw[List.take_append_of_le_length (by omega),List.take_of_length_le (by omega)]
 have hd:((xq (L-k) (u/10^k))++xq k u).drop (L-k)=xq k u:=by rw[I1 (by omega),List.drop_of_length_le (by omega),I2]
 rw[ht,hd];congr 1;by_cases hu:u<10^k
 ·rw[No hu];have hn:F2 u≤k+1:=(qR k u).2 (M0 hu (J9 (by omega) (by omega)));have:L-k=1:=by omega
  rw[this];rw[Lib.decDigits_one (by omega)];rfl
 ·have a0:10^k≤u:=Nat.le_of_not_lt hu;have hq:1≤u/10^k:=by rw[U0 (Lv (by omega)),Nat.one_mul];exact a0
  --the number of digits of the quotient
  obtain⟨n,hn⟩:∃n,F2 u=n+1:=⟨F2 u-1,by have:=xy u;omega⟩;have hup:u<10^(n+1):=(qR n u).1 (by omega);have hlo:10^n≤u:=by
   cases n with
   |zero=>rw[Ls];exact Nat.le_trans (Lv (by omega)) a0
   |succ n=>have:=qR n u;omega
  have hkn:k≤n:=by
   rcases Nat.lt_or_ge n k with h|h
   ·have:10^(n+1)≤10^k:=J9 (by omega) (by omega);omega
   ·exact h
  have hLk:L-k=(n-k)+1:=by omega
  rw[hLk];refine jb ?_ ?_
  ·rw[U0 (Lv (by omega)),←V1];rw[show n-k+k=n by omega];exact hlo
  ·rw[U3 (Lv (by omega)),←V1];rw[show n-k+1+k=n+1 by omega];exact hup
end Eng
end

section
namespace Eng
open Go
def isD (c:UInt8):Bool:=decide (48≤c.toNat)&&decide (c.toNat≤57)
def dv (c:UInt8):Nat:=c.toNat-48
theorem jc {c:UInt8}:isD c=true↔48≤c.toNat∧c.toNat≤57:=by
 simp[isD]
theorem BL {c:UInt8} (h:isD c=true):dv c<10:=by
 have:=jc.1 h;unfold dv;omega
def xw:List UInt8→Nat
 |[]=>0
 |c::s=>dv c*10^s.length+xw s
theorem Xn:∀{s:List UInt8},s.all isD=true→xw s<10^s.length
 |[],_=>by simp[xw]
 |c::s,h=>by simp only[Hv,Aw]at h;have h1:=Xn h.2;have h2:=BL h.1;simp only[xw,Hu,Lm];have:dv c*10^s.length≤9*10^s.length:=W1 _ (by omega);omega
theorem jS:∀(a b:List UInt8),xw (a++b)=xw a*10^b.length+xw b
 |[],b=>by simp[xw]
 |c::a,b=>by simp only[Hx,xw,jS a b,Hy,V1,Nat.add_mul,Nat.mul_assoc,W2]
theorem BM (c:UInt8):xw [c]=dv c:=by simp[xw]
theorem Rn (a:List UInt8) (c:UInt8):xw (a++[c])=10*xw a+dv c:=by
 rw[jS,BM];simp only[Hu,J4];omega
theorem Q5 {v:Nat} (h:v<10):(ae (48+v)).toNat=48+v:=by
 simp[af];omega
theorem Q6:∀(n v:Nat),(xq n v).all isD=true
 |0,_=>rfl
 |n+1,v=>by rw[zo,Hv,Q6 n v,Bool.and_true,jc,Q5 (P1 _ (by omega))];have:=P1 (v/10^n) (show 10>0 by omega);omega
theorem JI:∀(n v:Nat),xw (xq n v)=v%10^n
 |0,v=>by simp[xq,xw,Nat.mod_one]
 |n+1,v=>by rw[zo,xw,JI n v,qN,dv,Q5 (P1 _ (by omega))];rw[Lm,Nat.mod_mul,Nat.add_sub_cancel_left,Lr,M1]
theorem Gh:∀{s:List UInt8},s.all isD=true→xq s.length (xw s)=s
 |[],_=>rfl
 |c::s,h=>by
  simp only[Hv,Aw]at h;have h1:=Xn h.2;have h2:=BL h.1;have h3:=jc.1 h.1;rw[Hu,zo,xw];have e1:(dv c*10^s.length+xw s)/10^s.length=dv c:=by rw[M1,Nat.add_mul_div_right _ _ (Lv (by omega)),No h1,ad]
  rw[e1,M2 h2];have e2:xq s.length (dv c*10^s.length+xw s)=xq s.length (xw s):=vL _ _ _ (by
   rw[M1,Nat.add_mul_mod_self_right])
  rw[e2,Gh h.2];congr 1;apply ah.1;rw[Q5 h2];unfold dv;omega
theorem Xo (u:Nat):u<10^F2 u:=by
 obtain⟨n,hn⟩:∃n,F2 u=n+1:=⟨F2 u-1,by have:=xy u;omega⟩;rw[hn];exact(qR n u).1 (by omega)
theorem jx (u:Nat):(F0 u).all isD=true:=by rw[qZ];exact Q6 _ _
theorem w8 (u:Nat):xw (F0 u)=u:=by
 rw[qZ,JI];exact M2 (Xo u)
theorem kM (u:Nat):F0 u≠[]:=fun e=>by
 have:=congrArg List.length e;rw[Gv]at this;have:=xy u;simp at *;omega
theorem dec_0:F0 0=[48]:=by rw[F0];rfl
theorem y8 {c:UInt8} {s:List UInt8} (h:(c::s).all isD=true) (h0:c=48→s=[]):c::s=F0 (xw (c::s)):=by
 have h1:=Xn h;by_cases hc:c=48
 ·have:=h0 hc;subst this hc;exact dec_0.symm
 ·have h2:isD c=true:=by simp only[Hv,Aw]at h;exact h.1
  have h3:=jc.1 h2;have h4:c.toNat≠48:=fun e=>hc (ah.1 e)
  have h5:10^s.length≤xw (c::s):=by simp only[xw];have:1*10^s.length≤dv c*10^s.length:=W1 _ (by unfold dv;omega);omega
  rw[Hu]at h1;have:=Gh h;rw[Hu]at this;rw[←jb h5 h1,this]
theorem Q7 {u:Nat} {s:List UInt8} (h:F0 u=48::s):s=[]∧u=0:=by
 by_cases h0:u=0
 ·subst h0;rw[dec_0]at h;simp only[J7,true_and]at h;exact⟨h.symm,rfl⟩
 ·exfalso;have h1:=w8 u;obtain⟨n,hn⟩:∃n,F2 u=n+1:=⟨F2 u-1,by have:=xy u;omega⟩;have h2:¬u<10^n:=fun hlt=>by
   rcases n with _|n
   ·rw[Ls]at hlt;omega
   ·have:=(qR n u).2 hlt;omega
  have h3:=Gv u;rw[h,hn,Hu]at h3;have h4:=jx u;rw[h]at h1 h4;simp only[Hv,Aw]at h4;have h5:=Xn h4.2;have h6:dv 48=0:=rfl;have h7:s.length=n:=by omega
  simp only[xw,h6,Nat.zero_mul,ad]at h1;rw[h7]at h5;omega
def sgT (z:Int):List UInt8:=match decide (z<0)with|true=>[45]|false=>[]
def z8 (z:Int):List UInt8:=sgT z++F0 z.natAbs
theorem zO {z:Int} (h:0≤z):z8 z=F0 z.natAbs:=by
 unfold z8 sgT;rw[decide_eq_false (by omega)];rfl
theorem vm {z:Int} (h:z<0):z8 z=45::F0 z.natAbs:=by
 unfold z8 sgT;rw[decide_eq_true h];rfl
def zP (neg:Bool):List UInt8→Bool
 |[]=>false
 |c::s=>(c::s).all isD&&(decide (c≠48)||(s.isEmpty&&!neg))
def Ro:List UInt8→Option Int
 |[]=>none
 |c::s=>if c=45 then(if zP true s then some (-(xw s:Int))else none)
  else if zP false (c::s)then some (xw (c::s):Int)else none
theorem Q8 (c:UInt8) (s:List UInt8):Ro (c::s)=if c=45 then(if zP true s then some (-(xw s:Int))else none)
 else if zP false (c::s)then some (xw (c::s):Int)else none:=rfl
theorem Wi {neg:Bool} {s:List UInt8} (h:zP neg s=true):s=F0 (xw s)∧(neg=true→xw s≠0):=by
 match s,h with
 |c::s,h=>
  simp only[zP,Aw,Dd,decide_eq_true_eq,J3,Bx]at h;refine⟨y8 h.1 fun e=>?_,fun hn h0=>?_⟩
  ·rcases h.2 with h|h
   ·exact absurd e h
   ·exact h.1
  ·have h1:=y8 h.1 fun e=>by
    rcases h.2 with h|h
    ·exact absurd e h
    ·exact h.1
   rw[h0]at h1;rw[dec_0]at h1;simp only[J7]at h1;rcases h.2 with h|h
   ·exact h h1.1
   ·rw[hn]at h;simp at h
theorem Gi {neg:Bool} {u:Nat} (h:neg=true→u≠0):zP neg (F0 u)=true:=by
 have h1:=jx u;have h2:=kM u;have h3:=fun s=> @Q7 u s
 generalize F0 u=s at *
 match s,h2 with
 |c::s,_=>
  simp only[zP,Aw,Dd,decide_eq_true_eq,J3,Bx];refine⟨h1,?_⟩;by_cases hc:c=48
  ·subst hc;obtain⟨h4,h5⟩:=h3 s rfl;right;refine⟨h4,?_⟩;cases neg
   ·rfl
   ·exact absurd h5 (h rfl)
  ·exact .inl hc
theorem jT {u:Nat} {c:UInt8} {s:List UInt8} (h:F0 u=c::s):isD c=true:=by
 have:=jx u;rw[h,Hv,Aw]at this;exact this.1
theorem Vv (z:Int):Ro (z8 z)=some z:=by
 by_cases h:z<0
 ·rw[vm h];rw[Q8,if_pos rfl,if_pos (Gi fun _=>by omega),w8];congr 1;omega
 ·rw[zO (by omega)];have h1:=Gi (neg:=false) (u:=z.natAbs) (by simp);have h2:=w8 z.natAbs;have h3:=fun c s=> @jT z.natAbs c s
  have h4:=kM z.natAbs;generalize F0 z.natAbs=s at *
  match s,h4 with
  |c::s,_=>have h5:=jc.1 (h3 c s rfl);rw[Q8,if_neg (fun e=>by rw[e]at h5;revert h5;decide),if_pos h1,h2];congr 1;omega
theorem Rp {s:List UInt8} {z:Int} (h:Ro s=some z):s=z8 z:=by
 match s,h with
 |c::s,h=>
  rw[Q8]at h;by_cases hc:c=45
  ·rw[if_pos hc]at h;by_cases hb:zP true s=true
   ·rw[if_pos hb]at h;obtain⟨h1,h2⟩:=Wi hb;have h3:=h2 rfl;obtain rfl:=Option.some.inj h;rw[vm (by omega),hc];congr 1;rw[show(-(xw s:Int)).natAbs=xw s by omega];exact h1
   ·rw[if_neg hb]at h;simp at h
  ·rw[if_neg hc]at h;by_cases hb:zP false (c::s)=true
   ·rw[if_pos hb]at h;obtain⟨h1,_⟩:=Wi hb;obtain rfl:=Option.some.inj h;rw[zO (by omega),Int.natAbs_natCast];exact h1
   ·rw[if_neg hb]at h;simp at h
theorem Vw {s:List UInt8} (h:s.all isD=true) {n:Nat} (hn:s.length≤n):xw s<10^n:=M0 (Xn h) (J9 (by omega) hn)
theorem Fi {s:List UInt8} {z:Int} (h:Ro s=some z):z.natAbs<10^s.length:=by
 have h1:=Rp h;have h2:=w8 z.natAbs;have h3:=Xn (jx z.natAbs);rw[h2]at h3;refine M0 h3 (J9 (by omega) ?_);rw[h1];unfold z8;rw[Hy];omega
def qB (c:UInt8):List UInt8→List UInt8×Option (List UInt8)
 |[]=>([],none)
 |a::s=>if a=c then([],some s)else(a::(qB c s).1,(qB c s).2)
theorem Xp {c:UInt8}:∀{s:List UInt8},(∀a∈s,a≠c)→qB c s=(s,none)
 |[],_=>rfl
 |a::s,h=>by rw[qB,if_neg (h a (by simp)),Xp fun b hb=>h b (by simp[hb])]
theorem Gj {c:UInt8} {t:List UInt8}:∀{s:List UInt8},(∀a∈s,a≠c)→qB c (s++c::t)=(s,some t)
 |[],_=>by simp[qB]
 |a::s,h=>by rw[Hx,qB,if_neg (h a (by simp)),Gj fun b hb=>h b (by simp[hb])]
theorem JJ {c:UInt8}:∀(s:List UInt8),∀a∈(qB c s).1,a≠c
 |[],a,h=>by simp[qB]at h
 |b::s,a,h=>by
  rw[qB]at h;by_cases hb:b=c
  ·rw[if_pos hb]at h;simp at h
  ·rw[if_neg hb]at h;simp only[List.mem_cons]at h;rcases h with rfl|h
   ·exact hb
   ·exact JJ s a h
theorem Vx {c:UInt8}:∀(s:List UInt8),s=(qB c s).1++(match(qB c s).2 with|none=>[]|some t=>c::t)
 |[]=>rfl
 |b::s=>by
  rw[qB];by_cases hb:b=c
  ·rw[if_pos hb];subst hb;rfl
  ·rw[if_neg hb];simp only[Hx,J7,true_and];exact Vx s
theorem AS {u:Nat} {c:UInt8} (h2:isD c=false):∀a∈F0 u,a≠c:=fun a ha e=>by
 subst e;have:=I0.1 (jx u) _ ha;rw[h2]at this;simp at this
theorem Vy {q:Rat} (h:q.den=1):((q.num:Int):Rat)=q:=by
 apply Rat.ext
 ·simp
 ·simp[h]
end Eng
end

section
namespace Eng
open Go
theorem Wj (k:Nat):1000000000^k=10^(9*k):=by rw[Nat.pow_mul]
theorem yf {s:List UInt8} {i:Nat} (h:i<s.length):xw (s.take (i+1))=10*xw (s.take i)+dv s[i]:=by
 rw[List.take_succ_eq_append_getElem h,Rn]
theorem Tu {s:List UInt8} (h:s.all isD=true) (i:Nat):(s.take i).all isD=true:=by
 rw[I0]at *;exact fun x hx=>h x (List.mem_of_mem_take hx)
theorem BO {s:List UInt8} (h:s.all isD=true) (i:Nat):(s.drop i).all isD=true:=by
 rw[I0]at *;exact fun x hx=>h x (List.mem_of_mem_drop hx)
theorem Rs {s:List UInt8} {l:List Nat} {e:Nat} (he:0<e) (hes:e≤s.length) (hl:9*l.length=s.length-e) (hv:val l=xw (s.drop e)) (j:Nat) (hj:j=e-9):
 val (l++[xw ((s.take e).drop j)])=xw (s.drop j):=by
 rw[vE,hv,Wj,hl];have e1:s.drop j=(s.take e).drop j++s.drop e:=by have h1:s=s.take e++s.drop e:=(List.take_append_drop e s).symm;have h2:(s.take e++s.drop e).drop j=(s.take e).drop j++s.drop e:=I1 (by rw[List.length_take];omega);rw[←h1]at h2;exact h2
 rw[e1,jS,List.length_drop,Lr,M1]
end Eng
end
