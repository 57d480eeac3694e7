/- Decimal digits of numbers, and the text of a length in millimetres: plain laws. -/
import Derived.Test.YtbehlcfelmbmlaaGreatDoorRatA
import Derived.Lib.ItoaNum
open Go.Lib renaming decDigits→Aa, nDigits→Ab
open Nat renaming pow_succ→Ac, pow_le_pow_right→Ad, mul_comm→Ae, pow_pos→Af, mod_mul_right_div_self→Ah, div_div_eq_div_mul→Ai, mod_mul_right_mod→Aj, le_div_iff_mul_le→Ak, div_lt_iff_lt_mul→Al, div_eq_of_lt→Am, pow_add→An
section
namespace Eng
open Go
def xW:Nat→Nat→List UInt8
 |0,_=>[]
 |n+1,v=>xW n (v/10)++[UInt8.ofNat (48+v%10)]
theorem xy:∀(n v:Nat),(xW n v).length=n
 |0,_=>rfl
 |n+1,v=>by simp[xW,xy n]
theorem jB:∀(n v:Nat),xW (n+1) v=UInt8.ofNat (48+v/10^n%10)::xW n v
 |0,v=>by simp[xW]
 |n+1,v=>by rw[xW,jB n (v/10),xW];rw[Ai,Ac,Ae 10];rfl
theorem kc:∀(n m v:Nat),xW (m+n) v=xW m (v/10^n)++xW n v
 |0,m,v=>by simp[xW]
 |n+1,m,v=>by rw[←Nat.add_assoc,xW,xW,kc n m (v/10),Ai,Ac,Ae 10,List.append_assoc]
theorem Yd:∀(n v w:Nat),v%10^n=w%10^n→xW n v=xW n w
 |0,_,_,_=>rfl
 |n+1,v,w,h=>by
  rw[xW,xW];have h1:v%10=w%10:=by have a:=Aj v 10 (10^n);have b:=Aj w 10 (10^n);rw[Ac,Ae]at h;rw[←a,←b,h]
  have h2:v/10%10^n=w/10%10^n:=by rw[Ac,Ae]at h;have a:=Ah v 10 (10^n);have b:=Ah w 10 (10^n);rw[←a,←b,h]
  rw[Yd n _ _ h2,h1]
theorem Tq (n:Nat):xW n 0=List.replicate n 48:=by
 induction n with
 |zero=>rfl
 |succ n ih=>rw[jB,ih,Nat.zero_div];rfl
theorem Nd (n m v:Nat) (h:v<10^n):xW (m+n) v=List.replicate m 48++xW n v:=by
 rw[kc,Am h,Tq]
theorem jk (u:Nat):0<Ab u:=by
 rw[Ab];split<;>omega
theorem xS (u:Nat):Aa u=xW (Ab u) u:=by
 induction u using Nat.strongRecOn with
 |_ u ih=>
  rw[Aa,Ab];by_cases h:u<10
  ·rw[dif_pos h,dif_pos h];simp only[xW,List.nil_append];rw[Nat.mod_eq_of_lt h]
  ·rw[dif_neg h,dif_neg h,xW,ih (u/10) (by omega)]
theorem xt:∀(n u:Nat),Ab u≤n+1↔u<10^(n+1)
 |0,u=>by
  rw[Ab];by_cases h:u<10
  ·rw[dif_pos h];simp;omega
  ·rw[dif_neg h];have:=jk (u/10);simp;omega
 |n+1,u=>by
  rw[Ab];by_cases h:u<10
  ·rw[dif_pos h];have:10^1≤10^(n+1+1):=Ad (by omega) (by omega);constructor
   ·intro _;omega
   ·intro _;omega
  ·rw[dif_neg h];have:=xt n (u/10);rw[Ac 10 (n+1)];rw[Al (by omega)]at this;omega
theorem Gy {u n:Nat} (h1:10^n≤u) (h2:u<10^(n+1)):Ab u=n+1:=by
 have a:=(xt n u).2 h2;cases n with
 |zero=>have:=jk u;omega
 |succ n=>
  have b:=xt n u;have:¬u<10^(n+1):=by omega
  omega
theorem QF {u n:Nat} (h1:10^n≤u) (h2:u<10^(n+1)):xW (n+1) u=Aa u:=by
 rw[xS,Gy h1 h2]
theorem XA {u n:Nat} (h:u<10^(n+1)):(Aa u).length≤n+1:=by
 rw[Lib.decDigits_length];exact(xt n u).2 h
def yc (u k:Nat):List UInt8:=match k with
 |0=>Aa u
 |k+1=>Aa (u/10^(k+1))++46::xW (k+1) u
theorem Tt {u k L:Nat} (h2:L=max (Ab u) (k+1)):(xW L u).take (L-k)++46::(xW L u).drop (L-k)=Aa (u/10^k)++46::xW k u:=by
 have hL:L=(L-k)+k:=by omega
 have e:=kc k (L-k) u;rw[←hL]at e;rw[e];have hl:(xW (L-k) (u/10^k)).length=L-k:=xy _ _;have ht:((xW (L-k) (u/10^k))++xW k u).take (L-k)=xW (L-k) (u/10^k):=by rw[List.take_append_of_le_length (by omega),List.take_of_length_le (by omega)]
 have hd:((xW (L-k) (u/10^k))++xW k u).drop (L-k)=xW k u:=by rw[List.drop_append_of_le_length (by omega),List.drop_of_length_le (by omega),List.nil_append]
 rw[ht,hd];congr 1;by_cases hu:u<10^k
 ·rw[Am hu];have hn:Ab u≤k+1:=(xt k u).2 (Nat.lt_of_lt_of_le hu (Ad (by omega) (by omega)));have:L-k=1:=by omega
  rw[this];rw[Lib.decDigits_one (by omega)];rfl
 ·have a0:10^k≤u:=Nat.le_of_not_lt hu;have hq:1≤u/10^k:=by rw[Ak (Af (by omega)),Nat.one_mul];exact a0
  --the number of digits of the quotient
  obtain⟨n,hn⟩:∃n,Ab u=n+1:=⟨Ab u-1,by have:=jk u;omega⟩;have hup:u<10^(n+1):=(xt n u).1 (by omega);have hlo:10^n≤u:=by
   cases n with
   |zero=>rw[Nat.pow_zero];exact Nat.le_trans (Af (by omega)) a0
   |succ n=>have:=xt n u;omega
  have hkn:k≤n:=by
   rcases Nat.lt_or_ge n k with h|h
   ·have:10^(n+1)≤10^k:=Ad (by omega) (by omega);omega
   ·exact h
  have hLk:L-k=(n-k)+1:=by omega
  rw[hLk];refine QF ?_ ?_
  ·rw[Ak (Af (by omega)),←An];rw[show n-k+k=n by omega];exact hlo
  ·rw[Al (Af (by omega)),←An];rw[show n-k+1+k=n+1 by omega];exact hup
end Eng
end

section
namespace Eng
open Go
def isD (c:UInt8):Bool:=decide (48≤c.toNat)&&decide (c.toNat≤57)
def dv (c:UInt8):Nat:=c.toNat-48
def natT:List UInt8→Nat
 |[]=>0
 |c::s=>dv c*10^s.length+natT s
theorem Tu {v:Nat} (h:v<10):(UInt8.ofNat (48+v)).toNat=48+v:=by
 simp[UInt8.toNat_ofNat'];omega
theorem dec_0:Aa 0=[48]:=by rw[Aa];rfl
def sgT (z:Int):List UInt8:=match decide (z<0)with|true=>[45]|false=>[]
def ZC (z:Int):List UInt8:=sgT z++Aa z.natAbs
theorem Tv {z:Int} (h:0≤z):ZC z=Aa z.natAbs:=by
 unfold ZC sgT;rw[decide_eq_false (by omega)];rfl
def Nf (c:UInt8):List UInt8→List UInt8×Option (List UInt8)
 |[]=>([],none)
 |a::s=>if a=c then([],some s)else(a::(Nf c s).1,(Nf c s).2)
theorem PS {q:Rat} (h:q.den=1):((q.num:Int):Rat)=q:=by
 apply Rat.ext
 ·simp
 ·simp[h]
end Eng
end

section
namespace Eng
open Go
theorem Tw (k:Nat):1000000000^k=10^(9*k):=by rw[Nat.pow_mul]
end Eng
end
