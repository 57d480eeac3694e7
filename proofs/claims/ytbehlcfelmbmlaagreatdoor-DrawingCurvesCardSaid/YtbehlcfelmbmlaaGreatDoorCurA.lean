/- Curves of a drawing as plain data: integer square roots by Newton's method, squares of fractions, lines and circles through points. -/
import Derived.Test.YtbehlcfelmbmlaaGreatDoorLexA
open Nat renaming mul_self_lt_mul_self_iff→Aa, lt_of_le_of_lt→Ab, exists_eq_add_of_le→Ac, lt_of_not_le→Ad, zero_le→Ae
open Rat renaming mul_eq_zero→Af, div_mul_cancel→Ah, num_nonneg→Ai, sub_self→Aj
section
namespace Eng
open Go
def Kd (a x:Nat):Nat:=if x≤(x+a/x)/2 then x else Kd a ((x+a/x)/2)
 termination_by x
 decreasing_by omega
theorem GE (a x:Nat) (hx:0<x):a<((x+a/x)/2+1)*((x+a/x)/2+1):=by
 generalize hq:a/x=q;have h1:a<(q+1)*x:=by rw[←hq];exact Nat.lt_of_lt_of_eq (Nat.lt_mul_div_succ a hx) (Nat.mul_comm _ _)
 generalize hy:(x+q)/2=y;have h2:x+q+1≤2*(y+1):=by omega
 have h3:(x+q+1)*(x+q+1)≤(2*(y+1))*(2*(y+1)):=Nat.mul_le_mul h2 h2;have h4:4*((q+1)*x)≤(x+q+1)*(x+q+1):=by
  rcases Nat.le_total x (q+1)with h|h
  ·obtain⟨d,hd⟩:=Ac h;have e:x+q+1=2*x+d:=by omega
   rw[e,hd];have:(2*x+d)*(2*x+d)=4*((x+d)*x)+d*d:=by grind
   omega
  ·obtain⟨d,hd⟩:=Ac h;have e:x+q+1=2*(q+1)+d:=by omega
   rw[e,hd];have:(2*(q+1)+d)*(2*(q+1)+d)=4*((q+1)*(q+1+d))+d*d:=by grind
   omega
 have h5:(2*(y+1))*(2*(y+1))=4*((y+1)*(y+1)):=by grind
 omega
theorem WD {a x:Nat} (ha:0<a) (hx:0<x):0<(x+a/x)/2:=by
 by_cases h:x=1
 ·subst h;rw[Nat.div_one];omega
 ·have:2≤x:=by omega
  generalize a/x=q;omega
theorem Km (a:Nat):∀x:Nat,a<(x+1)*(x+1)→Kd a x*Kd a x≤a∧a<(Kd a x+1)*(Kd a x+1):=by
 intro x
 induction x using Nat.strongRecOn with
 |_ x ih=>
  intro h;rw[Kd];by_cases hs:x≤(x+a/x)/2
  ·rw[if_pos hs];refine⟨?_,h⟩;rcases Nat.eq_zero_or_pos x with hx|hx
   ·subst hx;omega
   ·have h1:x≤a/x:=by omega
    exact(Nat.le_div_iff_mul_le hx).1 h1
  ·rw[if_neg hs];exact ih _ (Ad hs) (GE a x (Ab (Ae _) (Ad hs)))
theorem NV {r n:Nat} (h1:r*r≤n*n) (h2:n*n<(r+1)*(r+1)):r=n:=by
 have a:r≤n:=Nat.mul_self_le_mul_self_iff.1 h1;have b:n<r+1:=Aa.1 h2;omega
theorem GF (q:Rat):(q*q).num=q.num*q.num∧(q*q).den=q.den*q.den:=by
 have hc:Nat.Coprime (q.num*q.num).natAbs (q.den*q.den):=by rw[Int.natAbs_mul];exact(q.reduced.mul_left q.reduced).mul_right (q.reduced.mul_left q.reduced)
 have hz:q.den*q.den≠0:=Nat.mul_ne_zero q.den_nz q.den_nz;have h:q*q=Rat.mk' (q.num*q.num) (q.den*q.den) hz hc:=by rw[Rat.mul_def,←Rat.normalize_eq_mk' _ _ hz hc]
 rw[h];exact⟨rfl,rfl⟩
def absQ (q:Rat):Rat:=if q<0 then-q else q
theorem WE (q:Rat):(absQ q).num=(q.num.natAbs:Int)∧(absQ q).den=q.den:=by
 unfold absQ;by_cases h:q<0
 ·rw[if_pos h];have h1:¬0≤q.num:=fun h2=>absurd (Ai.1 h2) (by grind)
  refine⟨?_,Rat.neg_den q⟩;rw[Rat.neg_num];omega
 ·rw[if_neg h];have:0≤q.num:=Ai.2 (by grind);refine⟨?_,rfl⟩;omega
structure Pt where
 x:Rat
 y:Rat
deriving DecidableEq
structure Ln where
 a:Rat
 b:Rat
 c:Rat
structure Ci where
 x:Rat
 y:Rat
 q:Rat
def lnT (p q:Pt):Ln:=⟨p.y-q.y,q.x-p.x,(p.y-q.y)*p.x+(q.x-p.x)*p.y⟩
def onL (l:Ln) (p:Pt):Rat:=l.a*p.x+l.b*p.y-l.c
def onC (c:Ci) (p:Pt):Rat:=(p.x-c.x)*(p.x-c.x)+(p.y-c.y)*(p.y-c.y)-c.q
theorem Rt (p q:Pt):onL (lnT p q) p=0∧onL (lnT p q) q=0:=by
 unfold onL lnT;constructor<;>grind
theorem Ru {p q:Pt} (h:¬((lnT p q).a=0∧(lnT p q).b=0)):p≠q:=by
 intro e;subst e;exact h ⟨Aj,Aj⟩
def crs (p q r:Pt):Rat:=(q.x-p.x)*(r.y-p.y)-(q.y-p.y)*(r.x-p.x)
def cx (p q r:Pt):Rat:=(((q.x-p.x)*(q.x-p.x)+(q.y-p.y)*(q.y-p.y))*(r.y-p.y)-((r.x-p.x)*(r.x-p.x)+(r.y-p.y)*(r.y-p.y))*(q.y-p.y))/(crs p q r+crs p q r)
def cy (p q r:Pt):Rat:=(((r.x-p.x)*(r.x-p.x)+(r.y-p.y)*(r.y-p.y))*(q.x-p.x)-((q.x-p.x)*(q.x-p.x)+(q.y-p.y)*(q.y-p.y))*(r.x-p.x))/(crs p q r+crs p q r)
def ciT (p q r:Pt):Ci:=⟨p.x+cx p q r,p.y+cy p q r,cx p q r*cx p q r+cy p q r*cy p q r⟩
theorem Bh {p q r:Pt} (h:crs p q r≠0):cx p q r*(crs p q r+crs p q r)=((q.x-p.x)*(q.x-p.x)+(q.y-p.y)*(q.y-p.y))*(r.y-p.y)-((r.x-p.x)*(r.x-p.x)+(r.y-p.y)*(r.y-p.y))*(q.y-p.y):=by
 unfold cx;exact Ah (by grind)
theorem Bi {p q r:Pt} (h:crs p q r≠0):cy p q r*(crs p q r+crs p q r)=((r.x-p.x)*(r.x-p.x)+(r.y-p.y)*(r.y-p.y))*(q.x-p.x)-((q.x-p.x)*(q.x-p.x)+(q.y-p.y)*(q.y-p.y))*(r.x-p.x):=by
 unfold cy;exact Ah (by grind)
theorem Bj (p q r:Pt):onC (ciT p q r) p=0:=by
 unfold onC ciT
 grind
theorem GG {p q r:Pt} (h:crs p q r≠0):2*(cx p q r*(r.x-p.x)+cy p q r*(r.y-p.y))=(r.x-p.x)*(r.x-p.x)+(r.y-p.y)*(r.y-p.y):=by
 have hx:=Bh h;have hy:=Bi h;have hd:crs p q r=(q.x-p.x)*(r.y-p.y)-(q.y-p.y)*(r.x-p.x):=rfl;generalize crs p q r=d at *;generalize cx p q r=u at *;generalize cy p q r=v at *;generalize q.x-p.x=a at *;generalize q.y-p.y=b at *;generalize r.x-p.x=s at *;generalize r.y-p.y=t at *;have h2:(2*(u*s+v*t)-(s*s+t*t))*d=0:=by
  have e1:u*(d+d)*s=((a*a+b*b)*t-(s*s+t*t)*b)*s:=by rw[hx]
  have e2:v*(d+d)*t=((s*s+t*t)*a-(a*a+b*b)*s)*t:=by rw[hy]
  have e3:(2*(u*s+v*t)-(s*s+t*t))*d=u*(d+d)*s+v*(d+d)*t-(s*s+t*t)*d:=by grind
  rw[e3,e1,e2,hd]
  grind
 have h3:=(Af.1 h2).resolve_right h
 grind
theorem Bk {p q r:Pt} (h:crs p q r≠0):onC (ciT p q r) r=0:=by
 have h2:=GG h;unfold onC ciT
 grind
theorem Bl {p q r:Pt} (h:crs p q r≠0):p≠r:=by
 intro e;subst e;refine h ?_;unfold crs
 grind
theorem GH {a b:Rat} (h:¬(a=0∧b=0)):0<a*a+b*b:=by
 have h1:=ZK a;have h2:=ZK b;refine Rat.lt_of_le_of_ne (by grind) ?_;intro e;have e1:a*a=0:=by grind
 have e2:b*b=0:=by grind
 exact h ⟨by rcases Af.1 e1 with h|h<;>exact h,by rcases Af.1 e2 with h|h<;>exact h⟩
theorem Bm {p q r:Pt} (h:crs p q r≠0):0<(ciT p q r).q:=by
 refine GH ?_;rintro⟨h1,h2⟩;have h3:=GG h;rw[h1,h2]at h3;have h4:0<(r.x-p.x)*(r.x-p.x)+(r.y-p.y)*(r.y-p.y):=by
  refine GH ?_;rintro⟨g1,g2⟩;refine h ?_;unfold crs;rw[g1,g2]
  grind
 grind
theorem T6 {p q r:Pt} (h:crs p q r≠0):(!decide ((q.y-p.y)*(r.x-p.x)<(q.x-p.x)*(r.y-p.y)))=decide ((q.x-p.x)*(r.y-p.y)<(q.y-p.y)*(r.x-p.x)):=by
 unfold crs at h;generalize (q.x-p.x)*(r.y-p.y)=a at *;generalize (q.y-p.y)*(r.x-p.x)=b at *;by_cases h1:b<a
 ·rw[decide_eq_true h1,decide_eq_false (by grind)];rfl
 ·rw[decide_eq_false h1,decide_eq_true (by grind)];rfl
theorem NW (p:Pt) (r:Rat):onC ⟨p.x,p.y,r*r⟩ ⟨p.x+ -1*absQ r,p.y+0*absQ r⟩=0∧onC ⟨p.x,p.y,r*r⟩ ⟨p.x+1*absQ r,p.y+0*absQ r⟩=0:=by
 have h:absQ r*absQ r=r*r:=by unfold absQ;split<;>grind
 unfold onC;constructor<;>grind
theorem NX (p:Pt) {r:Rat} (h:r≠0):p.x+ -1*absQ r≠p.x+1*absQ r:=by
 intro e;have h1:absQ r=0:=by grind
 refine h ?_;unfold absQ at h1;split at h1<;>grind
end Eng
end

section
namespace Eng
open Go
theorem Ym {a n:Nat} (h:a<10^(9*n)):a<(10^(9*((n+1)/2))+1)*(10^(9*((n+1)/2))+1):=by
 have h1:10^(9*n)≤10^(9*((n+1)/2)+9*((n+1)/2)):=Nat.pow_le_pow_right (by omega) (by omega);rw[Nat.pow_add]at h1;generalize 10^(9*((n+1)/2))=x at *;have h2:(x+1)*(x+1)=x*x+2*x+1:=by grind
 omega
def kY (a:Nat):Nat:=Kd a a
theorem yi (a:Nat):kY a*kY a≤a∧a<(kY a+1)*(kY a+1):=Km a a (by
 have:(a+1)*(a+1)=a*a+2*a+1:=by grind
 have:=Ae (a*a);omega)
theorem GI {a r t:Nat} (h1:r*r≤a) (h2:a<(r+1)*(r+1)) (h3:t*t≤a) (h4:a<(t+1)*(t+1)):r=t:=by
 have a1:r<t+1:=Aa.1 (Ab h1 h4);have a2:t<r+1:=Aa.1 (Ab h3 h2);omega
theorem GJ {a x:Nat} (h:a<(x+1)*(x+1)):Kd a x=kY a:=
 GI (Km a x h).1 (Km a x h).2 (yi a).1 (yi a).2
theorem QV {a n:Nat} (h:a<10^(9*n)):Kd a (10^(9*((n+1)/2)))=kY a:=GJ (Ym h)
theorem WG (m:Nat):kY (m*m)=m:=NV (yi (m*m)).1 (yi (m*m)).2
theorem WH (a x:Nat):Kd a x=if x≤(x+a/x)/2 then x else Kd a ((x+a/x)/2):=by rw[Kd]
end Eng
end

section
namespace Eng
open Go
structure Cv where
 arc:Bool
 ln:Ln
 ci:Ci
 cw:Bool
 fr:Pt
 tt:Pt
def noL:Ln:=⟨0,0,0⟩
def noC:Ci:=⟨0,0,0⟩
def XF (p q:Pt):Option Cv:=if(lnT p q).a=0∧(lnT p q).b=0 then none else some ⟨false,lnT p q,noC,false,p,q⟩
def ZO (p q r:Pt):Option Cv:=if crs p q r=0 then none else some ⟨true,noL,ciT p q r,!decide ((q.y-p.y)*(r.x-p.x)<(q.x-p.x)*(r.y-p.y)),p,r⟩
def XG (p:Pt) (r:Rat):List Cv:=
 [⟨true,noL,⟨p.x,p.y,r*r⟩,false,⟨p.x+ -1*absQ r,p.y+0*absQ r⟩,⟨p.x+1*absQ r,p.y+0*absQ r⟩⟩,
  ⟨true,noL,⟨p.x,p.y,r*r⟩,false,⟨p.x+1*absQ r,p.y+0*absQ r⟩,⟨p.x+ -1*absQ r,p.y+0*absQ r⟩⟩]
def w4 (c:Cv):Bool:=
 (if c.arc=true then decide (0<c.ci.q)&&(decide (onC c.ci c.fr=0)&&decide (onC c.ci c.tt=0))
  else !c.cw&&(!(decide (c.ln.a=0)&&decide (c.ln.b=0))&&(decide (onL c.ln c.fr=0)&&decide (onL c.ln c.tt=0))))
 &&!(decide (c.fr.x=c.tt.x)&&decide (c.fr.y=c.tt.y))
theorem Rv {p q:Pt} (h:p≠q):(!(decide (p.x=q.x)&&decide (p.y=q.y)))=true:=by
 simp only[Bool.not_eq_true',Bool.and_eq_false_iff,decide_eq_false_iff_not];by_cases h1:p.x=q.x
 ·exact .inr fun h2=>h (by cases p;cases q;simp_all)
 ·exact .inl h1
theorem Yn {p q:Pt} {c:Cv} (h:XF p q=some c):w4 c=true:=by
 unfold XF at h;by_cases h1:(lnT p q).a=0∧(lnT p q).b=0
 ·rw[if_pos h1]at h;simp at h
 ·rw[if_neg h1]at h;simp only[Option.some.injEq]at h;subst h;obtain⟨a,b⟩:=Rt p q;unfold w4;simp only;rw[Rv (Ru h1),decide_eq_true a,decide_eq_true b];have:(decide ((lnT p q).a=0)&&decide ((lnT p q).b=0))=false:=by
   rw[Bool.and_eq_false_iff];by_cases g:(lnT p q).a=0
   ·exact .inr (decide_eq_false fun g2=>h1 ⟨g,g2⟩)
   ·exact .inl (decide_eq_false g)
  rw[this];rfl
theorem Yo {p q r:Pt} {c:Cv} (h:ZO p q r=some c):w4 c=true:=by
 unfold ZO at h;by_cases h1:crs p q r=0
 ·rw[if_pos h1]at h;simp at h
 ·rw[if_neg h1]at h;simp only[Option.some.injEq]at h;subst h;unfold w4;simp only;rw[Rv (Bl h1),decide_eq_true (Bj p q r),decide_eq_true (Bk h1),decide_eq_true (Bm h1)];rfl
theorem Kn {p:Pt} {r:Rat} (h:0<r):∀c∈XG p r,w4 c=true:=by
 have hr:r≠0:=by grind
 obtain⟨a,b⟩:=NW p r;have hq:0<r*r:=by have:=Rat.mul_pos h h;exact this
 have hn:=NX p hr;intro c hc;simp only[XG,List.mem_cons,List.not_mem_nil,or_false]at hc;rcases hc with rfl|rfl
 ·unfold w4;simp only;rw[decide_eq_false hn,decide_eq_true a,decide_eq_true b,decide_eq_true hq];rfl
 ·unfold w4;simp only;rw[decide_eq_false hn.symm,decide_eq_true a,decide_eq_true b,decide_eq_true hq];rfl
end Eng
end
