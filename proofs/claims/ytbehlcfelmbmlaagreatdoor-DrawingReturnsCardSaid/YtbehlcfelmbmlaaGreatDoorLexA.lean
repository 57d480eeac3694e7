/- A sign cut off a text. -/
import Derived.Test.YtbehlcfelmbmlaaGreatDoorTxP
import Derived.Test.YtbehlcfelmbmlaaGreatDoorCdA
open Bool renaming and_eq_true→Aw, or_eq_true→Bx, true_and→Dd, false_or→F0, false_eq_true→F2, not_eq_true'→Gv, not_false→Hu, and_assoc→Hv
open Decidable renaming not_not→Hx
open Except.ok renaming injEq→Hy
open Go.Lib renaming decDigits→I0
open Int renaming natAbs_natCast→I1, natCast_mul→I2, natAbs_neg→J3
open List renaming length_cons→J4, length_append→J6, cons_append→J7, mem_cons→J9, map_cons→Lm, length_nil→Lr, nil_append→Ls, mem_append→Lv, append_assoc→M0, all_cons→M1, mem_map→M2, not_mem_nil→No, all_eq_true→Pl, length_map→P1, append_nil→Ts, length_singleton→T1, flatMap_cons→U0, take_length→U3, length_drop→V1, take_append_of_le_length→W0, drop_append_of_le_length→W1, drop_zero→W2, drop_drop→ad, drop→ae, map_nil→af, drop_eq_nil_of_le→ah, length→ai, map_congr_left→aj, length_pos_iff→ak, drop_length→am, all_append→an, map_map→ao, take→ap
open List.cons renaming injEq→aq
open Nat renaming zero_add→ar, pow_pos→au, add_zero→av, div_lt_iff_lt_mul→aw, le_refl→ax, mul_lt_mul_of_pos_right→ay, pos_iff_ne_zero→az, gcd→a6, pow_zero→a7, mul_succ→a8, mul_one→aA, div_one→aB, not_lt→aC
open Option renaming getD_some→aD, isSome_some→aE
open Option.some renaming injEq→aF
open Prod.mk renaming injEq→aG
open Rat renaming mul_le_mul_of_nonneg_right→aH, intCast_le_intCast→aI, intCast_natCast→aJ, intCast_mul→aK
section
namespace Eng
open Go
def qA:List UInt8→List UInt8×Bool
 |[]=>([],false)
 |c::s=>if c=45 then(s,true)else(c::s,false)
theorem xj (c:UInt8) (s:List UInt8):qA (c::s)=if c=45 then(s,true)else(c::s,false):=rfl
theorem kB (s:List UInt8):(qA s).1.length≤s.length:=by
 cases s with
 |nil=>simp[qA]
 |cons c s=>rw[xj];split<;>simp
end Eng
end

section
namespace Eng
open Go
def qC (c:UInt8):List UInt8→List (List UInt8)
 |[]=>[[]]
 |a::s=>if a=c then []::qC c s else match qC c s with
  |[]=>[[a]]
  |w::r=>(a::w)::r
theorem YF (c:UInt8):∀s,qC c s≠[]
 |[]=>by simp[qC]
 |a::s=>by
  rw[qC];split
  ·simp
  ·split<;>simp
theorem Xf {c:UInt8}:∀{s:List UInt8},(∀a∈s,a≠c)→qC c s=[s]
 |[],_=>rfl
 |a::s,h=>by rw[qC,if_neg (h a (by simp)),Xf fun b hb=>h b (by simp[hb])]
theorem vG {c:UInt8} {t:List UInt8}:∀{s:List UInt8},(∀a∈s,a≠c)→qC c (s++c::t)=s::qC c t
 |[],_=>by simp[qC]
 |a::s,h=>by rw[J7,qC,if_neg (h a (by simp)),vG fun b hb=>h b (by simp[hb])]
def wE (c:UInt8):List (List UInt8)→List UInt8
 |[]=>[]
 |[w]=>w
 |w::v::r=>w++c::wE c (v::r)
theorem Jt (c:UInt8):∀s,wE c (qC c s)=s
 |[]=>rfl
 |a::s=>by
  have ih:=Jt c s;have hne:=YF c s;rw[qC];by_cases h:a=c
  ·rw[if_pos h];subst h;generalize qC a s=l at *
   match l,hne with
   |w::r,_=>rw[wE,ih];rfl
  ·rw[if_neg h];generalize qC c s=l at *
   match l,hne with
   |[w],_=>rw[←ih];rfl
   |w::v::r,_=>rw[←ih];rfl
structure B4 where
 x0:Rat
 y0:Rat
 x1:Rat
 y1:Rat
structure Ce where
 b:B4
 k:Option V2
theorem YG {c a:UInt8}:∀{l:List (List UInt8)},a∈wE c l→a=c∨∃w∈l,a∈w
 |[],h=>by simp[wE]at h
 |[w],h=> .inr ⟨w,by simp,h⟩
 |w::v::r,h=>by
  rw[wE,Lv,J9]at h;rcases h with h|rfl|h
  ·exact .inr ⟨w,by simp,h⟩
  ·exact .inl rfl
  ·rcases YG h with h|⟨u,hu,h⟩
   ·exact .inl h
   ·exact .inr ⟨u,by simp[hu],h⟩
end Eng
end

section
namespace Eng
open Go
def jq (w:List UInt8):Bool:=!w.isEmpty&&(w.all isD&&(decide (w.length≤1)||decide (nth 0 w 0≠48)))
def kC:Option (List UInt8)→Bool
 |none=>true
 |some p=>!p.isEmpty&&(p.all isD&&decide (p.length≤30))
def vS (s:List UInt8):Option (Int×Nat):=
 let w:=(qB 46 (qA s).1).1
 let p:=(qB 46 (qA s).1).2
 let m:=xw (w++p.getD [])
 if jq w&&(kC p&&(!(qA s).2||decide (m≠0)))then some (if(qA s).2 then-(m:Int)else(m:Int),(p.getD []).length)else none
theorem YH (u:Nat):jq (I0 u)=true:=by
 have h1:=jx u;have h2:=kM u;have h3:=fun s=> @Q7 u s
 generalize I0 u=s at *
 match s,h2 with
 |c::s,_=>
  have e:nth 0 (c::s) 0=c:=rfl;unfold jq;rw[h1,e];by_cases hc:c=48
  ·subst hc;obtain⟨h4,_⟩:=h3 s rfl;rw[h4];rfl
  ·simp[hc]
theorem UM (z:Int) (t:List UInt8) (ht:∀c r,t=c::r→c≠45):qA (sgT z++t)=(t,decide (z<0)):=by
 unfold sgT;by_cases h:z<0
 ·rw[decide_eq_true h];rfl
 ·rw[decide_eq_false h];show qA t=(t,false)
  match t,ht with
  |[],_=>rfl
  |c::r,ht=>rw[xj,if_neg (ht c r rfl)]
theorem Mn (u k:Nat):xw (I0 (u/10^k)++xq k u)=u:=by
 rw[jS,w8,JI,qN];have:=Nat.div_add_mod u (10^k);rw[Nat.mul_comm]at this;exact this
theorem Xg {z:Int} {k:Nat} (hk:k≤30):vS (sgT z++qY z.natAbs k)=some (z,k):=by
 have hz:(if decide (z<0)=true then-((z.natAbs:Nat):Int)else((z.natAbs:Nat):Int))=z:=by
  by_cases h:z<0
  ·rw[decide_eq_true h];simp only[if_true];omega
  ·rw[decide_eq_false h];simp only[F2,if_false];omega
 have hm:(!decide (z<0)||decide (z.natAbs≠0))=true:=by
  by_cases h:z<0
  ·rw[decide_eq_true h];simp;omega
  ·rw[decide_eq_false h];rfl
 have hd:∀u,∀a∈I0 u,a≠46:=fun u=>AS (by decide)
 have hh:∀u t,∀c r,I0 u++t=c::r→c≠45:=fun u t c r e=>by
  have h1:=kM u;have h2:=jx u
  match hx:I0 u,h1 with
  |a::l,_=>
   rw[hx]at e h2;simp only[J7,aq]at e;simp only[M1,Aw]at h2;intro hc;rw[←e.1]at hc;rw[hc]at h2;have e45:isD 45=false:=by decide
   rw[e45]at h2;simp at h2
 match k,hk with
 |0,_=>have es:qY z.natAbs 0=I0 z.natAbs:=rfl;have hc:=UM z (I0 z.natAbs) (fun c r e=>hh z.natAbs [] c r (by rw[Ts];exact e));rw[es];unfold vS;rw[hc,Xp (hd _)];simp only[Option.getD_none,Ts,w8,YH,kC,Dd,hm,if_true,hz,Lr]
 |k+1,hk=>
  have es:qY z.natAbs (k+1)=I0 (z.natAbs/10^(k+1))++46::xq (k+1) z.natAbs:=rfl;have hc:=UM z (I0 (z.natAbs/10^(k+1))++46::xq (k+1) z.natAbs) (hh _ _);have hp:kC (some (xq (k+1) z.natAbs))=true:=by
   show(!(xq (k+1) z.natAbs).isEmpty&&((xq (k+1) z.natAbs).all isD&&decide ((xq (k+1) z.natAbs).length≤30)))=true;rw[Q6,qN,decide_eq_true hk];have:xq (k+1) z.natAbs≠[]:=fun e=>by have:=congrArg ai e;rw[qN]at this;simp at this
   simp[this]
  rw[es];unfold vS;rw[hc,Gj (hd _)];simp only[aD,Mn,YH,hp,Dd,hm,if_true,hz,qN]
theorem Ju (c:UInt8):∀s,(qB c s).1.length+((qB c s).2.getD []).length≤s.length
 |[]=>by simp[qB]
 |a::s=>by
  have:=Ju c s;rw[qB];by_cases h:a=c
  ·rw[if_pos h];simp
  ·rw[if_neg h];simp only[J4];omega
theorem vH {s:List UInt8} {m:Int} {k:Nat} (h:vS s=some (m,k)):k≤30∧m.natAbs<10^s.length:=by
 unfold vS at h;have hl:=Ju 46 (qA s).1;have hs:=kB s;simp only at h;split at h
 ·rename_i hc;simp only[Aw]at hc;obtain⟨h1,h2,h3⟩:=hc;simp only[aF,aG]at h;obtain⟨rfl,rfl⟩:=h;have hw:((qB 46 (qA s).1).1).all isD=true:=by unfold jq at h1;simp only[Aw]at h1;exact h1.2.1
  have hp:(((qB 46 (qA s).1).2).getD []).all isD=true∧(((qB 46 (qA s).1).2).getD []).length≤30:=by
   cases hq:(qB 46 (qA s).1).2 with
   |none=>simp
   |some p=>rw[hq]at h2;unfold kC at h2;simp only[Aw,decide_eq_true_eq]at h2;exact⟨h2.2.1,h2.2.2⟩
  refine⟨hp.2,?_⟩;have hn:=Vw (s:=(qB 46 (qA s).1).1++((qB 46 (qA s).1).2).getD []) (by rw[an,hw,hp.1];rfl) (n:=s.length) (by rw[J6];omega);split<;>omega
 ·simp at h
end Eng
end

section
namespace Eng
open Go
def ltr (c:UInt8):Bool:=(decide (97≤c.toNat)&&decide (c.toNat≤122))||(decide (65≤c.toNat)&&decide (c.toNat≤90))
def nmc (c:UInt8):Bool:=ltr c||(isD c||(decide (c=95)||decide (c=45)))
def Mo (c:UInt8):Bool:=decide (c=61)||(decide (c=44)||(decide (c=59)||(decide (c=58)||(decide (c=40)||decide (c=41)))))
structure Tk where
 kind:Nat
 pos:Nat
 text:List UInt8
def zc (p:UInt8→Bool):List UInt8→Nat
 |[]=>0
 |c::s=>match p c with
  |true=>zc p s+1
  |false=>0
theorem Pc (p:UInt8→Bool):∀s,zc p s≤s.length
 |[]=>by simp[zc]
 |c::s=>by
  have:=Pc p s;rw[zc];cases p c
  ·simp
  ·simp only[J4];omega
theorem SO {p:UInt8→Bool} {c:UInt8} {s:List UInt8} (h:p c=true):0<zc p (c::s):=by rw[zc,h];simp
def kq (s:List UInt8):Nat:=
 let g:=if nth 0 s 0=45 then 1 else 0
 let d:=zc isD (s.drop g)
 if d=0 then 0 else
  let n:=g+d
  if nth 0 s n=46∧isD (nth 0 s (n+1))=true then n+1+zc isD (s.drop (n+1))else n
inductive Sc where
 |blank
 |tok (kind n:Nat)
 |bad (e:Nat)
def wF (x:UInt8):Bool:=ltr x||(decide (x=95)||decide (x=46))
def kN (c:UInt8) (s:List UInt8):Sc:=
 if c=32 then .blank
 else if ltr c=true then(if 24<zc nmc (c::s)then .bad 3 else .tok 1 (zc nmc (c::s)))
 else if kq (c::s)≠0 then
  (if vS ((c::s).take (kq (c::s)))=none then .bad 2
   else if wF (nth 0 (c::s) (kq (c::s)))=true then .bad 2
   else .tok 2 (kq (c::s)))
 else if Mo c=true then .tok 3 1
 else .bad 2
theorem wo {c:UInt8} {s:List UInt8} {k n:Nat} (h:kN c s= .tok k n):0<n:=by
 unfold kN at h;by_cases h1:c=32
 ·rw[if_pos h1]at h;simp at h
 rw[if_neg h1]at h;by_cases h2:ltr c=true
 ·rw[if_pos h2]at h;by_cases h3:24<zc nmc (c::s)
  ·rw[if_pos h3]at h;simp at h
  ·rw[if_neg h3]at h;simp only[Sc.tok.injEq]at h;rw[←h.2];exact SO (by unfold nmc;rw[h2];rfl)
 rw[if_neg h2]at h;by_cases h3:kq (c::s)≠0
 ·rw[if_pos h3]at h;by_cases h4:vS ((c::s).take (kq (c::s)))=none
  ·rw[if_pos h4]at h;simp at h
  rw[if_neg h4]at h;by_cases h5:wF (nth 0 (c::s) (kq (c::s)))=true
  ·rw[if_pos h5]at h;simp at h
  rw[if_neg h5]at h;simp only[Sc.tok.injEq]at h;omega
 rw[if_neg h3]at h;by_cases h4:Mo c=true
 ·rw[if_pos h4]at h;simp only[Sc.tok.injEq]at h;omega
 ·rw[if_neg h4]at h;simp at h
def jU (at_:Nat) (s:List UInt8):Except Nat (List Tk):=
 match s with
 |[]=> .ok []
 |c::r=>if c=35 then .ok []else match _h:kN c r with
  | .blank=>jU (at_+1) r
  | .bad e=> .error e
  | .tok k n=>match jU (at_+n) ((c::r).drop n)with
   | .ok l=> .ok (⟨k,at_,(c::r).take n⟩::l)
   | .error e=> .error e
 termination_by s.length
 decreasing_by
 ·simp
 ·have:=wo (by assumption);rw[V1];simp only[J4];omega
theorem wq (n:Nat):jU n []= .ok []:=by rw[jU]
theorem ji (n:Nat) (c:UInt8) (r:List UInt8):jU n (c::r)=if c=35 then .ok []else match kN c r with
 | .blank=>jU (n+1) r
 | .bad e=> .error e
 | .tok k m=>match jU (n+m) ((c::r).drop m)with
  | .ok l=> .ok (⟨k,n,(c::r).take m⟩::l)
  | .error e=> .error e:=by
 rw[jU];split
 ·rfl
 ·split
  ·rename_i h;rw[h]
  ·rename_i h;rw[h]
  ·rename_i h;rw[h]
structure Li where
 number:Nat
 toks:List Tk
def kD (n:Nat):List (List UInt8)→Except (Nat×Nat) (List Li)
 |[]=> .ok []
 |w::r=>match jU 0 w with
  | .error e=> .error (n,e)
  | .ok []=>kD (n+1) r
  | .ok (t::l)=>match kD (n+1) r with
   | .ok m=> .ok (⟨n,t::l⟩::m)
   | .error e=> .error e
end Eng
end

section
namespace Eng
open Go
theorem j0 {a b:List UInt8} (i:Nat):nth 0 (a++b) (a.length+i)=nth 0 b i:=by
 induction a with
 |nil=>rw[Ls,Lr,ar]
 |cons x a ih=>rw[J7,J4,show a.length+1+i=(a.length+i)+1 by omega];exact ih
def Eo (r:List UInt8):Prop:=r=[]∨∃t,r=32::t
theorem YI {r:List UInt8} (h:Eo r):nth 0 r 0=0∨nth 0 r 0=32:=by
 rcases h with rfl|⟨t,rfl⟩
 ·exact .inl rfl
 ·exact .inr rfl
theorem Qk {p:UInt8→Bool}:∀{w r:List UInt8},w.all p=true→(r=[]∨∃x t,r=x::t∧p x=false)→zc p (w++r)=w.length
 |[],r,_,h=>by
  rcases h with rfl|⟨x,t,rfl,hx⟩
  ·rfl
  ·rw[Ls,zc,hx];rfl
 |c::w,r,hw,h=>by simp only[M1,Aw]at hw;rw[J7,zc,hw.1,J4];simp only;rw[Qk hw.2 h]
theorem Hz {p:UInt8→Bool} (hp:p 32=false) {r:List UInt8} (h:Eo r):r=[]∨∃x t,r=x::t∧p x=false:=by
 rcases h with rfl|⟨t,rfl⟩
 ·exact .inl rfl
 ·exact .inr ⟨32,t,rfl,hp⟩
theorem Pd {c:UInt8} {t r:List UInt8} (hc:ltr c=true) (ht:(c::t).all nmc=true) (hl:(c::t).length≤24) (hr:Eo r):kN c (t++r)= .tok 1 (c::t).length:=by
 have h1:=Qk (w:=c::t) (r:=r) ht (Hz (by decide) hr);rw[J7]at h1;unfold kN;rw[if_neg (fun e=>by rw[e]at hc;revert hc;decide),if_pos hc,h1,if_neg (by omega)]
def IQ (g:List UInt8):Prop:=g=[]∨g=[45]
theorem Jv {c:UInt8} (h:isD c=true):c≠45:=fun e=>by rw[e]at h;revert h;decide
theorem SP {g d r:List UInt8} (hg:IQ g) (hd:d≠[]) (ha:d.all isD=true) (hr:Eo r):kq (g++(d++r))=g.length+d.length:=by
 have hl:=Qk (w:=d) (r:=r) ha (Hz (by decide) hr);have hdl:=ak.2 hd;have hh:=YI hr;have a0:¬(nth 0 (g++(d++r)) (g.length+d.length)=46∧isD (nth 0 (g++(d++r)) (g.length+d.length+1))=true):=fun h=>by have e:=j0 (a:=g++d) (b:=r) 0;rw[J6,av,M0]at e;rw[e]at h;rcases hh with h2|h2<;>(rw[h2]at h;exact absurd h.1 (by decide))
 unfold kq;rcases hg with rfl|rfl
 ·obtain⟨c,d,rfl⟩:∃c d',d=c::d':=by
   match d,hd with
   |c::d,_=>exact⟨c,d,rfl⟩
  have hc:isD c=true:=by simp only[M1,Aw]at ha;exact ha.1
  have e0:nth 0 ([]++(c::d++r)) 0=c:=rfl;rw[e0,if_neg (Jv hc)];simp only[Ls,W2,Lr,ar]at a0 ⊢;rw[hl,if_neg (by omega),if_neg a0]
 ·have e0:nth 0 ([45]++(d++r)) 0=45:=rfl;have ed:ae 1 ([45]++(d++r))=d++r:=rfl;rw[e0,if_pos rfl];simp only[ed,J4,Lr,ar]at a0 ⊢;rw[hl,if_neg (by omega),if_neg a0]
theorem Ep {g d p r:List UInt8} (hg:IQ g) (hd:d≠[]) (ha:d.all isD=true) (hp:p≠[]) (hb:p.all isD=true) (hr:Eo r):kq (g++(d++46::(p++r)))=g.length+d.length+1+p.length:=by
 have hl:=Qk (w:=d) (r:=46::(p++r)) ha (.inr ⟨46,_,rfl,by decide⟩);have a2:=Qk (w:=p) (r:=r) hb (Hz (by decide) hr);have hdl:=ak.2 hd;obtain⟨q,p,rfl⟩:∃q p',p=q::p':=by
  match p,hp with
  |q::p,_=>exact⟨q,p,rfl⟩
 have hq:isD q=true:=by simp only[M1,Aw]at hb;exact hb.1
 have e1:=j0 (a:=g++d) (b:=46::(q::p++r)) 0;have e2:=j0 (a:=g++d) (b:=46::(q::p++r)) 1;rw[J6,M0]at e1 e2;rw[av]at e1;have a0:nth 0 (g++(d++46::(q::p++r))) (g.length+d.length)=46∧isD (nth 0 (g++(d++46::(q::p++r))) (g.length+d.length+1))=true:=⟨e1,by rw[e2];exact hq⟩;have a1:ae (g.length+d.length+1) (g++(d++46::(q::p++r)))=q::p++r:=by
  have:g++(d++46::(q::p++r))=(g++d++[46])++(q::p++r):=by simp
  rw[this,W1 (by simp;omega),List.drop_of_length_le (by simp;omega)];rfl
 unfold kq;rcases hg with rfl|rfl
 ·obtain⟨c,d,rfl⟩:∃c d',d=c::d':=by
   match d,hd with
   |c::d,_=>exact⟨c,d,rfl⟩
  have hc:isD c=true:=by simp only[M1,Aw]at ha;exact ha.1
  have e0:nth 0 ([]++(c::d++46::(q::p++r))) 0=c:=rfl;rw[e0,if_neg (Jv hc)];simp only[Ls,W2,Lr,ar]at a0 a1 ⊢;rw[hl,if_neg (by omega),if_pos a0,a1,a2]
 ·have e0:nth 0 ([45]++(d++46::(q::p++r))) 0=45:=rfl;have ed:ae 1 ([45]++(d++46::(q::p++r)))=d++46::(q::p++r):=rfl;rw[e0,if_pos rfl];simp only[ed,J4 (a:=(45:UInt8)),Lr,ar]at a0 a1 ⊢;rw[hl,if_neg (by omega),if_pos a0,a1,a2]
theorem Jw (z:Int):IQ (sgT z):=by
 unfold sgT;cases decide (z<0)
 ·exact .inl rfl
 ·exact .inr rfl
theorem SQ {z:Int} {k:Nat} (hk:k≤30) {c:UInt8} {t r:List UInt8} (he:sgT z++qY z.natAbs k=c::t) (hr:Eo r):kN c (t++r)= .tok 2 (c::t).length:=by
 have a0:=Xg (z:=z) hk;have a1:kq (c::(t++r))=(c::t).length:=by
  rw[←J7,←he]
  match k,hk with
  |0,_=>have es:qY z.natAbs 0=I0 z.natAbs:=rfl;rw[es,M0,SP (Jw z) (kM _) (jx _) hr,J6]
  |k+1,_=>have es:qY z.natAbs (k+1)=I0 (z.natAbs/10^(k+1))++46::xq (k+1) z.natAbs:=rfl;rw[es,M0,M0,J7,Ep (Jw z) (kM _) (jx _) (fun e=>by have:=congrArg ai e;rw[qN]at this;simp at this) (Q6 _ _) hr];rw[J6,J6,J4];omega
 have hc:c=45∨isD c=true:=by
  have h1:c∈sgT z++qY z.natAbs k:=by rw[he];simp
  have h2:=kM;rcases Jw z with hg|hg
  ·rw[hg,Ls]at he;right
   match k with
   |0=>exact jT he
   |k+1=>
    have es:qY z.natAbs (k+1)=I0 (z.natAbs/10^(k+1))++46::xq (k+1) z.natAbs:=rfl;rw[es]at he
    match hx:I0 (z.natAbs/10^(k+1)),h2 (z.natAbs/10^(k+1))with
    |a::l,_=>rw[hx,J7,aq]at he;rw[←he.1];exact jT hx
  ·rw[hg]at he;left;simp only[J7,aq]at he;exact he.1.symm
 have h32:c≠32:=fun e=>by
  rcases hc with h|h
  ·rw[e]at h;revert h;decide
  ·rw[e]at h;revert h;decide
 have hlt:¬ltr c=true:=fun hl=>by
  rcases hc with h|h
  ·rw[h]at hl;revert hl;decide
  ·have:=jc.1 h;unfold ltr at hl;simp only[Bx,Aw,decide_eq_true_eq]at hl;omega
 have htk:ap (c::t).length (c::(t++r))=c::t:=by rw[←J7,W0 (ax _),U3]
 have hgl:¬wF (nth 0 (c::(t++r)) (c::t).length)=true:=by have e:=j0 (a:=c::t) (b:=r) 0;rw[av,J7]at e;rw[e];rcases YI hr with h2|h2<;>(rw[h2];decide)
 unfold kN;rw[if_neg h32,if_neg hlt,a1,if_pos (by simp),htk,←he,a0,if_neg (by simp),he,if_neg hgl]
end Eng
end

section
namespace Eng
open Go
def jN (k:Nat) (w:List UInt8):Prop:=
 (k=1∧w.length≤24∧w.all nmc=true∧∃c t,w=c::t∧ltr c=true)∨(k=2∧∃(z:Int) (n:Nat),n≤30∧w=sgT z++qY z.natAbs n)
theorem SR (u k:Nat):qY u k≠[]:=by
 match k with
 |0=>exact kM u
 |k+1=>intro e;have es:qY u (k+1)=I0 (u/10^(k+1))++46::xq (k+1) u:=rfl;rw[es]at e;simp at e
theorem Mp {u k:Nat} {c:UInt8} {t:List UInt8} (h:qY u k=c::t):isD c=true:=by
 match k with
 |0=>exact jT h
 |k+1=>
  have es:qY u (k+1)=I0 (u/10^(k+1))++46::xq (k+1) u:=rfl;rw[es]at h
  match hx:I0 (u/10^(k+1)),kM (u/10^(k+1))with
  |a::l,_=>rw[hx,J7,aq]at h;rw[←h.1];exact jT hx
theorem KO {k:Nat} {w:List UInt8} (h:jN k w):∃c t,w=c::t∧c≠35∧∀r,Eo r→kN c (t++r)= .tok k (c::t).length:=by
 rcases h with⟨rfl,hl,ha,c,t,rfl,hc⟩|⟨rfl,z,n,hn,rfl⟩
 ·exact⟨c,t,rfl,fun e=>by rw[e]at hc;revert hc;decide,fun r hr=>Pd hc ha hl hr⟩
 ·match he:sgT z++qY z.natAbs n with
  |[]=>exact absurd (List.append_eq_nil_iff.1 he).2 (SR _ _)
  |c::t=>
   refine⟨c,t,rfl,fun e=>?_,fun r hr=>SQ hn he hr⟩;rcases Jw z with hg|hg
   ·rw[hg,Ls]at he;have:=Mp he;rw[e]at this;revert this;decide
   ·rw[hg]at he;simp only[J7,aq]at he;rw[e]at he;exact absurd he.1 (by decide)
def Es:Nat→List (Nat×List UInt8)→List Tk
 |_,[]=>[]
 |n,(k,w)::r=>⟨k,n,w⟩::Es (n+w.length+1) r
theorem Mq (n:Nat) (r:List UInt8):jU n (32::r)=jU (n+1) r:=by
 rw[ji,if_neg (by decide)];have:kN 32 r= .blank:=rfl;rw[this]
theorem KP:∀(l:List (Nat×List UInt8)) (n:Nat),(∀p∈l,jN p.1 p.2)→jU n (wE 32 (l.map (·.2)))= .ok (Es n l)
 |[],n,_=>wq n
 |[(k,w)],n,h=>by obtain⟨c,t,rfl,h35,hs⟩:=KO (h (k,w) (by simp));have hs:=hs [] (.inl rfl);rw[Ts]at hs;show jU n (c::t)=_;rw[ji,if_neg h35,hs];simp only[am,U3,wq];rfl
 |(k,w)::(k2,w2)::l,n,h=>by
  obtain⟨c,t,rfl,h35,hs⟩:=KO (h (k,w) (by simp));have ih:=KP ((k2,w2)::l) (n+(c::t).length+1) fun p hp=>h p (by simp only[J9]at hp ⊢;exact .inr hp)
  have e:wE 32 (((k,c::t)::(k2,w2)::l).map (·.2))=c::(t++32::wE 32 (((k2,w2)::l).map (·.2))):=rfl;rw[e];generalize wE 32 (((k2,w2)::l).map (·.2))=R at *;have hs:=hs (32::R) (.inr ⟨R,rfl⟩);have hd:ae (c::t).length (c::(t++32::R))=32::R:=by rw[←J7,W1 (ax _),am];rfl
  have ht:ap (c::t).length (c::(t++32::R))=c::t:=by rw[←J7,W0 (ax _),U3]
  rw[ji,if_neg h35,hs];simp only[hd,ht,Mq,ih];rfl
end Eng
end

section
namespace Eng
open Go
def exF (b:Rat):Nat→Nat→Option (Int×Nat)
 |0,_=>none
 |f+1,k=>if(b*((10^k:Nat):Rat)).den=1 then some ((b*((10^k:Nat):Rat)).num,k)else exF b f (k+1)
def exq (b:Rat):Option (Int×Nat):=exF b 31 0
theorem UN {b:Rat}:∀{f k n:Nat} {z:Int},exF b f k=some (z,n)→n<k+f∧b*((10^n:Nat):Rat)=(z:Rat)
 |0,_,_,_,h=>by simp[exF]at h
 |f+1,k,n,z,h=>by
  rw[exF]at h;by_cases hd:(b*((10^k:Nat):Rat)).den=1
  ·rw[if_pos hd]at h;simp only[aF,aG]at h;obtain⟨rfl,rfl⟩:=h;exact⟨by omega,(Vy hd).symm⟩
  ·rw[if_neg hd]at h;obtain⟨h1,h2⟩:=UN h;exact⟨by omega,h2⟩
theorem WS {b:Rat} {n:Nat} {z:Int} (h:exq b=some (z,n)):n≤30∧b*((10^n:Nat):Rat)=(z:Rat):=by
 obtain⟨h1,h2⟩:=UN h;exact⟨by omega,h2⟩
theorem C1 (n:Nat):((10^n:Nat):Rat)≠0:=by
 have h:(10^n:Nat)≠0:=az.1 (au (by omega))
 exact_mod_cast h
def XU (s:List UInt8):Option Rat:=match vS s with
 |none=>none
 |some (m,k)=>some ((m:Rat)/((10^k:Nat):Rat))
def X3 (b:Rat):List UInt8:=match exq b with
 |none=>[]
 |some (z,n)=>sgT z++qY z.natAbs n
theorem SS {b:Rat} {z:Int} {n:Nat} (h:exq b=some (z,n)):XU (X3 b)=some b:=by
 obtain⟨h1,h2⟩:=WS h;unfold XU X3;rw[h];simp only;rw[Xg h1];simp only;rw[←h2,Rat.mul_div_cancel (C1 n)]
theorem Pe {b:Rat} {z:Int} {n:Nat} (h:exq b=some (z,n)):jN 2 (X3 b):=by
 obtain⟨h1,_⟩:=WS h;unfold X3;rw[h];exact .inr ⟨rfl,z,n,h1,rfl⟩
theorem Pf (d:Int):∃k,k≤3∧mm d=sgT d++qY (d.natAbs*10^k/1000) k∧d.natAbs*10^k%1000=0:=by
 obtain⟨k,hk,h1,h2⟩:=Tt d.natAbs;refine⟨k,hk,?_,h1⟩;have h3:mm d=sgT d++mmU d.natAbs:=rfl;rw[h3,JH _ _ h1 h2 hk]
theorem C2 (d:Int):∃(z:Int) (k:Nat),k≤3∧mm d=sgT z++qY z.natAbs k∧z*1000=d*((10^k:Nat):Int):=by
 obtain⟨k,hk,h1,h2⟩:=Pf d;have hq:d.natAbs*10^k/1000*1000=d.natAbs*10^k:=by omega
 refine⟨if d<0 then-((d.natAbs*10^k/1000:Nat):Int)else((d.natAbs*10^k/1000:Nat):Int),k,hk,?_,?_⟩
 ·rw[h1];have hp:0<10^k:=au (by omega);by_cases hd:d<0
  ·rw[if_pos hd];have hpos:0<d.natAbs*10^k/1000:=by have:1*1≤d.natAbs*10^k:=Nat.mul_le_mul (by omega) hp;omega
   have e1:sgT (-((d.natAbs*10^k/1000:Nat):Int))=sgT d:=by unfold sgT;rw[decide_eq_true (show-((d.natAbs*10^k/1000:Nat):Int)<0 by omega),decide_eq_true hd]
   rw[e1,J3,I1]
  ·rw[if_neg hd];have e1:sgT (((d.natAbs*10^k/1000:Nat):Int))=sgT d:=by unfold sgT;rw[decide_eq_false (show ¬((d.natAbs*10^k/1000:Nat):Int)<0 by omega),decide_eq_false hd]
   rw[e1,I1]
 ·by_cases hd:d<0
  ·rw[if_pos hd];have:((d.natAbs*10^k/1000*1000:Nat):Int)=((d.natAbs*10^k:Nat):Int):=by rw[hq]
   rw[I2,I2]at this;have e:((d.natAbs:Nat):Int)= -d:=by omega
   rw[e,Int.neg_mul]at this;omega
  ·rw[if_neg hd];have:((d.natAbs*10^k/1000*1000:Nat):Int)=((d.natAbs*10^k:Nat):Int):=by rw[hq]
   rw[I2,I2]at this;have e:((d.natAbs:Nat):Int)=d:=by omega
   rw[e]at this;omega
theorem ST (d:Int):jN 2 (mm d):=by
 obtain⟨z,k,hk,h,_⟩:=C2 d;exact .inr ⟨rfl,z,k,by omega,h⟩
def SU (s:List UInt8):Option Int:=match vS s with
 |none=>none
 |some (m,k)=>if k≤3 then some (m*((10^(3-k):Nat):Int))else none
theorem Et (d:Int):SU (mm d)=some d:=by
 obtain⟨z,k,hk,h,e⟩:=C2 d;unfold SU;rw[h,Xg (by omega)];simp only;rw[if_pos hk];congr 1;have h10:((10^(3-k):Nat):Int)*((10^k:Nat):Int)=1000:=by rw[←I2,←Nat.pow_add,show 3-k+k=3 by omega];rfl
 have hne:((10^k:Nat):Int)≠0:=by have:(10^k:Nat)≠0:=az.1 (au (by omega));omega
 refine Int.eq_of_mul_eq_mul_right hne ?_;rw[Int.mul_assoc,h10,e]
end Eng
end

section
namespace Eng
open Go
structure Ly where
 name:List UInt8
 kind:Int
 depth:Int
structure En where
 kind:Int
 layer:List UInt8
 pts:List V2
 rad:Rat
def xB:List UInt8:=[108,97,121,101,114]
def kE:List UInt8:=[108,105,110,101]
def Xh:List UInt8:=[97,114,99]
def zf:List UInt8:=[99,105,114,99,108,101]
def Ql:List UInt8:=[112,111,99,107,101,116]
def Qm:List UInt8:=[105,115,108,97,110,100]
def YJ:List UInt8:=[104,111,108,101]
def vc:List UInt8:=[112,114,111,102,105,108,101]
def JZ (k:Int):List UInt8:=if k=1 then Ql else if k=2 then Qm else if k=3 then YJ else if k=4 then vc else []
def X4 (k:Int):List UInt8:=if k=1 then kE else if k=2 then Xh else if k=3 then zf else []
def kh (w:List UInt8):Bool:=decide (w.length≤24)&&(w.all nmc&&match w with|[]=>false|c::_=>ltr c)
theorem xC {w:List UInt8} (h:kh w=true):jN 1 w:=by
 unfold kh at h;simp only[Aw,decide_eq_true_eq]at h;obtain⟨h1,h2,h3⟩:=h
 match w,h3 with
 |c::t,h3=>exact .inl ⟨rfl,h1,h2,c,t,rfl,h3⟩
def y3 (l:Ly):Bool:=kh l.name&&((decide (l.kind=1∨l.kind=3)&&decide (1≤l.depth∧l.depth≤10000000))||(decide (l.kind=2∨l.kind=4)&&decide (l.depth=0)))
def vd (a:Rat):Bool:=decide (-10000000≤a∧a≤10000000)&&(exq (a/1000)).isSome
def wt (k:Int):Nat:=if k=1 then 2 else if k=2 then 3 else if k=3 then 1 else 0
def Ka (e:En):Bool:=decide (1≤e.kind∧e.kind≤3)&&(decide (e.pts.length=wt e.kind)&&(e.pts.all (fun p=>vd p.x&&vd p.y)&&(decide (e.kind≠3)||(vd e.rad&&decide (0<e.rad)))))
abbrev Wd:=Nat×List UInt8
def zK (l:Ly):List Wd:=[(1,xB),(1,l.name),(1,JZ l.kind),(2,mm l.depth)]
def Eu (a:Rat):Wd:=(2,X3 (a/1000))
def X5 (e:En):List Rat:=(e.pts.flatMap fun p=>[p.x,p.y])++(if e.kind=3 then [e.rad]else [])
def xQ (e:En):List Wd:=(1,X4 e.kind)::(1,e.layer)::(X5 e).map Eu
def kF (l:List Wd):List UInt8:=wE 32 (l.map (·.2))
def Gm (p:Wd):Option Rat:=if p.1=2 then(match XU p.2 with|none=>none|some q=>some (q*1000))else none
def xK:List Wd→Option (List Rat)
 |[]=>some []
 |p::r=>match Gm p with
  |none=>none
  |some q=>match xK r with
   |none=>none
   |some l=>some (q::l)
def wv (w:List UInt8):Int:=if w=Ql then 1 else if w=Qm then 2 else if w=YJ then 3 else if w=vc then 4 else 0
def Rx (s:List UInt8):Option Int:=match SU s with
 |none=>none
 |some d=>if-10000000≤d∧d≤10000000 then some d else none
def y9:List Wd→Option Ly
 |[(1,a),(1,b),(1,c),(2,d)]=>if a=xB∧wv c≠0 then(match Rx d with|none=>none|some x=>some ⟨b,wv c,x⟩)else none
 |_=>none
def XV (w n:List UInt8) (q:List Rat):Option En:=
 if w=kE then(match q with|[a,b,c,d]=>some ⟨1,n,[⟨a,b⟩,⟨c,d⟩],0⟩|_=>none)
 else if w=Xh then(match q with|[a,b,c,d,e,f]=>some ⟨2,n,[⟨a,b⟩,⟨c,d⟩,⟨e,f⟩],0⟩|_=>none)
 else if w=zf then(match q with|[a,b,r]=>some ⟨3,n,[⟨a,b⟩],r⟩|_=>none)
 else none
def ve:List Wd→Option En
 |(1,w)::(1,n)::r=>match xK r with
  |none=>none
  |some q=>XV w n q
 |_=>none
theorem Jx {a:Rat} (h:vd a=true):∃z n,exq (a/1000)=some (z,n):=by
 unfold vd at h;simp only[Aw]at h
 match hx:exq (a/1000),h.2 with
 |some (z,n),_=>exact⟨z,n,rfl⟩
theorem Az {a:Rat} (h:vd a=true):Gm (Eu a)=some a:=by
 obtain⟨z,n,hx⟩:=Jx h;unfold Gm Eu;rw[if_pos rfl,SS hx];simp only;rw[Rat.div_mul_cancel (by decide)]
theorem Pg {a:Rat} (h:vd a=true):jN (Eu a).1 (Eu a).2:=by
 obtain⟨z,n,hx⟩:=Jx h;exact Pe hx
theorem Ph:∀{l:List Rat},(∀a∈l,vd a=true)→xK (l.map Eu)=some l
 |[],_=>rfl
 |a::l,h=>by rw[Lm,xK,Az (h a (by simp))];simp only;rw[Ph fun b hb=>h b (by simp[hb])]
theorem Mr {l:Ly} (h:y3 l=true):y9 (zK l)=some l:=by
 obtain⟨nm,k,d⟩:=l;unfold y3 at h;simp only[Aw,Bx,decide_eq_true_eq]at h;obtain⟨_,h⟩:=h;have hk:wv (JZ k)=k∧k≠0:=by rcases h with⟨h|h,_⟩|⟨h|h,_⟩<;>(subst h;exact⟨by decide,by decide⟩)
 have hd: -10000000≤d∧d≤10000000:=by rcases h with⟨_,h⟩|⟨_,h⟩<;>omega
 unfold zK y9;simp only;rw[hk.1,if_pos ⟨trivial,hk.2⟩];unfold Rx;rw[Et];simp only;rw[if_pos hd]
theorem Jy {e:En} (h:Ka e=true):∀a∈X5 e,vd a=true:=by
 obtain⟨k,n,ps,r⟩:=e;unfold Ka at h;simp only[Aw,Bx,decide_eq_true_eq]at h;obtain⟨_,_,h3,h4⟩:=h;intro a ha;unfold X5 at ha;simp only[Lv,List.mem_flatMap]at ha;rcases ha with⟨p,hp,ha⟩|ha
 ·have:=Pl.1 h3 p hp;simp only[Aw]at this;simp only[J9,No,or_false]at ha;rcases ha with rfl|rfl
  ·exact this.1
  ·exact this.2
 ·by_cases hk:k=3
  ·rw[if_pos hk]at ha;simp only[J9,No,or_false]at ha;subst ha;rcases h4 with h4|h4
   ·exact absurd hk h4
   ·exact h4.1
  ·rw[if_neg hk]at ha;simp at ha
def wG (e:En):En:=⟨e.kind,e.layer,e.pts,if e.kind=3 then e.rad else 0⟩
theorem Ms {e:En} (h:Ka e=true):ve (xQ e)=some (wG e):=by
 have hn:=Ph (Jy h);unfold xQ ve;simp only;rw[hn];simp only;obtain⟨k,n,ps,r⟩:=e;unfold Ka at h;simp only[Aw,decide_eq_true_eq]at h;obtain⟨h1,h2,_,_⟩:=h;have h1:k=1∨k=2∨k=3:=by have h1:1≤k∧k≤3:=h1;omega
 rcases h1 with rfl|rfl|rfl
 ·match ps,h2 with
  |[p,q],_=>rfl
 ·match ps,h2 with
  |[p,q,s],_=>rfl
 ·match ps,h2 with
  |[p],_=>rfl
theorem UO:jN 1 xB∧jN 1 kE∧jN 1 Xh∧jN 1 zf∧jN 1 Ql∧jN 1 Qm∧jN 1 YJ∧jN 1 vc:=
 ⟨xC (by decide),xC (by decide),xC (by decide),xC (by decide),xC (by decide),xC (by decide),xC (by decide),xC (by decide)⟩
theorem X6 {l:Ly} (h:y3 l=true):∀p∈zK l,jN p.1 p.2:=by
 obtain⟨nm,k,d⟩:=l;unfold y3 at h;simp only[Aw,Bx,decide_eq_true_eq]at h;obtain⟨h1,h⟩:=h;obtain⟨g1,_,_,_,g5,g6,g7,g8⟩:=UO;have hk:jN 1 (JZ k):=by
  rcases h with⟨h|h,_⟩|⟨h|h,_⟩<;>subst h
  ·exact g5
  ·exact g7
  ·exact g6
  ·exact g8
 intro p hp;unfold zK at hp;simp only[J9,No,or_false]at hp;rcases hp with rfl|rfl|rfl|rfl
 ·exact g1
 ·exact xC h1
 ·exact hk
 ·exact ST d
theorem X7 {e:En} (hl:kh e.layer=true) (h:Ka e=true):∀p∈xQ e,jN p.1 p.2:=by
 have hn:=Jy h;obtain⟨_,g2,g3,g4,_⟩:=UO;intro p hp;unfold xQ at hp;simp only[J9,M2]at hp;rcases hp with rfl|rfl|⟨a,ha,rfl⟩
 ·obtain⟨k,n,ps,r⟩:=e;unfold Ka at h;simp only[Aw,decide_eq_true_eq]at h;have h1:1≤k∧k≤3:=h.1;have h1:k=1∨k=2∨k=3:=by omega
  rcases h1 with rfl|rfl|rfl
  ·exact g2
  ·exact g3
  ·exact g4
 ·exact xC hl
 ·exact Pg (hn a ha)
end Eng
end

section
namespace Eng
open Go
def xV (seen:List Ly) (l:Ly):Nat:=if y3 l=true then(if l.name∈seen.map (·.name)then 5 else 0)else 1
def xn (ls:List Ly) (e:En):Nat:=if e.layer∈ls.map (·.name)then(if Ka e=true then 0 else 1)else 4
def xR:List Ly→List Ly→Nat
 |_,[]=>0
 |seen,l::r=>match xV seen l with
  |0=>xR (seen++[l]) r
  |e=>e
def kr (ls:List Ly):List En→Nat
 |[]=>0
 |e::r=>match xn ls e with
  |0=>kr ls r
  |x=>x
def zb (ls:List Ly) (es:List En):Nat:=
 if 20<ls.length∨200<es.length then 3 else match xR [] ls with
  |0=>kr ls es
  |e=>e
def X8 (ls:List Ly) (es:List En):List (List Wd):=ls.map zK++es.map xQ
def Kb (ls:List Ly) (es:List En):List UInt8:=(X8 ls es).flatMap fun w=>kF w++[10]
def tkW (l:List Tk):List Wd:=l.map fun t=>(t.kind,t.text)
def j5:List Li→List Ly→List En→Except (Nat×Nat) (List Ly×List En)
 |[],ls,es=> .ok (ls,es)
 |x::r,ls,es=>match y9 (tkW x.toks)with
  |some l=>match(if 20<ls.length+1∨200<es.length then 3 else xV ls l)with
   |0=>j5 r (ls++[l]) es
   |e=> .error (x.number,e)
  |none=>match ve (tkW x.toks)with
   |some e=>match(if 20<ls.length∨200<es.length+1 then 3 else xn ls e)with
    |0=>j5 r ls (es++[e])
    |k=> .error (x.number,k)
   |none=> .error (x.number,2)
def YK (s:List UInt8):Except (Nat×Nat) (List Ly×List En):=match kD 1 (qC 10 s)with
 | .error e=> .error e
 | .ok l=>j5 l [] []
theorem H0:∀(l:List Wd) (n:Nat),tkW (Es n l)=l
 |[],_=>rfl
 |(k,w)::r,n=>by have:=H0 r (n+w.length+1);unfold tkW at this ⊢;rw[Es,Lm,this]
theorem SV {k:Nat} {w:List UInt8} (h:jN k w):∀a∈w,a≠10:=by
 rcases h with⟨_,_,ha,_⟩|⟨_,z,n,_,rfl⟩
 ·intro a h1 e;have:=Pl.1 ha a h1;rw[e]at this;revert this;decide
 ·intro a h1 e;subst e;rw[Lv]at h1;rcases h1 with h1|h1
  ·rcases Jw z with hg|hg
   ·rw[hg]at h1;simp at h1
   ·rw[hg]at h1;revert h1;decide
  ·match n,h1 with
   |0,h1=>have:=Pl.1 (jx z.natAbs) _ h1;revert this;decide
   |n+1,h1=>
    have es:qY z.natAbs (n+1)=I0 (z.natAbs/10^(n+1))++46::xq (n+1) z.natAbs:=rfl;rw[es,Lv,J9]at h1;rcases h1 with h1|h1|h1
    ·have:=Pl.1 (jx _) _ h1;revert this;decide
    ·revert h1;decide
    ·have:=Pl.1 (Q6 _ _) _ h1;revert this;decide
theorem SW {l:List Wd} (h:∀p∈l,jN p.1 p.2):∀a∈kF l,a≠10:=fun a ha=>by
 rcases YG ha with rfl|⟨w,hw,h1⟩
 ·decide
 ·simp only[M2]at hw;obtain⟨p,hp,rfl⟩:=hw;exact SV (h p hp) a h1
theorem Xi:∀{L:List (List Wd)},(∀l∈L,∀p∈l,jN p.1 p.2)→qC 10 (L.flatMap fun w=>kF w++[10])=L.map kF++[[]]
 |[],_=>rfl
 |l::L,h=>by
  have e:(l::L).flatMap (fun w=>kF w++[10])=kF l++10::L.flatMap (fun w=>kF w++[10]):=by rw[U0];simp
  rw[e,vG (SW (h l (by simp))),Xi fun m hm=>h m (by simp[hm])];rfl
def ki:Nat→List (List Wd)→List Li
 |_,[]=>[]
 |n,w::r=>⟨n,Es 0 w⟩::ki (n+1) r
theorem UP:∀{L:List (List Wd)} (n:Nat),(∀l∈L,l≠[]∧∀p∈l,jN p.1 p.2)→kD n (L.map kF++[[]])= .ok (ki n L)
 |[],n,_=>by show kD n [[]]=_;rw[kD,wq];simp only;rw[kD];rfl
 |l::L,n,h=>by
  obtain⟨h1,h2⟩:=h l (by simp);have ih:=UP (n+1) (L:=L) fun m hm=>h m (by simp[hm])
  rw[Lm,J7,kD];have ht:jU 0 (kF l)= .ok (Es 0 l):=KP l 0 h2;rw[ht]
  match l,h1 with
  |(k,w)::r,_=>rw[ki,Es];simp only;rw[ih]
theorem Ev {e:En} (h:Ka e=true):y9 (xQ e)=none:=by
 obtain⟨k,n,ps,r⟩:=e;unfold Ka at h;simp only[Aw,decide_eq_true_eq]at h;obtain⟨h1,h2,_,_⟩:=h;have h1:1≤k∧k≤3:=h1;have h1:k=1∨k=2∨k=3:=by omega
 rcases h1 with rfl|rfl|rfl
 ·match ps,h2 with
  |[p,q],_=>rfl
 ·match ps,h2 with
  |[p,q,s],_=>rfl
 ·match ps,h2 with
  |[p],_=>rfl
theorem C3 {ls:List Ly} (hl:ls.length≤20):∀{es:List En} {done:List En} (n:Nat),done.length+es.length≤200→kr ls es=0→j5 (ki n (es.map xQ)) ls done= .ok (ls,done++es.map wG)
 |[],done,n,_,_=>by simp[ki,j5]
 |e::es,done,n,hlen,h=>by
  rw[kr]at h;have hk:xn ls e=0:=by
   cases hx:xn ls e with
   |zero=>rfl
   |succ m=>rw[hx]at h;simp at h
  rw[hk]at h;simp only at h;have a0:Ka e=true∧e.layer∈ls.map (·.name):=by
   unfold xn at hk;by_cases h1:e.layer∈ls.map (·.name)
   ·rw[if_pos h1]at hk;by_cases h2:Ka e=true
    ·exact⟨h2,h1⟩
    ·rw[if_neg h2]at hk;simp at hk
   ·rw[if_neg h1]at hk;simp at hk
  have hkn:xn ls (wG e)=0:=by
   have h1:Ka (wG e)=true:=by
    have:=a0.1;unfold Ka wG at *;simp only at this ⊢;simp only[Aw,Bx,decide_eq_true_eq]at this ⊢;refine⟨this.1,this.2.1,this.2.2.1,?_⟩;by_cases hk:e.kind=3
    ·right;rw[if_pos hk];rcases this.2.2.2 with h|h
     ·exact absurd hk h
     ·exact h
    ·exact .inl hk
   unfold xn;rw[if_pos (show(wG e).layer∈ls.map (·.name)from a0.2),if_pos h1]
  rw[J4]at hlen;rw[Lm,ki,j5];simp only[H0,Ev a0.1,Ms a0.1];rw[if_neg (by omega),hkn];simp only;rw[C3 hl (n+1) (by rw[J6,J4,Lr];omega) h];simp
theorem C4 {es:List En}:∀{ls seen:List Ly} (n:Nat),seen.length+ls.length≤20→es.length≤200→xR seen ls=0→kr (seen++ls) es=0→j5 (ki n (ls.map zK++es.map xQ)) seen []= .ok (seen++ls,es.map wG)
 |[],seen,n,h1,h2,_,h4=>by
  rw[Ts]at h4 ⊢;have:=C3 (done:=[]) (by simpa using h1) n (by simpa using h2) h4
  simpa using this
 |l::ls,seen,n,h1,h2,h3,h4=>by
  rw[xR]at h3;have hk:xV seen l=0:=by
   cases hx:xV seen l with
   |zero=>rfl
   |succ m=>rw[hx]at h3;simp at h3
  rw[hk]at h3;simp only at h3;have hok:y3 l=true:=by
   unfold xV at hk;by_cases h:y3 l=true
   ·exact h
   ·rw[if_neg h]at hk;simp at hk
  rw[J4]at h1;rw[Lm,J7,ki,j5];simp only[H0,Mr hok];rw[if_neg (by simp;omega),hk];simp only;rw[C4 (n+1) (by rw[J6,J4,Lr];omega) h2 h3 (by rw[M0];exact h4)];simp
theorem Qn:∀{ls seen:List Ly},xR seen ls=0→∀l∈ls,y3 l=true
 |x::ls,seen,h,l,hl=>by
  rw[xR]at h;have hk:xV seen x=0:=by
   cases hx:xV seen x with
   |zero=>rfl
   |succ m=>rw[hx]at h;simp at h
  rw[hk]at h;simp only[J9]at hl;rcases hl with rfl|hl
  ·unfold xV at hk;by_cases h:y3 l=true
   ·exact h
   ·rw[if_neg h]at hk;simp at hk
  ·exact Qn h l hl
theorem Qo {ls:List Ly}:∀{es:List En},kr ls es=0→∀e∈es,Ka e=true∧e.layer∈ls.map (·.name)
 |x::es,h,e,he=>by
  rw[kr]at h;have hk:xn ls x=0:=by
   cases hx:xn ls x with
   |zero=>rfl
   |succ m=>rw[hx]at h;simp at h
  rw[hk]at h;simp only[J9]at he;rcases he with rfl|he
  ·unfold xn at hk;by_cases h1:e.layer∈ls.map (·.name)
   ·rw[if_pos h1]at hk;by_cases h2:Ka e=true
    ·exact⟨h2,h1⟩
    ·rw[if_neg h2]at hk;simp at hk
   ·rw[if_neg h1]at hk;simp at hk
  ·exact Qo h e he
theorem YL {ls:List Ly} {es:List En} (h:zb ls es=0):YK (Kb ls es)= .ok (ls,es.map wG):=by
 unfold zb at h;by_cases hb:20<ls.length∨200<es.length
 ·rw[if_pos hb]at h;simp at h
 rw[if_neg hb]at h;have h1:xR [] ls=0:=by
  cases hx:xR [] ls with
  |zero=>rfl
  |succ m=>rw[hx]at h;simp at h
 rw[h1]at h;simp only at h;have hl:=Qn h1;have he:=Qo h;have a0:∀l∈ls,kh l.name=true:=fun l hl'=>by have:=hl l hl';unfold y3 at this;simp only[Aw]at this;exact this.1
 have hL:∀l∈X8 ls es,l≠[]∧∀p∈l,jN p.1 p.2:=fun l hx=>by
  unfold X8 at hx;rw[Lv,M2,M2]at hx;rcases hx with⟨x,hx,rfl⟩|⟨x,hx,rfl⟩
  ·exact⟨by simp[zK],X6 (hl x hx)⟩
  ·obtain⟨h2,h3⟩:=he x hx;rw[M2]at h3;obtain⟨y,hy,e⟩:=h3;exact⟨by simp[xQ],X7 (by rw[←e];exact a0 y hy) h2⟩
 unfold YK Kb;rw[Xi fun l hx=>(hL l hx).2,UP 1 hL];simp only;have:=C4 (ls:=ls) (es:=es) (seen:=[]) 1 (by simp;omega) (by omega) h1 (by simpa using h);unfold X8
 simpa using this
end Eng
end

section
namespace Eng
open Go
theorem KQ:∀{ls seen:List Ly} {l:Ly},xR seen ls=0→xV (seen++ls) l=0→xR seen (ls++[l])=0
 |[],seen,l,_,h=>by rw[Ts]at h;rw[Ls,xR,h];rfl
 |x::ls,seen,l,h1,h2=>by
  rw[xR]at h1;have hk:xV seen x=0:=by
   cases hx:xV seen x with
   |zero=>rfl
   |succ m=>rw[hx]at h1;simp at h1
  rw[hk]at h1;simp only at h1;rw[J7,xR,hk];simp only;exact KQ h1 (by rw[M0];exact h2)
theorem Jz {ls:List Ly} {l:Ly} {e:En} (h:xn ls e=0):xn (ls++[l]) e=0:=by
 unfold xn at h ⊢;by_cases h1:e.layer∈ls.map (·.name)
 ·rw[if_pos h1]at h;rw[if_pos (by rw[List.map_append,Lv];exact .inl h1),h]
 ·rw[if_neg h1]at h;simp at h
theorem jj {ls:List Ly}:∀{es:List En},kr ls es=0↔∀e∈es,xn ls e=0
 |[]=>by simp[kr]
 |x::es=>by
  rw[kr];constructor
  ·intro h;have hk:xn ls x=0:=by
    cases hx:xn ls x with
    |zero=>rfl
    |succ m=>rw[hx]at h;simp at h
   rw[hk]at h;intro e he;simp only[J9]at he;rcases he with rfl|he
   ·exact hk
   ·exact jj.1 h e he
  ·intro h;rw[h x (by simp)];exact jj.2 fun e he=>h e (by simp[he])
theorem Pi {w n:List UInt8} {q:List Rat} {e:En} (h:XV w n q=some e):wG e=e:=by
 unfold XV at h;by_cases h1:w=kE
 ·rw[if_pos h1]at h;split at h
  ·simp only[aF]at h;subst h;rfl
  ·simp at h
 rw[if_neg h1]at h;by_cases h2:w=Xh
 ·rw[if_pos h2]at h;split at h
  ·simp only[aF]at h;subst h;rfl
  ·simp at h
 rw[if_neg h2]at h;by_cases h3:w=zf
 ·rw[if_pos h3]at h;split at h
  ·simp only[aF]at h;subst h;rfl
  ·simp at h
 ·rw[if_neg h3]at h;simp at h
theorem Pj {l:List Wd} {e:En} (h:ve l=some e):wG e=e:=by
 unfold ve at h;split at h
 ·split at h
  ·simp at h
  ·exact Pi h
 ·simp at h
theorem ww:∀{L:List Li} {ls ls':List Ly} {es es':List En},ls.length≤20→es.length≤200→xR [] ls=0→kr ls es=0→(∀e∈es,wG e=e)→j5 L ls es= .ok (ls',es')→zb ls' es'=0∧∀e∈es',wG e=e
 |[],ls,ls',es,es',h1,h2,h3,h4,h5,h=>by rw[j5]at h;simp only[Hy,aG]at h;obtain⟨rfl,rfl⟩:=h;refine⟨?_,h5⟩;unfold zb;rw[if_neg (by omega),h3];exact h4
 |x::L,ls,ls',es,es',h1,h2,h3,h4,h5,h=>by
  rw[j5]at h;cases hl:y9 (tkW x.toks)with
  |some l=>
   rw[hl]at h;simp only at h;by_cases hb:20<ls.length+1∨200<es.length
   ·rw[if_pos hb]at h;simp at h
   rw[if_neg hb]at h;cases hk:xV ls l with
   |succ m=>rw[hk]at h;simp at h
   |zero=>rw[hk]at h;refine ww (by rw[J6,J4,Lr];omega) h2 (KQ h3 (by rw[Ls];exact hk)) ?_ h5 h;exact jj.2 fun e he=>Jz (jj.1 h4 e he)
  |none=>
   rw[hl]at h;simp only at h;cases he:ve (tkW x.toks)with
   |none=>rw[he]at h;simp at h
   |some e=>
    rw[he]at h;simp only at h;by_cases hb:20<ls.length∨200<es.length+1
    ·rw[if_pos hb]at h;simp at h
    rw[if_neg hb]at h;cases hk:xn ls e with
    |succ m=>rw[hk]at h;simp at h
    |zero=>
     rw[hk]at h;refine ww h1 (by rw[J6,J4,Lr];omega) h3 ?_ ?_ h
     ·refine jj.2 fun f hf=>?_
      simp only[Lv,J9,No,or_false]at hf;rcases hf with hf|rfl
      ·exact jj.1 h4 f hf
      ·exact hk
     ·intro f hf;simp only[Lv,J9,No,or_false]at hf;rcases hf with hf|rfl
      ·exact h5 f hf
      ·exact Pj he
theorem Mt {s:List UInt8} {ls:List Ly} {es:List En} (h:YK s= .ok (ls,es)):zb ls es=0∧YK (Kb ls es)= .ok (ls,es):=by
 unfold YK at h;cases hl:kD 1 (qC 10 s)with
 |error e=>rw[hl]at h;simp at h
 |ok L=>
  rw[hl]at h;simp only at h;obtain⟨h1,h2⟩:=ww (by simp) (by simp) rfl rfl (by simp) h;refine⟨h1,?_⟩;rw[YL h1];have:es.map wG=es:=by
   conv=>rhs;rw[←List.map_id es]
   exact aj fun e he=>h2 e he
  rw[this]
end Eng
end

section
namespace Eng
open Go
theorem zZ {ls:List Ly} {es:List En} (h:zb ls es=0):ls.length≤20∧es.length≤200∧xR [] ls=0∧kr ls es=0:=by
 unfold zb at h;by_cases h1:20<ls.length∨200<es.length
 ·rw[if_pos h1]at h;omega
 ·rw[if_neg h1]at h
  match hx:xR [] ls,h with
  |0,h=>exact⟨by omega,by omega,rfl,h⟩
  |n+1,h=>simp only at h;omega
theorem Qp {l:List Wd} (h:l.length≠4):y9 l=none:=by
 unfold y9;split
 ·exact absurd rfl h
 ·rfl
theorem WT {p:Wd}:ve [p]=none:=by
 unfold ve;split
 ·rename_i h;simp at h
 ·rfl
end Eng
end

section
namespace Eng
open Go
theorem Ew (b:Rat) (p:Nat):(b*((p:Nat):Rat)).den=1↔b.den∣p:=by
 have hc:Nat.Coprime b.den b.num.natAbs:=b.reduced.symm;have hg:a6 (b.num*(p:Int)).natAbs (b.den*1)=a6 p b.den:=by rw[aA,Int.natAbs_mul,I1];exact Nat.Coprime.gcd_mul_left_cancel _ b.reduced
 have hd:(b*((p:Nat):Rat)).den=b.den/a6 p b.den:=by rw[Rat.den_mul,Rat.den_natCast,Rat.num_natCast,hg,aA]
 rw[hd];constructor
 ·intro h;have h1:a6 p b.den∣b.den:=Nat.gcd_dvd_right _ _;have h2:=Nat.div_mul_cancel h1;rw[h,Nat.one_mul]at h2;rw[←h2];exact Nat.gcd_dvd_left _ _
 ·intro h;rw[Nat.gcd_eq_right h];exact Nat.div_self b.den_pos
theorem H1 (b:Rat) (k:Nat):(b*((10^k:Nat):Rat)).den=1↔10^k%b.den=0:=by
 rw[Ew];exact Nat.dvd_iff_mod_eq_zero
theorem SX (b:Rat) (f k:Nat):exF b (f+1) k=if 10^k%b.den=0 then some ((b*((10^k:Nat):Rat)).num,k)else exF b f (k+1):=by
 rw[exF];by_cases h:10^k%b.den=0
 ·rw[if_pos h,if_pos ((H1 b k).2 h)]
 ·rw[if_neg h,if_neg (fun g=>h ((H1 b k).1 g))]
theorem SY {b:Rat} {z:Int} {n:Nat} (h:exq b=some (z,n)) (h1: -10000≤b) (h2:b≤10000):(X3 b).length≤37:=by
 obtain⟨hn,he⟩:=WS h;have hp:(0:Rat)≤((10^n:Nat):Rat):=Rat.natCast_nonneg;have hz:z.natAbs≤10000*10^n:=by
  have e1:(z:Rat)≤((10000*((10^n:Nat):Int):Int):Rat):=by rw[aK,aJ,←he];exact aH h2 hp
  have e2:((-10000*((10^n:Nat):Int):Int):Rat)≤(z:Rat):=by rw[aK,aJ,←he];exact aH h1 hp
  have f1:=aI.1 e1;have f2:=aI.1 e2;omega
 have hq:z.natAbs/10^n<10^5:=by rw[aw (au (by omega))];have:10000*10^n<10^5*10^n:=ay (by decide) (au (by omega));omega
 have hd:(I0 (z.natAbs/10^n)).length≤5:=zh (n:=4) hq;have hs:(sgT z).length≤1:=by unfold sgT;split<;>simp
 unfold X3;rw[h];simp only;rw[J6]
 match n,hn,hd with
 |0,_,hd=>rw[a7,aB]at hd;have:(qY z.natAbs 0).length≤5:=hd;omega
 |n+1,hn,hd=>have es:(qY z.natAbs (n+1)).length=(I0 (z.natAbs/10^(n+1))++46::xq (n+1) z.natAbs).length:=rfl;rw[es,J6,J4,qN];omega
theorem YP {a:Rat} (h:vd a=true):(X3 (a/1000)).length≤37:=by
 obtain⟨z,n,hx⟩:=Jx h;unfold vd at h;simp only[Aw,decide_eq_true_eq]at h;obtain⟨⟨h1,h2⟩,_⟩:=h;exact SY hx (by grind) (by grind)
end Eng
end

section
namespace Eng
open Go
theorem H2 {c:UInt8} (h:isD c=true):dv c=0↔c=48:=by
 unfold isD at h;simp only[Aw,decide_eq_true_eq]at h;unfold dv;constructor
 ·intro e;refine UInt8.toNat_inj.1 ?_;have:(48:UInt8).toNat=48:=rfl;omega
 ·intro e;subst e;rfl
end Eng
end

section
namespace Eng
open Go
def F6 (p:Wd):Prop:=p.1=1∨p.1=2∨(p.1=3∧∃c,Mo c=true∧p.2=[c])
theorem Ps {c:UInt8} {s:List UInt8} {k n:Nat} (h:kN c s= .tok k n):k=1∨k=2∨(k=3∧n=1∧Mo c=true):=by
 unfold kN at h;by_cases h1:c=32
 ·rw[if_pos h1]at h;simp at h
 rw[if_neg h1]at h;by_cases h2:ltr c=true
 ·rw[if_pos h2]at h;by_cases h3:24<zc nmc (c::s)
  ·rw[if_pos h3]at h;simp at h
  ·rw[if_neg h3]at h;simp only[Sc.tok.injEq]at h;exact .inl h.1.symm
 rw[if_neg h2]at h;by_cases h3:kq (c::s)≠0
 ·rw[if_pos h3]at h;by_cases h4:vS ((c::s).take (kq (c::s)))=none
  ·rw[if_pos h4]at h;simp at h
  rw[if_neg h4]at h;by_cases h5:wF (nth 0 (c::s) (kq (c::s)))=true
  ·rw[if_pos h5]at h;simp at h
  rw[if_neg h5]at h;simp only[Sc.tok.injEq]at h;exact .inr (.inl h.1.symm)
 rw[if_neg h3]at h;by_cases h4:Mo c=true
 ·rw[if_pos h4]at h;simp only[Sc.tok.injEq]at h;exact .inr (.inr ⟨h.1.symm,h.2.symm,h4⟩)
 ·rw[if_neg h4]at h;simp at h
theorem H3:∀(m:Nat) {s:List UInt8} {n:Nat} {l:List Tk},s.length≤m→jU n s= .ok l→∀p∈tkW l,F6 p
 |m,[],n,l,_,h=>by rw[wq]at h;simp only[Hy]at h;subst h;simp[tkW]
 |0,c::s,n,l,hm,h=>by simp at hm
 |m+1,c::s,n,l,hm,h=>by
  simp only[J4]at hm;rw[ji]at h;by_cases h1:c=35
  ·rw[if_pos h1]at h;simp only[Hy]at h;subst h;simp[tkW]
  rw[if_neg h1]at h
  match hx:kN c s with
  | .blank=>rw[hx]at h;exact H3 m (by omega) h
  | .bad e=>rw[hx]at h;simp at h
  | .tok k j=>
   rw[hx]at h;simp only at h
   match hy:jU (n+j) ((c::s).drop j)with
   | .error e=>rw[hy]at h;simp at h
   | .ok l'=>
    rw[hy]at h;simp only[Hy]at h;subst h;have hj:=wo hx;have ih:=H3 m (by rw[V1];simp only[J4];omega) hy;intro p hp;simp only[tkW,Lm,J9]at hp;rcases hp with rfl|hp
    ·rcases Ps hx with h|h|⟨h,h2,h3⟩
     ·exact .inl h
     ·exact .inr (.inl h)
     ·subst h2;exact .inr (.inr ⟨h,c,h3,rfl⟩)
    ·exact ih p hp
theorem H4:∀{ws:List (List UInt8)} {n:Nat} {L:List Li},kD n ws= .ok L→∀x∈L,∀p∈tkW x.toks,F6 p
 |[],n,L,h=>by rw[kD]at h;simp only[Hy]at h;subst h;simp
 |w::r,n,L,h=>by
  rw[kD]at h
  match hx:jU 0 w with
  | .error e=>rw[hx]at h;simp at h
  | .ok []=>rw[hx]at h;exact H4 h
  | .ok (t::l)=>
   rw[hx]at h;simp only at h
   match hy:kD (n+1) r with
   | .error e=>rw[hy]at h;simp at h
   | .ok m=>
    rw[hy]at h;simp only[Hy]at h;subst h;intro x hx2;simp only[J9]at hx2;rcases hx2 with rfl|hx2
    ·exact H3 _ (ax _) hx
    ·exact H4 hy x hx2
def shp (p:Wd):List UInt8:=if p.1=1 then [110]else if p.1=2 then [100]else if p.1=3∧p.2.length=1 then p.2 else [63]
def zl (l:List Wd):List UInt8:=l.flatMap shp
theorem J0 {p:Wd} (h:F6 p):∃c,shp p=[c]∧(c=110↔p.1=1)∧(c=100↔p.1=2):=by
 unfold shp;rcases h with h|h|⟨h,c,hc,ht⟩
 ·rw[h,if_pos rfl];exact⟨110,rfl,by decide,by decide⟩
 ·rw[h,if_neg (by decide),if_pos rfl];exact⟨100,rfl,by decide,by decide⟩
 ·rw[h,if_neg (by decide),if_neg (by decide),ht,if_pos ⟨rfl,rfl⟩];refine⟨c,rfl,⟨fun e=>?_,fun e=>absurd e (by decide)⟩,⟨fun e=>?_,fun e=>absurd e (by decide)⟩⟩
  ·subst e;exact absurd hc (by decide)
  ·subst e;exact absurd hc (by decide)
theorem YR:∀{l:List Wd},(∀p∈l,F6 p)→(zl l).length=l.length
 |[],_=>rfl
 |p::r,h=>by
  obtain⟨c,hc,_⟩:=J0 (h p (by simp));have ih:=YR (l:=r) fun q hq=>h q (by simp[hq])
  show(shp p++zl r).length=_;rw[hc,J6,ih];simp only[J4,Lr];omega
theorem Pt {l:List Wd} (h:∀p∈l,F6 p):zl l=[110,110,110,100]↔l.map (·.1)=[1,1,1,2]:=by
 have hl:=YR h;by_cases h4:l.length=4
 ·match l,h4 with
  |[a,b,c,d],_=>
   obtain⟨x,hx,hx1,_⟩:=J0 (h a (by simp));obtain⟨y,hy,hy1,_⟩:=J0 (h b (by simp));obtain⟨z,hz,hz1,_⟩:=J0 (h c (by simp));obtain⟨u,hu,_,hu1⟩:=J0 (h d (by simp));have e:zl [a,b,c,d]=[x,y,z,u]:=by show shp a++(shp b++(shp c++(shp d++[])))=_;rw[hx,hy,hz,hu];rfl
   rw[e];simp only[Lm,af,aq,and_true,hx1,hy1,hz1,hu1]
 ·constructor
  ·intro e;rw[e]at hl;exact absurd hl.symm h4
  ·intro e;have:=congrArg ai e;rw[P1]at this;exact absurd this h4
def Pu (l:List Wd):Option Ly:=
 match l with
 |[a,b,c,d]=>if l.map (·.1)=[1,1,1,2]∧a.2=xB then(match Rx d.2 with
  |none=>none
  |some x=>if 0<wv c.2 then some ⟨b.2,wv c.2,x⟩else none)else none
 |_=>none
theorem YS {w:List UInt8}:0<wv w↔wv w≠0:=by
 unfold wv
 repeat' split
 all_goals decide
theorem UR (l:List Wd):Pu l=y9 l:=by
 by_cases h4:l.length=4
 ·match l,h4 with
  |[(ka,a),(kb,b),(kc,c),(kd,d)],_=>
   unfold Pu;simp only[Lm,af,aq,and_true];by_cases hk:ka=1∧kb=1∧kc=1∧kd=2
   ·obtain⟨rfl,rfl,rfl,rfl⟩:=hk;rw[y9];by_cases ha:a=xB
    ·rw[if_pos ⟨⟨rfl,rfl,rfl,rfl⟩,ha⟩];by_cases hc:wv c≠0
     ·rw[if_pos ⟨ha,hc⟩];simp only[if_pos (YS.2 hc)]
      try (cases Rx d<;>rfl)
     ·rw[if_neg (fun g=>hc g.2)];simp only[if_neg (fun g=>hc (YS.1 g))];split<;>rfl
    ·rw[if_neg (fun g=>ha g.2),if_neg (fun g=>ha g.1)]
   ·rw[if_neg (fun g=>hk g.1)];unfold y9;split
    ·rename_i h;simp only[aq,aG,and_true]at h;exact absurd ⟨h.1.1,h.2.1.1,h.2.2.1.1,h.2.2.2.1⟩ hk
    ·rfl
 ·rw[Qp h4];unfold Pu;split
  ·exact absurd rfl h4
  ·rfl
theorem kG:∀{l:List Wd} {q:List Rat},xK l=some q→q.length=l.length
 |[],q,h=>by rw[xK]at h;simp only[aF]at h;subst h;rfl
 |p::r,q,h=>by
  rw[xK]at h
  match hx:Gm p with
  |none=>rw[hx]at h;simp at h
  |some x=>
   rw[hx]at h;simp only at h
   match hy:xK r with
   |none=>rw[hy]at h;simp at h
   |some y=>rw[hy]at h;simp only[aF]at h;subst h;rw[J4,J4,kG hy]
def jr (w:List UInt8) (n:Nat):Nat:=if w=kE∧n=6 then 1 else if w=Xh∧n=8 then 2 else if w=zf∧n=5 then 3 else 0
theorem Pv {w n:List UInt8} {q:List Rat} (h:jr w (q.length+2)=0):XV w n q=none:=by
 unfold jr at h;unfold XV;by_cases h1:w=kE
 ·rw[if_pos h1];split
  ·rename_i a b c d;rw[if_pos ⟨h1,rfl⟩]at h;omega
  ·rfl
 rw[if_neg h1];rw[if_neg (fun g=>h1 g.1)]at h;by_cases h2:w=Xh
 ·rw[if_pos h2];split
  ·rw[if_pos ⟨h2,rfl⟩]at h;omega
  ·rfl
 rw[if_neg h2];rw[if_neg (fun g=>h2 g.1)]at h;by_cases h3:w=zf
 ·rw[if_pos h3];split
  ·rw[if_pos ⟨h3,rfl⟩]at h;omega
  ·rfl
 rw[if_neg h3]
def A1 (l:List Wd):Option En:=
 match l with
 |(k0,w)::(k1,n)::r=>if k0=1∧k1=1 then(if jr w (r.length+2)=0 then none else match xK r with
  |none=>none
  |some q=>XV w n q)else none
 |_=>none
theorem WV (l:List Wd):A1 l=ve l:=by
 match l with
 |[]=>rfl
 |[p]=>rw[WT];rfl
 |(k0,w)::(k1,n)::r=>
  rw[A1];by_cases hk:k0=1∧k1=1
  ·obtain⟨rfl,rfl⟩:=hk;rw[if_pos ⟨rfl,rfl⟩,ve];by_cases h0:jr w (r.length+2)=0
   ·rw[if_pos h0]
    match hq:xK r with
    |none=>rfl
    |some q=>simp only;rw[Pv (by rw[kG hq];exact h0)]
   ·rw[if_neg h0]
    try (cases xK r<;>rfl)
  ·rw[if_neg hk];unfold ve;split
   ·rename_i h;simp only[aq,aG]at h;exact absurd ⟨h.1.1,h.2.1.1⟩ hk
   ·rfl
end Eng
end

section
namespace Eng
open Go
def wH {α ε:Type} (out:List α):Except ε (List α)→Except ε (List α)
 | .ok l=> .ok (out++l)
 | .error e=> .error e
theorem vf {α ε:Type} (x:Except ε (List α)):wH [] x=x:=by cases x<;>rfl
theorem J1 {α ε:Type} (a b:List α) (x:Except ε (List α)):wH a (wH b x)=wH (a++b) x:=by
 cases x
 ·rfl
 ·simp[wH]
theorem zg {s:List UInt8} {i:Nat} (h:i<s.length):s.drop i=nth 0 s i::s.drop (i+1):=by
 induction s generalizing i with
 |nil=>simp at h
 |cons c s ih=>
  match i with
  |0=>rfl
  |i+1=>simp only[J4]at h;exact ih (by omega)
theorem WW {s:List UInt8} {i:Nat} (h:i<s.length) (h35:nth 0 s i≠35):jU i (s.drop i)=match kN (nth 0 s i) (s.drop (i+1))with
 | .blank=>jU (i+1) (s.drop (i+1))
 | .bad e=> .error e
 | .tok k m=>wH [⟨k,i,(s.drop i).take m⟩] (jU (i+m) (s.drop (i+m))):=by
 have hd:=zg h;rw[hd,ji,if_neg h35,←hd]
 match kN (nth 0 s i) (s.drop (i+1))with
 | .blank=>rfl
 | .bad e=>rfl
 | .tok k m=>simp only;rw[ad];cases jU (i+m) (s.drop (i+m))<;>rfl
theorem Qq {s:List UInt8} {i:Nat} (h:s.length≤i∨nth 0 s i=35):jU i (s.drop i)= .ok []:=by
 by_cases hi:s.length≤i
 ·rw[ah hi,wq]
 ·rw[zg (by omega),ji,if_pos (by rcases h with h|h<;>first|omega|exact h)]
theorem J2 (n:Nat) (w:List UInt8) (r:List (List UInt8)):kD n (w::r)=match jU 0 w with
 | .error e=> .error (n,e)
 | .ok l=>wH (if l=[]then []else [⟨n,l⟩]) (kD (n+1) r):=by
 rw[kD]
 match jU 0 w with
 | .error e=>rfl
 | .ok []=>exact(vf _).symm
 | .ok (t::l)=>simp only;rw[if_neg (by simp)];cases kD (n+1) r<;>rfl
theorem Qr (s:List UInt8) (a b:Nat):nth 0 (s.drop a) b=nth 0 s (a+b):=by
 induction a generalizing s with
 |zero=>rw[ar];rfl
 |succ a ih=>
  match s with
  |[]=>simp[nth]
  |c::s=>rw[show a+1+b=(a+b)+1 by omega];exact ih s
end Eng
end

section
namespace Eng
open Go
theorem kj {s:List UInt8} {i:Nat} (h:s.length≤i):nth 0 s i=0:=by
 induction s generalizing i with
 |nil=>rfl
 |cons c s ih=>
  match i with
  |0=>simp at h
  |i+1=>simp only[J4]at h;exact ih (by omega)
theorem vg {p:UInt8→Bool} {s:List UInt8} {i:Nat} (h:i<s.length) (hp:p (nth 0 s i)=true):zc p (s.drop i)=zc p (s.drop (i+1))+1:=by
 rw[zg h,zc,hp]
theorem zm {p:UInt8→Bool} {s:List UInt8} {i:Nat} (h:s.length≤i∨p (nth 0 s i)=false):zc p (s.drop i)=0:=by
 by_cases hi:s.length≤i
 ·rw[ah hi];rfl
 ·rw[zg (by omega),zc];rcases h with h|h
  ·omega
  ·rw[h]
theorem Pz {p:UInt8→Bool} (h0:p 0=false) (s:List UInt8) (i:Nat):zc p (s.drop i)≠0↔p (nth 0 s i)=true:=by
 by_cases hi:s.length≤i
 ·rw[zm (.inl hi),kj hi,h0];simp
 ·cases hp:p (nth 0 s i)with
  |false=>rw[zm (.inr hp)];simp
  |true=>rw[vg (by omega) hp];simp
theorem US {p:UInt8→Bool}:∀{s:List UInt8},zc p s=s.length↔s.all p=true
 |[]=>by simp[zc]
 |c::s=>by
  have ih:=US (p:=p) (s:=s);rw[zc,M1,J4];cases hp:p c with
  |false=>simp
  |true=>simp[ih]
theorem kH {p:UInt8→Bool} {s:List UInt8} {i:Nat}:i≤s.length→i+zc p (s.drop i)≤s.length:=fun h=>by
 have:=Pc p (s.drop i);rw[V1]at this;omega
def Ex (s:List UInt8) (a:Nat):Nat:=
 let g:=if nth 0 s a=45 then a+1 else a
 let b:=g+zc isD (s.drop g)
 if nth 0 s b=46∧isD (nth 0 s (b+1))=true then b+1+zc isD (s.drop (b+1))else b
def Ba (s:List UInt8) (a:Nat):Bool:=isD (nth 0 s a)||(decide (nth 0 s a=45)&&isD (nth 0 s (a+1)))
theorem WX (s:List UInt8) (a:Nat):kq (s.drop a)≠0↔Ba s a=true:=by
 unfold kq Ba;simp only;have e0:nth 0 (s.drop a) 0=nth 0 s a:=by rw[Qr,av]
 rw[e0];by_cases h:nth 0 s a=45
 ·rw[if_pos h,ad];have hl:=Pz (p:=isD) rfl s (a+1);have h45:isD (nth 0 s a)=false:=by rw[h];rfl
  rw[h45,decide_eq_true h];simp only[F0,Dd];rw[←hl];by_cases hd:zc isD (s.drop (a+1))=0
  ·rw[if_pos hd,hd]
  ·rw[if_neg hd];split<;>omega
 ·rw[if_neg h,W2];have hl:=Pz (p:=isD) rfl s a;rw[decide_eq_false h];simp only[Bool.false_and,Bool.or_false];rw[←hl];by_cases hd:zc isD (s.drop a)=0
  ·rw[if_pos hd,hd]
  ·rw[if_neg hd];split<;>omega
theorem P0 {s:List UInt8} {a:Nat} (h:Ba s a=true):Ex s a=a+kq (s.drop a):=by
 have hn:=(WX s a).2 h;unfold kq at hn ⊢;unfold Ex;simp only[Qr,ad,av]at hn ⊢;by_cases h45:nth 0 s a=45
 ·simp only[if_pos h45]at hn ⊢;by_cases hd:zc isD (s.drop (a+1))=0
  ·rw[if_pos hd]at hn;exact absurd rfl hn
  ·rw[if_neg hd];have e1:a+1+zc isD (s.drop (a+1))=a+(1+zc isD (s.drop (a+1))):=by omega
   rw[e1];generalize 1+zc isD (s.drop (a+1))=n;have e2:a+n+1=a+(n+1):=by omega
   rw[e2];split<;>omega
 ·simp only[if_neg h45,av]at hn ⊢;by_cases hd:zc isD (s.drop a)=0
  ·rw[if_pos hd]at hn;exact absurd rfl hn
  ·rw[if_neg hd,ar];generalize zc isD (s.drop a)=n;have e2:a+n+1=a+(n+1):=by omega
   rw[e2];split<;>omega
theorem KT (w:List UInt8):kh w=(!w.isEmpty&&(decide (w.length≤24)&&(ltr (nth 0 w 0)&&decide (zc nmc w=w.length)))):=by
 unfold kh
 match w with
 |[]=>rfl
 |c::t=>
  have e:nth 0 (c::t) 0=c:=rfl;rw[e];have ha:decide (zc nmc (c::t)=(c::t).length)=(c::t).all nmc:=by rw[Bool.eq_iff_iff];simp only[decide_eq_true_eq];exact US
  rw[ha];simp only[List.isEmpty_cons,Hu,Dd];cases(c::t).all nmc<;>cases ltr c<;>rfl
end Eng
end

section
namespace Eng
open Go
theorem WY (c:UInt8) {B:Nat}:∀{l:List (List UInt8)},(∀w∈l,w.length≤B)→(wE c l).length≤(B+1)*l.length
 |[],_=>by simp[wE]
 |[w],h=>by have:=h w (by simp);simp only[wE,T1];omega
 |w::x::r,h=>by
  have h1:=h w (by simp);have ih:=WY c (l:=x::r) fun v hv=>h v (by simp at hv ⊢;exact .inr hv)
  rw[wE];simp only[J6,J4]at ih ⊢;have e:(B+1)*(r.length+1+1)=(B+1)*(r.length+1)+(B+1):=by rw[a8]
  omega
theorem A2 {d:Int} (h:d.natAbs≤10000000):(mm d).length≤10:=by
 obtain⟨k,hk,h1,h2⟩:=Pf d;rw[h1,J6];have hs:(sgT d).length≤1:=by unfold sgT;split<;>simp
 have hp:0<10^k:=au (by omega);have hq:d.natAbs*10^k/1000/10^k<10^5:=by
  rw[aw hp,aw (by omega)];have h3:d.natAbs*10^k≤10000000*10^k:=Nat.mul_le_mul_right _ h;have e:10^5*10^k*1000=100000000*10^k:=by rw[Nat.mul_right_comm]
  have h4:10000000*10^k<100000000*10^k:=ay (by decide) hp;omega
 have hd:(I0 (d.natAbs*10^k/1000/10^k)).length≤5:=zh (n:=4) hq;generalize d.natAbs*10^k/1000=u at *
 match k,hk,hd with
 |0,_,hd=>rw[a7,aB]at hd;have:(qY u 0).length≤5:=hd;omega
 |k+1,hk,hd=>have es:(qY u (k+1)).length=(I0 (u/10^(k+1))++46::xq (k+1) u).length:=rfl;rw[es,J6,J4,qN];omega
theorem kI {w:List UInt8} (h:kh w=true):w.length≤24:=by
 unfold kh at h;simp only[Aw,decide_eq_true_eq]at h;exact h.1
theorem Qs (k:Int):(JZ k).length≤7:=by
 unfold JZ
 repeat' split
 all_goals decide
theorem vI (k:Int):(X4 k).length≤6:=by
 unfold X4
 repeat' split
 all_goals decide
theorem C6 {l:Ly} (h:y3 l=true):(kF (zK l)).length≤152:=by
 unfold y3 at h;simp only[Aw,Bx,decide_eq_true_eq]at h;obtain⟨h1,h2⟩:=h;have hd:l.depth.natAbs≤10000000:=by rcases h2 with⟨_,h2⟩|⟨_,h2⟩<;>omega
 have:=WY 32 (B:=37) (l:=(zK l).map (·.2)) (by
  intro w hw;simp only[zK,Lm,af,J9,No,or_false]at hw;rcases hw with rfl|rfl|rfl|rfl
  ·decide
  ·have:=kI h1;omega
  ·have:=Qs l.kind;omega
  ·have:=A2 hd;omega)
 exact this
theorem P2:∀(l:List V2),(l.flatMap fun p=>[p.x,p.y]).length=2*l.length
 |[]=>rfl
 |p::l=>by rw[U0,J6,P2 l];simp only[J4,Lr];omega
theorem C7 {e:En} (hn:e.layer.length≤24) (h:Ka e=true):(kF (xQ e)).length≤304:=by
 have hl:=Jy h;have hc:(X5 e).length≤6:=by
  unfold Ka at h;simp only[Aw,decide_eq_true_eq]at h;have hk:=h.1;have h2:=h.2.1;unfold X5;rw[J6,P2,h2];unfold wt;have hk:e.kind=1∨e.kind=2∨e.kind=3:=by omega
  rcases hk with hk|hk|hk<;>simp[hk]
 have:=WY 32 (B:=37) (l:=(xQ e).map (·.2)) (by
  intro w hw;simp only[xQ,Lm,J9,ao,M2,Function.comp]at hw;rcases hw with rfl|rfl|⟨a,ha,rfl⟩
  ·have:=vI e.kind;omega
  ·omega
  ·exact YP (hl a ha))
 have hm:((xQ e).map (·.2)).length≤8:=by simp only[xQ,Lm,J4,P1];omega
 have h3:(37+1)*((xQ e).map (·.2)).length≤(37+1)*8:=Nat.mul_le_mul_left _ hm;exact Nat.le_trans this h3
theorem WZ {α:Type} (f:α→List UInt8) {B:Nat}:∀{l:List α},(∀x∈l,(f x).length≤B)→(l.flatMap f).length≤B*l.length
 |[],_=>by simp
 |x::r,h=>by
  have h1:=h x (by simp);have ih:=WZ f (l:=r) fun y hy=>h y (by simp[hy])
  rw[U0,J6,J4,a8];omega
theorem P3 {ls:List Ly} {es:List En} (h:zb ls es=0):(Kb ls es).length≤65536:=by
 obtain⟨h1,h2,h3,h4⟩:=zZ h;have a0:=Qn h3;have hes:=Qo h4;unfold Kb X8;rw[List.flatMap_append,J6];have a:=WZ (fun w=>kF w++[10]) (B:=153) (l:=ls.map zK) (by
  intro w hw;simp only[M2]at hw;obtain⟨l,hl,rfl⟩:=hw;have:=C6 (a0 l hl);rw[J6,T1];omega)
 have b:=WZ (fun w=>kF w++[10]) (B:=305) (l:=es.map xQ) (by
  intro w hw;simp only[M2]at hw;obtain⟨e,he,rfl⟩:=hw;obtain⟨g1,g2⟩:=hes e he;have hn:e.layer.length≤24:=by simp only[M2]at g2;obtain⟨l,hl,hq⟩:=g2;rw[←hq];have:=a0 l hl;unfold y3 at this;simp only[Aw]at this;exact kI this.1
  have:=C7 hn g1;rw[J6,T1];omega)
 rw[P1]at a b;omega
end Eng
end

section
namespace Eng
open Go
def xh:List UInt8→List UInt8
 |[]=>[]
 |c::s=>if c=48 then xh s else c::s
theorem J5:∀{l:List UInt8},l.all isD=true→xh l=if xw l=0 then []else I0 (xw l)
 |[],_=>rfl
 |c::s,h=>by
  have h':=h;simp only[M1,Aw]at h;have ih:=J5 h.2;rw[xh];by_cases hc:c=48
  ·have hz:=(H2 h.1).2 hc;have e:xw (c::s)=xw s:=by rw[xw,hz,Nat.zero_mul,ar]
   rw[if_pos hc,ih,e]
  ·have hp:0<10^s.length:=au (by omega);have h0:0<dv c:=Nat.pos_of_ne_zero fun e=>hc ((H2 h.1).1 e)
   have hn:xw (c::s)≠0:=by rw[xw];have:=Nat.mul_pos h0 hp;omega
   rw[if_neg hc,if_neg hn];exact y8 h' fun e=>absurd e hc
def C8 (s:List UInt8):Option (List UInt8×Nat):=
 let b:=(qA s).1
 let w:=(qB 46 b).1
 let p:=(qB 46 b).2
 if ¬(w≠[]∧w.all isD=true)∨(1<w.length∧nth 0 w 0=48)∨(p.isSome=true∧(¬(p.getD []≠[]∧(p.getD []).all isD=true)∨30<(p.getD []).length))then none
 else if xh (w++p.getD [])=[]then(if(qA s).2=true then none else some ([48],(p.getD []).length))
 else some (if(qA s).2=true then 45::xh (w++p.getD [])else xh (w++p.getD []),(p.getD []).length)
theorem P4 (s:List UInt8):C8 s=match vS s with
 |none=>none
 |some (m,k)=>some (z8 m,k):=by
 unfold C8 vS;simp only;generalize qA s=g;obtain⟨b,a0⟩:=g;simp only;generalize qB 46 b=q;obtain⟨w,p⟩:=q;simp only;have hb:(jq w&&kC p)=true↔¬(¬(w≠[]∧w.all isD=true)∨(1<w.length∧nth 0 w 0=48)∨(p.isSome=true∧(¬(p.getD []≠[]∧(p.getD []).all isD=true)∨30<(p.getD []).length))):=by
  unfold jq kC;rw[Aw];simp only[Aw,Bx,Gv,decide_eq_true_eq,not_or,Hx];have e1:w.isEmpty=false↔w≠[]:=by cases w<;>simp
  have e2:(w.length≤1∨nth 0 w 0≠48)↔¬(1<w.length∧nth 0 w 0=48):=by rw[Classical.not_and_iff_not_or_not,aC]
  rw[e1,e2];cases p with
  |none=>simp;exact⟨fun h=>⟨⟨h.1,h.2.1⟩,h.2.2⟩,fun h=>⟨h.1.1,h.1.2,h.2⟩⟩
  |some t=>
   have e3:t.isEmpty=false↔t≠[]:=by cases t<;>simp
   simp only[aD,aE,true_and,not_or,Hx,aC,Aw,Gv,decide_eq_true_eq,e3];constructor
   ·rintro⟨⟨a,b,c⟩,d,e,f⟩;exact⟨⟨a,b⟩,c,⟨d,e⟩,f⟩
   ·rintro⟨⟨a,b⟩,c,⟨d,e⟩,f⟩;exact⟨⟨a,b,c⟩,d,e,f⟩
 by_cases h:(jq w&&kC p)=true
 ·rw[if_neg (hb.1 h)];have hd:(w++p.getD []).all isD=true:=by
   have h:=hb.1 h;simp only[not_or,Hx]at h;rw[an,h.1.2];cases p with
   |none=>rfl
   |some t=>simp only[aD,aE,true_and,not_or,Hx]at h;rw[aD,h.2.2.1.2];rfl
  rw[J5 hd];rw[←Hv,h,Dd];generalize xw (w++p.getD [])=m;by_cases hm:m=0
  ·subst hm;rw[if_pos rfl,if_pos rfl];cases a0
   ·rw[if_neg (by decide),if_pos (by decide)];simp only;have:z8 (if false=true then-((0:Nat):Int)else((0:Nat):Int))=[48]:=by show z8 0=_;rw[zO (by omega)];exact dec_0
    rw[this]
   ·rw[if_pos rfl,if_neg (by decide)]
  ·rw[if_neg hm,if_neg (kM m)];cases a0
   ·simp only[F2,if_false,Hu,Bool.true_or,if_true];rw[zO (by omega),I1]
   ·have hm2:decide (m≠0)=true:=decide_eq_true hm;simp only[hm2,Bool.not_true,F0,if_true];rw[vm (by omega),J3,I1]
 ·rw[if_pos (Classical.not_not.1 fun g=>h (hb.2 g))];have:(jq w&&(kC p&&(!a0||decide (xw (w++p.getD [])≠0))))=false:=by rw[←Hv];rw[Bool.eq_false_iff.2 h];rfl
  rw[this];rfl
end Eng
end

section
namespace Eng
open Go
end Eng
end

section
namespace Eng
open Go
structure EnO where
 kind:Int
 layer:List UInt8
 pts:List (Option Rat×Option Rat)
 rad:Option Rat
def xU:Option Rat→Bool
 |none=>false
 |some a=>vd a
def A3:Option Rat→Bool
 |none=>false
 |some a=>decide (0<a)
def vT (e:EnO):Bool:=decide (1≤e.kind∧e.kind≤3)&&(decide (e.pts.length=wt e.kind)&&(e.pts.all (fun p=>xU p.1&&xU p.2)&&(decide (e.kind≠3)||(xU e.rad&&A3 e.rad))))
def jO (e:EnO):En:=⟨e.kind,e.layer,e.pts.map fun p=>⟨p.1.getD 0,p.2.getD 0⟩,if e.kind=3 then e.rad.getD 0 else 0⟩
theorem P5 (e:EnO):wG (jO e)=jO e:=by
 unfold wG jO;simp only;congr 1;split<;>rfl
theorem jP {a:Option Rat} (h:xU a=true):a=some (a.getD 0)∧vd (a.getD 0)=true:=by
 match a,h with
 |some q,h=>exact⟨rfl,h⟩
theorem P6:∀{l:List (Option Rat×Option Rat)},l.all (fun p=>xU p.1&&xU p.2)=true→l=(l.map fun p=>(⟨p.1.getD 0,p.2.getD 0⟩:V2)).map (fun p=>(some p.x,some p.y))∧(l.map fun p=>(⟨p.1.getD 0,p.2.getD 0⟩:V2)).all (fun p=>vd p.x&&vd p.y)=true
 |[],_=>⟨rfl,rfl⟩
 |(a,b)::l,h=>by
  simp only[M1,Aw]at h;obtain⟨i1,i2⟩:=P6 (l:=l) h.2;obtain⟨a1,a2⟩:=jP h.1.1;obtain⟨b1,b2⟩:=jP h.1.2;constructor
  ·simp only[Lm];rw[←i1,←a1,←b1]
  ·simp only[Lm,M1,a2,b2,Dd];exact i2
theorem Bb {e:EnO} (h:vT e=true):Ka (jO e)=true:=by
 obtain⟨k,n,ps,r⟩:=e;unfold vT at h;simp only[Aw]at h;obtain⟨h1,h2,h3,h4⟩:=h;obtain⟨_,i2⟩:=P6 h3;unfold Ka jO;simp only[P1];rw[h1,h2,i2];simp only[Dd];by_cases hk:k=3
 ·have a0:decide (k≠3)=false:=decide_eq_false (fun g=>g hk);rw[a0]at h4 ⊢;simp only[F0,Aw]at h4;obtain⟨r1,r2⟩:=jP h4.1;have h5:=h4.2;rw[r1]at h5;rw[if_pos hk,r2]
  simpa [A3]using h5
 ·have a0:decide (k≠3)=true:=decide_eq_true hk;rw[a0];rfl
def xD (ls:List Ly) (e:EnO):Nat:=if e.layer∈ls.map (·.name)then(if vT e=true then 0 else 1)else 4
def z7 (ls:List Ly):List EnO→Nat
 |[]=>0
 |e::r=>match xD ls e with
  |0=>z7 ls r
  |x=>x
def wx (ls:List Ly) (es:List EnO):Nat:=
 if 20<ls.length∨200<es.length then 3 else match xR [] ls with
  |0=>z7 ls es
  |e=>e
theorem YT {ls:List Ly}:∀{es:List EnO},z7 ls es=0→kr ls (es.map jO)=0∧∀e∈es,vT e=true
 |[],_=>⟨rfl,by simp⟩
 |e::r,h=>by
  rw[z7]at h
  match hk:xD ls e,h with
  |0,h=>
   obtain⟨i1,i2⟩:=YT (es:=r) h;unfold xD at hk;by_cases hl:e.layer∈ls.map (·.name)
   ·rw[if_pos hl]at hk;by_cases ho:vT e=true
    ·refine⟨?_,?_⟩
     ·have hz:xn ls (jO e)=0:=by unfold xn;rw[if_pos (show(jO e).layer∈_ from hl),if_pos (Bb ho)]
      rw[Lm,kr,hz];exact i1
     ·intro x hx;simp only[J9]at hx;rcases hx with rfl|hx
      ·exact ho
      ·exact i2 x hx
    ·rw[if_neg ho]at hk;omega
   ·rw[if_neg hl]at hk;omega
  |n+1,h=>simp at h
theorem KX {ls:List Ly} {es:List EnO} (h:wx ls es=0):zb ls (es.map jO)=0∧∀e∈es,vT e=true:=by
 unfold wx at h;unfold zb;rw[P1];by_cases h1:20<ls.length∨200<es.length
 ·rw[if_pos h1]at h;omega
 ·rw[if_neg h1]at h ⊢
  match hx:xR [] ls,h with
  |0,h=>exact YT h
  |n+1,h=>simp at h
theorem Mw {ls:List Ly} {es:List EnO} (h:wx ls es=0):YK (Kb ls (es.map jO))= .ok (ls,es.map jO):=by
 obtain⟨h1,_⟩:=KX h;rw[YL h1,ao];congr 2;refine aj fun e _=>?_
 exact P5 e
end Eng
end
