/- A sign cut off a text. -/
import Derived.Test.YtbehlcfelmbmlaaGreatDoorTxP
import Derived.Test.YtbehlcfelmbmlaaGreatDoorCdA
open Bool renaming and_eq_true→Aw, true_and→Bx, or_eq_true→Dd, false_eq_true→F0, not_false→F2, false_or→Gv, not_eq_true'→Hu, eq_iff_iff→Hv, and_assoc→Hx, or_assoc→Hy
open Decidable renaming not_not→I0
open Except.ok renaming injEq→I1
open Go.Lib renaming decDigits→I2
open Int renaming natAbs_natCast→J3, natCast_mul→J4, natAbs_neg→J6
open List renaming length_cons→J7, cons_append→J9, length_append→Lm, length_nil→Lr, mem_cons→Ls, nil_append→Lv, append_assoc→M0, all_cons→M1, mem_append→M2, append_nil→No, map_cons→Pl, all_eq_true→P1, not_mem_nil→Ts, length_drop→T1, filter_cons_of_pos→U0, filter_cons_of_neg→U3, mem_map→V1, all_append→W0, drop_drop→W1, take_length→W2, take_append_of_le_length→ad, drop_append_of_le_length→ae, drop_zero→af, drop→ah, drop_eq_nil_of_le→ai, length_singleton→aj, length→ak, length_pos_iff→am, drop_length→an, filter_nil→ao, any_cons→ap, map_nil→aq, take→ar
open List.cons renaming injEq→au
open Nat renaming zero_add→av, add_zero→aw, pow_pos→ax, le_refl→ay, pos_iff_ne_zero→az, pos_of_ne_zero→a6, gcd→a7, zero_mul→a8, pow_add→aA, mul_pos→aB, mul_one→aC, not_lt→aD
open Option renaming getD_some→aE, isSome_some→aF, getD_none→aG
open Option.some renaming injEq→aH
open Prod.mk renaming injEq→aI
open Rat renaming intCast_mul→aJ, intCast_natCast→aK, mul_le_mul_of_nonneg_right→aL, intCast_le_intCast→aM, div_mul_cancel→aN
section
namespace Eng
open Go
def qA:List UInt8→List UInt8×Bool
 |[]=>([],false)
 |c::s=>if c=45 then(s,true)else(c::s,false)
theorem xj (c:UInt8) (s:List UInt8):qA (c::s)=if c=45 then(s,true)else(c::s,false):=rfl
theorem kB (s:List UInt8):(qA s).1.length≤s.length:=by
 cases s with
 |nil=>simp[qA]
 |cons c s=>rw[xj];split<;>simp
end Eng
end

section
namespace Eng
open Go
def qC (c:UInt8):List UInt8→List (List UInt8)
 |[]=>[[]]
 |a::s=>if a=c then []::qC c s else match qC c s with
  |[]=>[[a]]
  |w::r=>(a::w)::r
theorem YF (c:UInt8):∀s,qC c s≠[]
 |[]=>by simp[qC]
 |a::s=>by
  rw[qC];split
  ·simp
  ·split<;>simp
theorem Xf {c:UInt8}:∀{s:List UInt8},(∀a∈s,a≠c)→qC c s=[s]
 |[],_=>rfl
 |a::s,h=>by rw[qC,if_neg (h a (by simp)),Xf fun b hb=>h b (by simp[hb])]
theorem vG {c:UInt8} {t:List UInt8}:∀{s:List UInt8},(∀a∈s,a≠c)→qC c (s++c::t)=s::qC c t
 |[],_=>by simp[qC]
 |a::s,h=>by rw[J9,qC,if_neg (h a (by simp)),vG fun b hb=>h b (by simp[hb])]
def wE (c:UInt8):List (List UInt8)→List UInt8
 |[]=>[]
 |[w]=>w
 |w::v::r=>w++c::wE c (v::r)
theorem Jt (c:UInt8):∀s,wE c (qC c s)=s
 |[]=>rfl
 |a::s=>by
  have ih:=Jt c s;have hne:=YF c s;rw[qC];by_cases h:a=c
  ·rw[if_pos h];subst h;generalize qC a s=l at *
   match l,hne with
   |w::r,_=>rw[wE,ih];rfl
  ·rw[if_neg h];generalize qC c s=l at *
   match l,hne with
   |[w],_=>rw[←ih];rfl
   |w::v::r,_=>rw[←ih];rfl
structure B4 where
 x0:Rat
 y0:Rat
 x1:Rat
 y1:Rat
structure Ce where
 b:B4
 k:Option V2
theorem YG {c a:UInt8}:∀{l:List (List UInt8)},a∈wE c l→a=c∨∃w∈l,a∈w
 |[],h=>by simp[wE]at h
 |[w],h=> .inr ⟨w,by simp,h⟩
 |w::v::r,h=>by
  rw[wE,M2,Ls]at h;rcases h with h|rfl|h
  ·exact .inr ⟨w,by simp,h⟩
  ·exact .inl rfl
  ·rcases YG h with h|⟨u,hu,h⟩
   ·exact .inl h
   ·exact .inr ⟨u,by simp[hu],h⟩
end Eng
end

section
namespace Eng
open Go
def jq (w:List UInt8):Bool:=!w.isEmpty&&(w.all isD&&(decide (w.length≤1)||decide (nth 0 w 0≠48)))
def kC:Option (List UInt8)→Bool
 |none=>true
 |some p=>!p.isEmpty&&(p.all isD&&decide (p.length≤30))
def vS (s:List UInt8):Option (Int×Nat):=
 let w:=(qB 46 (qA s).1).1
 let p:=(qB 46 (qA s).1).2
 let m:=xw (w++p.getD [])
 if jq w&&(kC p&&(!(qA s).2||decide (m≠0)))then some (if(qA s).2 then-(m:Int)else(m:Int),(p.getD []).length)else none
theorem YH (u:Nat):jq (I2 u)=true:=by
 have h1:=jx u;have h2:=kM u;have h3:=fun s=> @Q7 u s
 generalize I2 u=s at *
 match s,h2 with
 |c::s,_=>
  have e:nth 0 (c::s) 0=c:=rfl;unfold jq;rw[h1,e];by_cases hc:c=48
  ·subst hc;obtain⟨h4,_⟩:=h3 s rfl;rw[h4];rfl
  ·simp[hc]
theorem UM (z:Int) (t:List UInt8) (ht:∀c r,t=c::r→c≠45):qA (sgT z++t)=(t,decide (z<0)):=by
 unfold sgT;by_cases h:z<0
 ·rw[decide_eq_true h];rfl
 ·rw[decide_eq_false h];show qA t=(t,false)
  match t,ht with
  |[],_=>rfl
  |c::r,ht=>rw[xj,if_neg (ht c r rfl)]
theorem Mn (u k:Nat):xw (I2 (u/10^k)++xq k u)=u:=by
 rw[jS,w8,JI,qN];have:=Nat.div_add_mod u (10^k);rw[Nat.mul_comm]at this;exact this
theorem Xg {z:Int} {k:Nat} (hk:k≤30):vS (sgT z++qY z.natAbs k)=some (z,k):=by
 have hz:(if decide (z<0)=true then-((z.natAbs:Nat):Int)else((z.natAbs:Nat):Int))=z:=by
  by_cases h:z<0
  ·rw[decide_eq_true h];simp only[if_true];omega
  ·rw[decide_eq_false h];simp only[F0,if_false];omega
 have hm:(!decide (z<0)||decide (z.natAbs≠0))=true:=by
  by_cases h:z<0
  ·rw[decide_eq_true h];simp;omega
  ·rw[decide_eq_false h];rfl
 have hd:∀u,∀a∈I2 u,a≠46:=fun u=>AS (by decide)
 have hh:∀u t,∀c r,I2 u++t=c::r→c≠45:=fun u t c r e=>by
  have h1:=kM u;have h2:=jx u
  match hx:I2 u,h1 with
  |a::l,_=>
   rw[hx]at e h2;simp only[J9,au]at e;simp only[M1,Aw]at h2;intro hc;rw[←e.1]at hc;rw[hc]at h2;have e45:isD 45=false:=by decide
   rw[e45]at h2;simp at h2
 match k,hk with
 |0,_=>have es:qY z.natAbs 0=I2 z.natAbs:=rfl;have hc:=UM z (I2 z.natAbs) (fun c r e=>hh z.natAbs [] c r (by rw[No];exact e));rw[es];unfold vS;rw[hc,Xp (hd _)];simp only[aG,No,w8,YH,kC,Bx,hm,if_true,hz,Lr]
 |k+1,hk=>
  have es:qY z.natAbs (k+1)=I2 (z.natAbs/10^(k+1))++46::xq (k+1) z.natAbs:=rfl;have hc:=UM z (I2 (z.natAbs/10^(k+1))++46::xq (k+1) z.natAbs) (hh _ _);have hp:kC (some (xq (k+1) z.natAbs))=true:=by
   show(!(xq (k+1) z.natAbs).isEmpty&&((xq (k+1) z.natAbs).all isD&&decide ((xq (k+1) z.natAbs).length≤30)))=true;rw[Q6,qN,decide_eq_true hk];have:xq (k+1) z.natAbs≠[]:=fun e=>by have:=congrArg ak e;rw[qN]at this;simp at this
   simp[this]
  rw[es];unfold vS;rw[hc,Gj (hd _)];simp only[aE,Mn,YH,hp,Bx,hm,if_true,hz,qN]
theorem Ju (c:UInt8):∀s,(qB c s).1.length+((qB c s).2.getD []).length≤s.length
 |[]=>by simp[qB]
 |a::s=>by
  have:=Ju c s;rw[qB];by_cases h:a=c
  ·rw[if_pos h];simp
  ·rw[if_neg h];simp only[J7];omega
theorem vH {s:List UInt8} {m:Int} {k:Nat} (h:vS s=some (m,k)):k≤30∧m.natAbs<10^s.length:=by
 unfold vS at h;have hl:=Ju 46 (qA s).1;have hs:=kB s;simp only at h;split at h
 ·rename_i hc;simp only[Aw]at hc;obtain⟨h1,h2,h3⟩:=hc;simp only[aH,aI]at h;obtain⟨rfl,rfl⟩:=h;have hw:((qB 46 (qA s).1).1).all isD=true:=by unfold jq at h1;simp only[Aw]at h1;exact h1.2.1
  have hp:(((qB 46 (qA s).1).2).getD []).all isD=true∧(((qB 46 (qA s).1).2).getD []).length≤30:=by
   cases hq:(qB 46 (qA s).1).2 with
   |none=>simp
   |some p=>rw[hq]at h2;unfold kC at h2;simp only[Aw,decide_eq_true_eq]at h2;exact⟨h2.2.1,h2.2.2⟩
  refine⟨hp.2,?_⟩;have hn:=Vw (s:=(qB 46 (qA s).1).1++((qB 46 (qA s).1).2).getD []) (by rw[W0,hw,hp.1];rfl) (n:=s.length) (by rw[Lm];omega);split<;>omega
 ·simp at h
end Eng
end

section
namespace Eng
open Go
def ltr (c:UInt8):Bool:=(decide (97≤c.toNat)&&decide (c.toNat≤122))||(decide (65≤c.toNat)&&decide (c.toNat≤90))
def nmc (c:UInt8):Bool:=ltr c||(isD c||(decide (c=95)||decide (c=45)))
def Mo (c:UInt8):Bool:=decide (c=61)||(decide (c=44)||(decide (c=59)||(decide (c=58)||(decide (c=40)||decide (c=41)))))
structure Tk where
 kind:Nat
 pos:Nat
 text:List UInt8
def zc (p:UInt8→Bool):List UInt8→Nat
 |[]=>0
 |c::s=>match p c with
  |true=>zc p s+1
  |false=>0
theorem Pc (p:UInt8→Bool):∀s,zc p s≤s.length
 |[]=>by simp[zc]
 |c::s=>by
  have:=Pc p s;rw[zc];cases p c
  ·simp
  ·simp only[J7];omega
theorem SO {p:UInt8→Bool} {c:UInt8} {s:List UInt8} (h:p c=true):0<zc p (c::s):=by rw[zc,h];simp
def kq (s:List UInt8):Nat:=
 let g:=if nth 0 s 0=45 then 1 else 0
 let d:=zc isD (s.drop g)
 if d=0 then 0 else
  let n:=g+d
  if nth 0 s n=46∧isD (nth 0 s (n+1))=true then n+1+zc isD (s.drop (n+1))else n
inductive Sc where
 |blank
 |tok (kind n:Nat)
 |bad (e:Nat)
def wF (x:UInt8):Bool:=ltr x||(decide (x=95)||decide (x=46))
def kN (c:UInt8) (s:List UInt8):Sc:=
 if c=32 then .blank
 else if ltr c=true then(if 24<zc nmc (c::s)then .bad 3 else .tok 1 (zc nmc (c::s)))
 else if kq (c::s)≠0 then
  (if vS ((c::s).take (kq (c::s)))=none then .bad 2
   else if wF (nth 0 (c::s) (kq (c::s)))=true then .bad 2
   else .tok 2 (kq (c::s)))
 else if Mo c=true then .tok 3 1
 else .bad 2
theorem wo {c:UInt8} {s:List UInt8} {k n:Nat} (h:kN c s= .tok k n):0<n:=by
 unfold kN at h;by_cases h1:c=32
 ·rw[if_pos h1]at h;simp at h
 rw[if_neg h1]at h;by_cases h2:ltr c=true
 ·rw[if_pos h2]at h;by_cases h3:24<zc nmc (c::s)
  ·rw[if_pos h3]at h;simp at h
  ·rw[if_neg h3]at h;simp only[Sc.tok.injEq]at h;rw[←h.2];exact SO (by unfold nmc;rw[h2];rfl)
 rw[if_neg h2]at h;by_cases h3:kq (c::s)≠0
 ·rw[if_pos h3]at h;by_cases h4:vS ((c::s).take (kq (c::s)))=none
  ·rw[if_pos h4]at h;simp at h
  rw[if_neg h4]at h;by_cases h5:wF (nth 0 (c::s) (kq (c::s)))=true
  ·rw[if_pos h5]at h;simp at h
  rw[if_neg h5]at h;simp only[Sc.tok.injEq]at h;omega
 rw[if_neg h3]at h;by_cases h4:Mo c=true
 ·rw[if_pos h4]at h;simp only[Sc.tok.injEq]at h;omega
 ·rw[if_neg h4]at h;simp at h
def jU (at_:Nat) (s:List UInt8):Except Nat (List Tk):=
 match s with
 |[]=> .ok []
 |c::r=>if c=35 then .ok []else match _h:kN c r with
  | .blank=>jU (at_+1) r
  | .bad e=> .error e
  | .tok k n=>match jU (at_+n) ((c::r).drop n)with
   | .ok l=> .ok (⟨k,at_,(c::r).take n⟩::l)
   | .error e=> .error e
 termination_by s.length
 decreasing_by
 ·simp
 ·have:=wo (by assumption);rw[T1];simp only[J7];omega
theorem wq (n:Nat):jU n []= .ok []:=by rw[jU]
theorem ji (n:Nat) (c:UInt8) (r:List UInt8):jU n (c::r)=if c=35 then .ok []else match kN c r with
 | .blank=>jU (n+1) r
 | .bad e=> .error e
 | .tok k m=>match jU (n+m) ((c::r).drop m)with
  | .ok l=> .ok (⟨k,n,(c::r).take m⟩::l)
  | .error e=> .error e:=by
 rw[jU];split
 ·rfl
 ·split
  ·rename_i h;rw[h]
  ·rename_i h;rw[h]
  ·rename_i h;rw[h]
structure Li where
 number:Nat
 toks:List Tk
def kD (n:Nat):List (List UInt8)→Except (Nat×Nat) (List Li)
 |[]=> .ok []
 |w::r=>match jU 0 w with
  | .error e=> .error (n,e)
  | .ok []=>kD (n+1) r
  | .ok (t::l)=>match kD (n+1) r with
   | .ok m=> .ok (⟨n,t::l⟩::m)
   | .error e=> .error e
end Eng
end

section
namespace Eng
open Go
theorem j0 {a b:List UInt8} (i:Nat):nth 0 (a++b) (a.length+i)=nth 0 b i:=by
 induction a with
 |nil=>rw[Lv,Lr,av]
 |cons x a ih=>rw[J9,J7,show a.length+1+i=(a.length+i)+1 by omega];exact ih
def Eo (r:List UInt8):Prop:=r=[]∨∃t,r=32::t
theorem YI {r:List UInt8} (h:Eo r):nth 0 r 0=0∨nth 0 r 0=32:=by
 rcases h with rfl|⟨t,rfl⟩
 ·exact .inl rfl
 ·exact .inr rfl
theorem Qk {p:UInt8→Bool}:∀{w r:List UInt8},w.all p=true→(r=[]∨∃x t,r=x::t∧p x=false)→zc p (w++r)=w.length
 |[],r,_,h=>by
  rcases h with rfl|⟨x,t,rfl,hx⟩
  ·rfl
  ·rw[Lv,zc,hx];rfl
 |c::w,r,hw,h=>by simp only[M1,Aw]at hw;rw[J9,zc,hw.1,J7];simp only;rw[Qk hw.2 h]
theorem Hz {p:UInt8→Bool} (hp:p 32=false) {r:List UInt8} (h:Eo r):r=[]∨∃x t,r=x::t∧p x=false:=by
 rcases h with rfl|⟨t,rfl⟩
 ·exact .inl rfl
 ·exact .inr ⟨32,t,rfl,hp⟩
theorem Pd {c:UInt8} {t r:List UInt8} (hc:ltr c=true) (ht:(c::t).all nmc=true) (hl:(c::t).length≤24) (hr:Eo r):kN c (t++r)= .tok 1 (c::t).length:=by
 have h1:=Qk (w:=c::t) (r:=r) ht (Hz (by decide) hr);rw[J9]at h1;unfold kN;rw[if_neg (fun e=>by rw[e]at hc;revert hc;decide),if_pos hc,h1,if_neg (by omega)]
def IQ (g:List UInt8):Prop:=g=[]∨g=[45]
theorem Jv {c:UInt8} (h:isD c=true):c≠45:=fun e=>by rw[e]at h;revert h;decide
theorem SP {g d r:List UInt8} (hg:IQ g) (hd:d≠[]) (ha:d.all isD=true) (hr:Eo r):kq (g++(d++r))=g.length+d.length:=by
 have hl:=Qk (w:=d) (r:=r) ha (Hz (by decide) hr);have hdl:=am.2 hd;have hh:=YI hr;have a0:¬(nth 0 (g++(d++r)) (g.length+d.length)=46∧isD (nth 0 (g++(d++r)) (g.length+d.length+1))=true):=fun h=>by have e:=j0 (a:=g++d) (b:=r) 0;rw[Lm,aw,M0]at e;rw[e]at h;rcases hh with h2|h2<;>(rw[h2]at h;exact absurd h.1 (by decide))
 unfold kq;rcases hg with rfl|rfl
 ·obtain⟨c,d,rfl⟩:∃c d',d=c::d':=by
   match d,hd with
   |c::d,_=>exact⟨c,d,rfl⟩
  have hc:isD c=true:=by simp only[M1,Aw]at ha;exact ha.1
  have e0:nth 0 ([]++(c::d++r)) 0=c:=rfl;rw[e0,if_neg (Jv hc)];simp only[Lv,af,Lr,av]at a0 ⊢;rw[hl,if_neg (by omega),if_neg a0]
 ·have e0:nth 0 ([45]++(d++r)) 0=45:=rfl;have ed:ah 1 ([45]++(d++r))=d++r:=rfl;rw[e0,if_pos rfl];simp only[ed,J7,Lr,av]at a0 ⊢;rw[hl,if_neg (by omega),if_neg a0]
theorem Ep {g d p r:List UInt8} (hg:IQ g) (hd:d≠[]) (ha:d.all isD=true) (hp:p≠[]) (hb:p.all isD=true) (hr:Eo r):kq (g++(d++46::(p++r)))=g.length+d.length+1+p.length:=by
 have hl:=Qk (w:=d) (r:=46::(p++r)) ha (.inr ⟨46,_,rfl,by decide⟩);have a2:=Qk (w:=p) (r:=r) hb (Hz (by decide) hr);have hdl:=am.2 hd;obtain⟨q,p,rfl⟩:∃q p',p=q::p':=by
  match p,hp with
  |q::p,_=>exact⟨q,p,rfl⟩
 have hq:isD q=true:=by simp only[M1,Aw]at hb;exact hb.1
 have e1:=j0 (a:=g++d) (b:=46::(q::p++r)) 0;have e2:=j0 (a:=g++d) (b:=46::(q::p++r)) 1;rw[Lm,M0]at e1 e2;rw[aw]at e1;have a0:nth 0 (g++(d++46::(q::p++r))) (g.length+d.length)=46∧isD (nth 0 (g++(d++46::(q::p++r))) (g.length+d.length+1))=true:=⟨e1,by rw[e2];exact hq⟩;have a1:ah (g.length+d.length+1) (g++(d++46::(q::p++r)))=q::p++r:=by
  have:g++(d++46::(q::p++r))=(g++d++[46])++(q::p++r):=by simp
  rw[this,ae (by simp;omega),List.drop_of_length_le (by simp;omega)];rfl
 unfold kq;rcases hg with rfl|rfl
 ·obtain⟨c,d,rfl⟩:∃c d',d=c::d':=by
   match d,hd with
   |c::d,_=>exact⟨c,d,rfl⟩
  have hc:isD c=true:=by simp only[M1,Aw]at ha;exact ha.1
  have e0:nth 0 ([]++(c::d++46::(q::p++r))) 0=c:=rfl;rw[e0,if_neg (Jv hc)];simp only[Lv,af,Lr,av]at a0 a1 ⊢;rw[hl,if_neg (by omega),if_pos a0,a1,a2]
 ·have e0:nth 0 ([45]++(d++46::(q::p++r))) 0=45:=rfl;have ed:ah 1 ([45]++(d++46::(q::p++r)))=d++46::(q::p++r):=rfl;rw[e0,if_pos rfl];simp only[ed,J7 (a:=(45:UInt8)),Lr,av]at a0 a1 ⊢;rw[hl,if_neg (by omega),if_pos a0,a1,a2]
theorem Jw (z:Int):IQ (sgT z):=by
 unfold sgT;cases decide (z<0)
 ·exact .inl rfl
 ·exact .inr rfl
theorem SQ {z:Int} {k:Nat} (hk:k≤30) {c:UInt8} {t r:List UInt8} (he:sgT z++qY z.natAbs k=c::t) (hr:Eo r):kN c (t++r)= .tok 2 (c::t).length:=by
 have a0:=Xg (z:=z) hk;have a1:kq (c::(t++r))=(c::t).length:=by
  rw[←J9,←he]
  match k,hk with
  |0,_=>have es:qY z.natAbs 0=I2 z.natAbs:=rfl;rw[es,M0,SP (Jw z) (kM _) (jx _) hr,Lm]
  |k+1,_=>have es:qY z.natAbs (k+1)=I2 (z.natAbs/10^(k+1))++46::xq (k+1) z.natAbs:=rfl;rw[es,M0,M0,J9,Ep (Jw z) (kM _) (jx _) (fun e=>by have:=congrArg ak e;rw[qN]at this;simp at this) (Q6 _ _) hr];rw[Lm,Lm,J7];omega
 have hc:c=45∨isD c=true:=by
  have h1:c∈sgT z++qY z.natAbs k:=by rw[he];simp
  have h2:=kM;rcases Jw z with hg|hg
  ·rw[hg,Lv]at he;right
   match k with
   |0=>exact jT he
   |k+1=>
    have es:qY z.natAbs (k+1)=I2 (z.natAbs/10^(k+1))++46::xq (k+1) z.natAbs:=rfl;rw[es]at he
    match hx:I2 (z.natAbs/10^(k+1)),h2 (z.natAbs/10^(k+1))with
    |a::l,_=>rw[hx,J9,au]at he;rw[←he.1];exact jT hx
  ·rw[hg]at he;left;simp only[J9,au]at he;exact he.1.symm
 have h32:c≠32:=fun e=>by
  rcases hc with h|h
  ·rw[e]at h;revert h;decide
  ·rw[e]at h;revert h;decide
 have hlt:¬ltr c=true:=fun hl=>by
  rcases hc with h|h
  ·rw[h]at hl;revert hl;decide
  ·have:=jc.1 h;unfold ltr at hl;simp only[Dd,Aw,decide_eq_true_eq]at hl;omega
 have htk:ar (c::t).length (c::(t++r))=c::t:=by rw[←J9,ad (ay _),W2]
 have hgl:¬wF (nth 0 (c::(t++r)) (c::t).length)=true:=by have e:=j0 (a:=c::t) (b:=r) 0;rw[aw,J9]at e;rw[e];rcases YI hr with h2|h2<;>(rw[h2];decide)
 unfold kN;rw[if_neg h32,if_neg hlt,a1,if_pos (by simp),htk,←he,a0,if_neg (by simp),he,if_neg hgl]
end Eng
end

section
namespace Eng
open Go
def jN (k:Nat) (w:List UInt8):Prop:=
 (k=1∧w.length≤24∧w.all nmc=true∧∃c t,w=c::t∧ltr c=true)∨(k=2∧∃(z:Int) (n:Nat),n≤30∧w=sgT z++qY z.natAbs n)
theorem SR (u k:Nat):qY u k≠[]:=by
 match k with
 |0=>exact kM u
 |k+1=>intro e;have es:qY u (k+1)=I2 (u/10^(k+1))++46::xq (k+1) u:=rfl;rw[es]at e;simp at e
theorem Mp {u k:Nat} {c:UInt8} {t:List UInt8} (h:qY u k=c::t):isD c=true:=by
 match k with
 |0=>exact jT h
 |k+1=>
  have es:qY u (k+1)=I2 (u/10^(k+1))++46::xq (k+1) u:=rfl;rw[es]at h
  match hx:I2 (u/10^(k+1)),kM (u/10^(k+1))with
  |a::l,_=>rw[hx,J9,au]at h;rw[←h.1];exact jT hx
theorem KO {k:Nat} {w:List UInt8} (h:jN k w):∃c t,w=c::t∧c≠35∧∀r,Eo r→kN c (t++r)= .tok k (c::t).length:=by
 rcases h with⟨rfl,hl,ha,c,t,rfl,hc⟩|⟨rfl,z,n,hn,rfl⟩
 ·exact⟨c,t,rfl,fun e=>by rw[e]at hc;revert hc;decide,fun r hr=>Pd hc ha hl hr⟩
 ·match he:sgT z++qY z.natAbs n with
  |[]=>exact absurd (List.append_eq_nil_iff.1 he).2 (SR _ _)
  |c::t=>
   refine⟨c,t,rfl,fun e=>?_,fun r hr=>SQ hn he hr⟩;rcases Jw z with hg|hg
   ·rw[hg,Lv]at he;have:=Mp he;rw[e]at this;revert this;decide
   ·rw[hg]at he;simp only[J9,au]at he;rw[e]at he;exact absurd he.1 (by decide)
def Es:Nat→List (Nat×List UInt8)→List Tk
 |_,[]=>[]
 |n,(k,w)::r=>⟨k,n,w⟩::Es (n+w.length+1) r
theorem Mq (n:Nat) (r:List UInt8):jU n (32::r)=jU (n+1) r:=by
 rw[ji,if_neg (by decide)];have:kN 32 r= .blank:=rfl;rw[this]
theorem KP:∀(l:List (Nat×List UInt8)) (n:Nat),(∀p∈l,jN p.1 p.2)→jU n (wE 32 (l.map (·.2)))= .ok (Es n l)
 |[],n,_=>wq n
 |[(k,w)],n,h=>by obtain⟨c,t,rfl,h35,hs⟩:=KO (h (k,w) (by simp));have hs:=hs [] (.inl rfl);rw[No]at hs;show jU n (c::t)=_;rw[ji,if_neg h35,hs];simp only[an,W2,wq];rfl
 |(k,w)::(k2,w2)::l,n,h=>by
  obtain⟨c,t,rfl,h35,hs⟩:=KO (h (k,w) (by simp));have ih:=KP ((k2,w2)::l) (n+(c::t).length+1) fun p hp=>h p (by simp only[Ls]at hp ⊢;exact .inr hp)
  have e:wE 32 (((k,c::t)::(k2,w2)::l).map (·.2))=c::(t++32::wE 32 (((k2,w2)::l).map (·.2))):=rfl;rw[e];generalize wE 32 (((k2,w2)::l).map (·.2))=R at *;have hs:=hs (32::R) (.inr ⟨R,rfl⟩);have hd:ah (c::t).length (c::(t++32::R))=32::R:=by rw[←J9,ae (ay _),an];rfl
  have ht:ar (c::t).length (c::(t++32::R))=c::t:=by rw[←J9,ad (ay _),W2]
  rw[ji,if_neg h35,hs];simp only[hd,ht,Mq,ih];rfl
end Eng
end

section
namespace Eng
open Go
def exF (b:Rat):Nat→Nat→Option (Int×Nat)
 |0,_=>none
 |f+1,k=>if(b*((10^k:Nat):Rat)).den=1 then some ((b*((10^k:Nat):Rat)).num,k)else exF b f (k+1)
def exq (b:Rat):Option (Int×Nat):=exF b 31 0
theorem UN {b:Rat}:∀{f k n:Nat} {z:Int},exF b f k=some (z,n)→n<k+f∧b*((10^n:Nat):Rat)=(z:Rat)
 |0,_,_,_,h=>by simp[exF]at h
 |f+1,k,n,z,h=>by
  rw[exF]at h;by_cases hd:(b*((10^k:Nat):Rat)).den=1
  ·rw[if_pos hd]at h;simp only[aH,aI]at h;obtain⟨rfl,rfl⟩:=h;exact⟨by omega,(Vy hd).symm⟩
  ·rw[if_neg hd]at h;obtain⟨h1,h2⟩:=UN h;exact⟨by omega,h2⟩
theorem WS {b:Rat} {n:Nat} {z:Int} (h:exq b=some (z,n)):n≤30∧b*((10^n:Nat):Rat)=(z:Rat):=by
 obtain⟨h1,h2⟩:=UN h;exact⟨by omega,h2⟩
theorem C1 (n:Nat):((10^n:Nat):Rat)≠0:=by
 have h:(10^n:Nat)≠0:=az.1 (ax (by omega))
 exact_mod_cast h
def XU (s:List UInt8):Option Rat:=match vS s with
 |none=>none
 |some (m,k)=>some ((m:Rat)/((10^k:Nat):Rat))
def X3 (b:Rat):List UInt8:=match exq b with
 |none=>[]
 |some (z,n)=>sgT z++qY z.natAbs n
theorem SS {b:Rat} {z:Int} {n:Nat} (h:exq b=some (z,n)):XU (X3 b)=some b:=by
 obtain⟨h1,h2⟩:=WS h;unfold XU X3;rw[h];simp only;rw[Xg h1];simp only;rw[←h2,Rat.mul_div_cancel (C1 n)]
theorem Pe {b:Rat} {z:Int} {n:Nat} (h:exq b=some (z,n)):jN 2 (X3 b):=by
 obtain⟨h1,_⟩:=WS h;unfold X3;rw[h];exact .inr ⟨rfl,z,n,h1,rfl⟩
theorem Pf (d:Int):∃k,k≤3∧mm d=sgT d++qY (d.natAbs*10^k/1000) k∧d.natAbs*10^k%1000=0:=by
 obtain⟨k,hk,h1,h2⟩:=Tt d.natAbs;refine⟨k,hk,?_,h1⟩;have h3:mm d=sgT d++mmU d.natAbs:=rfl;rw[h3,JH _ _ h1 h2 hk]
theorem C2 (d:Int):∃(z:Int) (k:Nat),k≤3∧mm d=sgT z++qY z.natAbs k∧z*1000=d*((10^k:Nat):Int):=by
 obtain⟨k,hk,h1,h2⟩:=Pf d;have hq:d.natAbs*10^k/1000*1000=d.natAbs*10^k:=by omega
 refine⟨if d<0 then-((d.natAbs*10^k/1000:Nat):Int)else((d.natAbs*10^k/1000:Nat):Int),k,hk,?_,?_⟩
 ·rw[h1];have hp:0<10^k:=ax (by omega);by_cases hd:d<0
  ·rw[if_pos hd];have hpos:0<d.natAbs*10^k/1000:=by have:1*1≤d.natAbs*10^k:=Nat.mul_le_mul (by omega) hp;omega
   have e1:sgT (-((d.natAbs*10^k/1000:Nat):Int))=sgT d:=by unfold sgT;rw[decide_eq_true (show-((d.natAbs*10^k/1000:Nat):Int)<0 by omega),decide_eq_true hd]
   rw[e1,J6,J3]
  ·rw[if_neg hd];have e1:sgT (((d.natAbs*10^k/1000:Nat):Int))=sgT d:=by unfold sgT;rw[decide_eq_false (show ¬((d.natAbs*10^k/1000:Nat):Int)<0 by omega),decide_eq_false hd]
   rw[e1,J3]
 ·by_cases hd:d<0
  ·rw[if_pos hd];have:((d.natAbs*10^k/1000*1000:Nat):Int)=((d.natAbs*10^k:Nat):Int):=by rw[hq]
   rw[J4,J4]at this;have e:((d.natAbs:Nat):Int)= -d:=by omega
   rw[e,Int.neg_mul]at this;omega
  ·rw[if_neg hd];have:((d.natAbs*10^k/1000*1000:Nat):Int)=((d.natAbs*10^k:Nat):Int):=by rw[hq]
   rw[J4,J4]at this;have e:((d.natAbs:Nat):Int)=d:=by omega
   rw[e]at this;omega
theorem ST (d:Int):jN 2 (mm d):=by
 obtain⟨z,k,hk,h,_⟩:=C2 d;exact .inr ⟨rfl,z,k,by omega,h⟩
def SU (s:List UInt8):Option Int:=match vS s with
 |none=>none
 |some (m,k)=>if k≤3 then some (m*((10^(3-k):Nat):Int))else none
theorem Et (d:Int):SU (mm d)=some d:=by
 obtain⟨z,k,hk,h,e⟩:=C2 d;unfold SU;rw[h,Xg (by omega)];simp only;rw[if_pos hk];congr 1;have h10:((10^(3-k):Nat):Int)*((10^k:Nat):Int)=1000:=by rw[←J4,←aA,show 3-k+k=3 by omega];rfl
 have hne:((10^k:Nat):Int)≠0:=by have:(10^k:Nat)≠0:=az.1 (ax (by omega));omega
 refine Int.eq_of_mul_eq_mul_right hne ?_;rw[Int.mul_assoc,h10,e]
end Eng
end

section
namespace Eng
open Go
structure Ly where
 name:List UInt8
 kind:Int
 depth:Int
structure En where
 kind:Int
 layer:List UInt8
 pts:List V2
 rad:Rat
def xB:List UInt8:=[108,97,121,101,114]
def kE:List UInt8:=[108,105,110,101]
def Xh:List UInt8:=[97,114,99]
def zf:List UInt8:=[99,105,114,99,108,101]
def Ql:List UInt8:=[112,111,99,107,101,116]
def Qm:List UInt8:=[105,115,108,97,110,100]
def YJ:List UInt8:=[104,111,108,101]
def vc:List UInt8:=[112,114,111,102,105,108,101]
def JZ (k:Int):List UInt8:=if k=1 then Ql else if k=2 then Qm else if k=3 then YJ else if k=4 then vc else []
def X4 (k:Int):List UInt8:=if k=1 then kE else if k=2 then Xh else if k=3 then zf else []
def kh (w:List UInt8):Bool:=decide (w.length≤24)&&(w.all nmc&&match w with|[]=>false|c::_=>ltr c)
theorem xC {w:List UInt8} (h:kh w=true):jN 1 w:=by
 unfold kh at h;simp only[Aw,decide_eq_true_eq]at h;obtain⟨h1,h2,h3⟩:=h
 match w,h3 with
 |c::t,h3=>exact .inl ⟨rfl,h1,h2,c,t,rfl,h3⟩
def y3 (l:Ly):Bool:=kh l.name&&((decide (l.kind=1∨l.kind=3)&&decide (1≤l.depth∧l.depth≤10000000))||(decide (l.kind=2∨l.kind=4)&&decide (l.depth=0)))
def vd (a:Rat):Bool:=decide (-10000000≤a∧a≤10000000)&&(exq (a/1000)).isSome
def wt (k:Int):Nat:=if k=1 then 2 else if k=2 then 3 else if k=3 then 1 else 0
def Ka (e:En):Bool:=decide (1≤e.kind∧e.kind≤3)&&(decide (e.pts.length=wt e.kind)&&(e.pts.all (fun p=>vd p.x&&vd p.y)&&(decide (e.kind≠3)||(vd e.rad&&decide (0<e.rad)))))
abbrev Wd:=Nat×List UInt8
def zK (l:Ly):List Wd:=[(1,xB),(1,l.name),(1,JZ l.kind),(2,mm l.depth)]
def Eu (a:Rat):Wd:=(2,X3 (a/1000))
def X5 (e:En):List Rat:=(e.pts.flatMap fun p=>[p.x,p.y])++(if e.kind=3 then [e.rad]else [])
def xQ (e:En):List Wd:=(1,X4 e.kind)::(1,e.layer)::(X5 e).map Eu
def kF (l:List Wd):List UInt8:=wE 32 (l.map (·.2))
def Gm (p:Wd):Option Rat:=if p.1=2 then(match XU p.2 with|none=>none|some q=>some (q*1000))else none
def xK:List Wd→Option (List Rat)
 |[]=>some []
 |p::r=>match Gm p with
  |none=>none
  |some q=>match xK r with
   |none=>none
   |some l=>some (q::l)
def wv (w:List UInt8):Int:=if w=Ql then 1 else if w=Qm then 2 else if w=YJ then 3 else if w=vc then 4 else 0
def Rx (s:List UInt8):Option Int:=match SU s with
 |none=>none
 |some d=>if-10000000≤d∧d≤10000000 then some d else none
def y9:List Wd→Option Ly
 |[(1,a),(1,b),(1,c),(2,d)]=>if a=xB∧wv c≠0 then(match Rx d with|none=>none|some x=>some ⟨b,wv c,x⟩)else none
 |_=>none
def XV (w n:List UInt8) (q:List Rat):Option En:=
 if w=kE then(match q with|[a,b,c,d]=>some ⟨1,n,[⟨a,b⟩,⟨c,d⟩],0⟩|_=>none)
 else if w=Xh then(match q with|[a,b,c,d,e,f]=>some ⟨2,n,[⟨a,b⟩,⟨c,d⟩,⟨e,f⟩],0⟩|_=>none)
 else if w=zf then(match q with|[a,b,r]=>some ⟨3,n,[⟨a,b⟩],r⟩|_=>none)
 else none
def ve:List Wd→Option En
 |(1,w)::(1,n)::r=>match xK r with
  |none=>none
  |some q=>XV w n q
 |_=>none
theorem Jx {a:Rat} (h:vd a=true):∃z n,exq (a/1000)=some (z,n):=by
 unfold vd at h;simp only[Aw]at h
 match hx:exq (a/1000),h.2 with
 |some (z,n),_=>exact⟨z,n,rfl⟩
theorem Az {a:Rat} (h:vd a=true):Gm (Eu a)=some a:=by
 obtain⟨z,n,hx⟩:=Jx h;unfold Gm Eu;rw[if_pos rfl,SS hx];simp only;rw[aN (by decide)]
theorem Pg {a:Rat} (h:vd a=true):jN (Eu a).1 (Eu a).2:=by
 obtain⟨z,n,hx⟩:=Jx h;exact Pe hx
theorem Ph:∀{l:List Rat},(∀a∈l,vd a=true)→xK (l.map Eu)=some l
 |[],_=>rfl
 |a::l,h=>by rw[Pl,xK,Az (h a (by simp))];simp only;rw[Ph fun b hb=>h b (by simp[hb])]
theorem Mr {l:Ly} (h:y3 l=true):y9 (zK l)=some l:=by
 obtain⟨nm,k,d⟩:=l;unfold y3 at h;simp only[Aw,Dd,decide_eq_true_eq]at h;obtain⟨_,h⟩:=h;have hk:wv (JZ k)=k∧k≠0:=by rcases h with⟨h|h,_⟩|⟨h|h,_⟩<;>(subst h;exact⟨by decide,by decide⟩)
 have hd: -10000000≤d∧d≤10000000:=by rcases h with⟨_,h⟩|⟨_,h⟩<;>omega
 unfold zK y9;simp only;rw[hk.1,if_pos ⟨trivial,hk.2⟩];unfold Rx;rw[Et];simp only;rw[if_pos hd]
theorem Jy {e:En} (h:Ka e=true):∀a∈X5 e,vd a=true:=by
 obtain⟨k,n,ps,r⟩:=e;unfold Ka at h;simp only[Aw,Dd,decide_eq_true_eq]at h;obtain⟨_,_,h3,h4⟩:=h;intro a ha;unfold X5 at ha;simp only[M2,List.mem_flatMap]at ha;rcases ha with⟨p,hp,ha⟩|ha
 ·have:=P1.1 h3 p hp;simp only[Aw]at this;simp only[Ls,Ts,or_false]at ha;rcases ha with rfl|rfl
  ·exact this.1
  ·exact this.2
 ·by_cases hk:k=3
  ·rw[if_pos hk]at ha;simp only[Ls,Ts,or_false]at ha;subst ha;rcases h4 with h4|h4
   ·exact absurd hk h4
   ·exact h4.1
  ·rw[if_neg hk]at ha;simp at ha
def wG (e:En):En:=⟨e.kind,e.layer,e.pts,if e.kind=3 then e.rad else 0⟩
theorem Ms {e:En} (h:Ka e=true):ve (xQ e)=some (wG e):=by
 have hn:=Ph (Jy h);unfold xQ ve;simp only;rw[hn];simp only;obtain⟨k,n,ps,r⟩:=e;unfold Ka at h;simp only[Aw,decide_eq_true_eq]at h;obtain⟨h1,h2,_,_⟩:=h;have h1:k=1∨k=2∨k=3:=by have h1:1≤k∧k≤3:=h1;omega
 rcases h1 with rfl|rfl|rfl
 ·match ps,h2 with
  |[p,q],_=>rfl
 ·match ps,h2 with
  |[p,q,s],_=>rfl
 ·match ps,h2 with
  |[p],_=>rfl
theorem UO:jN 1 xB∧jN 1 kE∧jN 1 Xh∧jN 1 zf∧jN 1 Ql∧jN 1 Qm∧jN 1 YJ∧jN 1 vc:=
 ⟨xC (by decide),xC (by decide),xC (by decide),xC (by decide),xC (by decide),xC (by decide),xC (by decide),xC (by decide)⟩
theorem X6 {l:Ly} (h:y3 l=true):∀p∈zK l,jN p.1 p.2:=by
 obtain⟨nm,k,d⟩:=l;unfold y3 at h;simp only[Aw,Dd,decide_eq_true_eq]at h;obtain⟨h1,h⟩:=h;obtain⟨g1,_,_,_,g5,g6,g7,g8⟩:=UO;have hk:jN 1 (JZ k):=by
  rcases h with⟨h|h,_⟩|⟨h|h,_⟩<;>subst h
  ·exact g5
  ·exact g7
  ·exact g6
  ·exact g8
 intro p hp;unfold zK at hp;simp only[Ls,Ts,or_false]at hp;rcases hp with rfl|rfl|rfl|rfl
 ·exact g1
 ·exact xC h1
 ·exact hk
 ·exact ST d
theorem X7 {e:En} (hl:kh e.layer=true) (h:Ka e=true):∀p∈xQ e,jN p.1 p.2:=by
 have hn:=Jy h;obtain⟨_,g2,g3,g4,_⟩:=UO;intro p hp;unfold xQ at hp;simp only[Ls,V1]at hp;rcases hp with rfl|rfl|⟨a,ha,rfl⟩
 ·obtain⟨k,n,ps,r⟩:=e;unfold Ka at h;simp only[Aw,decide_eq_true_eq]at h;have h1:1≤k∧k≤3:=h.1;have h1:k=1∨k=2∨k=3:=by omega
  rcases h1 with rfl|rfl|rfl
  ·exact g2
  ·exact g3
  ·exact g4
 ·exact xC hl
 ·exact Pg (hn a ha)
end Eng
end

section
namespace Eng
open Go
def xV (seen:List Ly) (l:Ly):Nat:=if y3 l=true then(if l.name∈seen.map (·.name)then 5 else 0)else 1
def xn (ls:List Ly) (e:En):Nat:=if e.layer∈ls.map (·.name)then(if Ka e=true then 0 else 1)else 4
def xR:List Ly→List Ly→Nat
 |_,[]=>0
 |seen,l::r=>match xV seen l with
  |0=>xR (seen++[l]) r
  |e=>e
def kr (ls:List Ly):List En→Nat
 |[]=>0
 |e::r=>match xn ls e with
  |0=>kr ls r
  |x=>x
def zb (ls:List Ly) (es:List En):Nat:=
 if 20<ls.length∨200<es.length then 3 else match xR [] ls with
  |0=>kr ls es
  |e=>e
def X8 (ls:List Ly) (es:List En):List (List Wd):=ls.map zK++es.map xQ
def Kb (ls:List Ly) (es:List En):List UInt8:=(X8 ls es).flatMap fun w=>kF w++[10]
def tkW (l:List Tk):List Wd:=l.map fun t=>(t.kind,t.text)
def j5:List Li→List Ly→List En→Except (Nat×Nat) (List Ly×List En)
 |[],ls,es=> .ok (ls,es)
 |x::r,ls,es=>match y9 (tkW x.toks)with
  |some l=>match(if 20<ls.length+1∨200<es.length then 3 else xV ls l)with
   |0=>j5 r (ls++[l]) es
   |e=> .error (x.number,e)
  |none=>match ve (tkW x.toks)with
   |some e=>match(if 20<ls.length∨200<es.length+1 then 3 else xn ls e)with
    |0=>j5 r ls (es++[e])
    |k=> .error (x.number,k)
   |none=> .error (x.number,2)
def YK (s:List UInt8):Except (Nat×Nat) (List Ly×List En):=match kD 1 (qC 10 s)with
 | .error e=> .error e
 | .ok l=>j5 l [] []
theorem H0:∀(l:List Wd) (n:Nat),tkW (Es n l)=l
 |[],_=>rfl
 |(k,w)::r,n=>by have:=H0 r (n+w.length+1);unfold tkW at this ⊢;rw[Es,Pl,this]
theorem SV {k:Nat} {w:List UInt8} (h:jN k w):∀a∈w,a≠10:=by
 rcases h with⟨_,_,ha,_⟩|⟨_,z,n,_,rfl⟩
 ·intro a h1 e;have:=P1.1 ha a h1;rw[e]at this;revert this;decide
 ·intro a h1 e;subst e;rw[M2]at h1;rcases h1 with h1|h1
  ·rcases Jw z with hg|hg
   ·rw[hg]at h1;simp at h1
   ·rw[hg]at h1;revert h1;decide
  ·match n,h1 with
   |0,h1=>have:=P1.1 (jx z.natAbs) _ h1;revert this;decide
   |n+1,h1=>
    have es:qY z.natAbs (n+1)=I2 (z.natAbs/10^(n+1))++46::xq (n+1) z.natAbs:=rfl;rw[es,M2,Ls]at h1;rcases h1 with h1|h1|h1
    ·have:=P1.1 (jx _) _ h1;revert this;decide
    ·revert h1;decide
    ·have:=P1.1 (Q6 _ _) _ h1;revert this;decide
theorem SW {l:List Wd} (h:∀p∈l,jN p.1 p.2):∀a∈kF l,a≠10:=fun a ha=>by
 rcases YG ha with rfl|⟨w,hw,h1⟩
 ·decide
 ·simp only[V1]at hw;obtain⟨p,hp,rfl⟩:=hw;exact SV (h p hp) a h1
theorem Xi:∀{L:List (List Wd)},(∀l∈L,∀p∈l,jN p.1 p.2)→qC 10 (L.flatMap fun w=>kF w++[10])=L.map kF++[[]]
 |[],_=>rfl
 |l::L,h=>by
  have e:(l::L).flatMap (fun w=>kF w++[10])=kF l++10::L.flatMap (fun w=>kF w++[10]):=by rw[List.flatMap_cons];simp
  rw[e,vG (SW (h l (by simp))),Xi fun m hm=>h m (by simp[hm])];rfl
def ki:Nat→List (List Wd)→List Li
 |_,[]=>[]
 |n,w::r=>⟨n,Es 0 w⟩::ki (n+1) r
theorem UP:∀{L:List (List Wd)} (n:Nat),(∀l∈L,l≠[]∧∀p∈l,jN p.1 p.2)→kD n (L.map kF++[[]])= .ok (ki n L)
 |[],n,_=>by show kD n [[]]=_;rw[kD,wq];simp only;rw[kD];rfl
 |l::L,n,h=>by
  obtain⟨h1,h2⟩:=h l (by simp);have ih:=UP (n+1) (L:=L) fun m hm=>h m (by simp[hm])
  rw[Pl,J9,kD];have ht:jU 0 (kF l)= .ok (Es 0 l):=KP l 0 h2;rw[ht]
  match l,h1 with
  |(k,w)::r,_=>rw[ki,Es];simp only;rw[ih]
theorem Ev {e:En} (h:Ka e=true):y9 (xQ e)=none:=by
 obtain⟨k,n,ps,r⟩:=e;unfold Ka at h;simp only[Aw,decide_eq_true_eq]at h;obtain⟨h1,h2,_,_⟩:=h;have h1:1≤k∧k≤3:=h1;have h1:k=1∨k=2∨k=3:=by omega
 rcases h1 with rfl|rfl|rfl
 ·match ps,h2 with
  |[p,q],_=>rfl
 ·match ps,h2 with
  |[p,q,s],_=>rfl
 ·match ps,h2 with
  |[p],_=>rfl
theorem C3 {ls:List Ly} (hl:ls.length≤20):∀{es:List En} {done:List En} (n:Nat),done.length+es.length≤200→kr ls es=0→j5 (ki n (es.map xQ)) ls done= .ok (ls,done++es.map wG)
 |[],done,n,_,_=>by simp[ki,j5]
 |e::es,done,n,hlen,h=>by
  rw[kr]at h;have hk:xn ls e=0:=by
   cases hx:xn ls e with
   |zero=>rfl
   |succ m=>rw[hx]at h;simp at h
  rw[hk]at h;simp only at h;have a0:Ka e=true∧e.layer∈ls.map (·.name):=by
   unfold xn at hk;by_cases h1:e.layer∈ls.map (·.name)
   ·rw[if_pos h1]at hk;by_cases h2:Ka e=true
    ·exact⟨h2,h1⟩
    ·rw[if_neg h2]at hk;simp at hk
   ·rw[if_neg h1]at hk;simp at hk
  have hkn:xn ls (wG e)=0:=by
   have h1:Ka (wG e)=true:=by
    have:=a0.1;unfold Ka wG at *;simp only at this ⊢;simp only[Aw,Dd,decide_eq_true_eq]at this ⊢;refine⟨this.1,this.2.1,this.2.2.1,?_⟩;by_cases hk:e.kind=3
    ·right;rw[if_pos hk];rcases this.2.2.2 with h|h
     ·exact absurd hk h
     ·exact h
    ·exact .inl hk
   unfold xn;rw[if_pos (show(wG e).layer∈ls.map (·.name)from a0.2),if_pos h1]
  rw[J7]at hlen;rw[Pl,ki,j5];simp only[H0,Ev a0.1,Ms a0.1];rw[if_neg (by omega),hkn];simp only;rw[C3 hl (n+1) (by rw[Lm,J7,Lr];omega) h];simp
theorem C4 {es:List En}:∀{ls seen:List Ly} (n:Nat),seen.length+ls.length≤20→es.length≤200→xR seen ls=0→kr (seen++ls) es=0→j5 (ki n (ls.map zK++es.map xQ)) seen []= .ok (seen++ls,es.map wG)
 |[],seen,n,h1,h2,_,h4=>by
  rw[No]at h4 ⊢;have:=C3 (done:=[]) (by simpa using h1) n (by simpa using h2) h4
  simpa using this
 |l::ls,seen,n,h1,h2,h3,h4=>by
  rw[xR]at h3;have hk:xV seen l=0:=by
   cases hx:xV seen l with
   |zero=>rfl
   |succ m=>rw[hx]at h3;simp at h3
  rw[hk]at h3;simp only at h3;have hok:y3 l=true:=by
   unfold xV at hk;by_cases h:y3 l=true
   ·exact h
   ·rw[if_neg h]at hk;simp at hk
  rw[J7]at h1;rw[Pl,J9,ki,j5];simp only[H0,Mr hok];rw[if_neg (by simp;omega),hk];simp only;rw[C4 (n+1) (by rw[Lm,J7,Lr];omega) h2 h3 (by rw[M0];exact h4)];simp
theorem Qn:∀{ls seen:List Ly},xR seen ls=0→∀l∈ls,y3 l=true
 |x::ls,seen,h,l,hl=>by
  rw[xR]at h;have hk:xV seen x=0:=by
   cases hx:xV seen x with
   |zero=>rfl
   |succ m=>rw[hx]at h;simp at h
  rw[hk]at h;simp only[Ls]at hl;rcases hl with rfl|hl
  ·unfold xV at hk;by_cases h:y3 l=true
   ·exact h
   ·rw[if_neg h]at hk;simp at hk
  ·exact Qn h l hl
theorem Qo {ls:List Ly}:∀{es:List En},kr ls es=0→∀e∈es,Ka e=true∧e.layer∈ls.map (·.name)
 |x::es,h,e,he=>by
  rw[kr]at h;have hk:xn ls x=0:=by
   cases hx:xn ls x with
   |zero=>rfl
   |succ m=>rw[hx]at h;simp at h
  rw[hk]at h;simp only[Ls]at he;rcases he with rfl|he
  ·unfold xn at hk;by_cases h1:e.layer∈ls.map (·.name)
   ·rw[if_pos h1]at hk;by_cases h2:Ka e=true
    ·exact⟨h2,h1⟩
    ·rw[if_neg h2]at hk;simp at hk
   ·rw[if_neg h1]at hk;simp at hk
  ·exact Qo h e he
theorem YL {ls:List Ly} {es:List En} (h:zb ls es=0):YK (Kb ls es)= .ok (ls,es.map wG):=by
 unfold zb at h;by_cases hb:20<ls.length∨200<es.length
 ·rw[if_pos hb]at h;simp at h
 rw[if_neg hb]at h;have h1:xR [] ls=0:=by
  cases hx:xR [] ls with
  |zero=>rfl
  |succ m=>rw[hx]at h;simp at h
 rw[h1]at h;simp only at h;have hl:=Qn h1;have he:=Qo h;have a0:∀l∈ls,kh l.name=true:=fun l hl'=>by have:=hl l hl';unfold y3 at this;simp only[Aw]at this;exact this.1
 have hL:∀l∈X8 ls es,l≠[]∧∀p∈l,jN p.1 p.2:=fun l hx=>by
  unfold X8 at hx;rw[M2,V1,V1]at hx;rcases hx with⟨x,hx,rfl⟩|⟨x,hx,rfl⟩
  ·exact⟨by simp[zK],X6 (hl x hx)⟩
  ·obtain⟨h2,h3⟩:=he x hx;rw[V1]at h3;obtain⟨y,hy,e⟩:=h3;exact⟨by simp[xQ],X7 (by rw[←e];exact a0 y hy) h2⟩
 unfold YK Kb;rw[Xi fun l hx=>(hL l hx).2,UP 1 hL];simp only;have:=C4 (ls:=ls) (es:=es) (seen:=[]) 1 (by simp;omega) (by omega) h1 (by simpa using h);unfold X8
 simpa using this
end Eng
end

section
namespace Eng
open Go
theorem KQ:∀{ls seen:List Ly} {l:Ly},xR seen ls=0→xV (seen++ls) l=0→xR seen (ls++[l])=0
 |[],seen,l,_,h=>by rw[No]at h;rw[Lv,xR,h];rfl
 |x::ls,seen,l,h1,h2=>by
  rw[xR]at h1;have hk:xV seen x=0:=by
   cases hx:xV seen x with
   |zero=>rfl
   |succ m=>rw[hx]at h1;simp at h1
  rw[hk]at h1;simp only at h1;rw[J9,xR,hk];simp only;exact KQ h1 (by rw[M0];exact h2)
theorem Jz {ls:List Ly} {l:Ly} {e:En} (h:xn ls e=0):xn (ls++[l]) e=0:=by
 unfold xn at h ⊢;by_cases h1:e.layer∈ls.map (·.name)
 ·rw[if_pos h1]at h;rw[if_pos (by rw[List.map_append,M2];exact .inl h1),h]
 ·rw[if_neg h1]at h;simp at h
theorem jj {ls:List Ly}:∀{es:List En},kr ls es=0↔∀e∈es,xn ls e=0
 |[]=>by simp[kr]
 |x::es=>by
  rw[kr];constructor
  ·intro h;have hk:xn ls x=0:=by
    cases hx:xn ls x with
    |zero=>rfl
    |succ m=>rw[hx]at h;simp at h
   rw[hk]at h;intro e he;simp only[Ls]at he;rcases he with rfl|he
   ·exact hk
   ·exact jj.1 h e he
  ·intro h;rw[h x (by simp)];exact jj.2 fun e he=>h e (by simp[he])
theorem Pi {w n:List UInt8} {q:List Rat} {e:En} (h:XV w n q=some e):wG e=e:=by
 unfold XV at h;by_cases h1:w=kE
 ·rw[if_pos h1]at h;split at h
  ·simp only[aH]at h;subst h;rfl
  ·simp at h
 rw[if_neg h1]at h;by_cases h2:w=Xh
 ·rw[if_pos h2]at h;split at h
  ·simp only[aH]at h;subst h;rfl
  ·simp at h
 rw[if_neg h2]at h;by_cases h3:w=zf
 ·rw[if_pos h3]at h;split at h
  ·simp only[aH]at h;subst h;rfl
  ·simp at h
 ·rw[if_neg h3]at h;simp at h
theorem Pj {l:List Wd} {e:En} (h:ve l=some e):wG e=e:=by
 unfold ve at h;split at h
 ·split at h
  ·simp at h
  ·exact Pi h
 ·simp at h
theorem ww:∀{L:List Li} {ls ls':List Ly} {es es':List En},ls.length≤20→es.length≤200→xR [] ls=0→kr ls es=0→(∀e∈es,wG e=e)→j5 L ls es= .ok (ls',es')→zb ls' es'=0∧∀e∈es',wG e=e
 |[],ls,ls',es,es',h1,h2,h3,h4,h5,h=>by rw[j5]at h;simp only[I1,aI]at h;obtain⟨rfl,rfl⟩:=h;refine⟨?_,h5⟩;unfold zb;rw[if_neg (by omega),h3];exact h4
 |x::L,ls,ls',es,es',h1,h2,h3,h4,h5,h=>by
  rw[j5]at h;cases hl:y9 (tkW x.toks)with
  |some l=>
   rw[hl]at h;simp only at h;by_cases hb:20<ls.length+1∨200<es.length
   ·rw[if_pos hb]at h;simp at h
   rw[if_neg hb]at h;cases hk:xV ls l with
   |succ m=>rw[hk]at h;simp at h
   |zero=>rw[hk]at h;refine ww (by rw[Lm,J7,Lr];omega) h2 (KQ h3 (by rw[Lv];exact hk)) ?_ h5 h;exact jj.2 fun e he=>Jz (jj.1 h4 e he)
  |none=>
   rw[hl]at h;simp only at h;cases he:ve (tkW x.toks)with
   |none=>rw[he]at h;simp at h
   |some e=>
    rw[he]at h;simp only at h;by_cases hb:20<ls.length∨200<es.length+1
    ·rw[if_pos hb]at h;simp at h
    rw[if_neg hb]at h;cases hk:xn ls e with
    |succ m=>rw[hk]at h;simp at h
    |zero=>
     rw[hk]at h;refine ww h1 (by rw[Lm,J7,Lr];omega) h3 ?_ ?_ h
     ·refine jj.2 fun f hf=>?_
      simp only[M2,Ls,Ts,or_false]at hf;rcases hf with hf|rfl
      ·exact jj.1 h4 f hf
      ·exact hk
     ·intro f hf;simp only[M2,Ls,Ts,or_false]at hf;rcases hf with hf|rfl
      ·exact h5 f hf
      ·exact Pj he
theorem Mt {s:List UInt8} {ls:List Ly} {es:List En} (h:YK s= .ok (ls,es)):zb ls es=0∧YK (Kb ls es)= .ok (ls,es):=by
 unfold YK at h;cases hl:kD 1 (qC 10 s)with
 |error e=>rw[hl]at h;simp at h
 |ok L=>
  rw[hl]at h;simp only at h;obtain⟨h1,h2⟩:=ww (by simp) (by simp) rfl rfl (by simp) h;refine⟨h1,?_⟩;rw[YL h1];have:es.map wG=es:=by
   conv=>rhs;rw[←List.map_id es]
   exact List.map_congr_left fun e he=>h2 e he
  rw[this]
end Eng
end

section
namespace Eng
open Go
theorem YM:∀{ls seen:List Ly} {l:Ly},xR seen ls=0→xR seen (ls++[l])=xV (seen++ls) l
 |[],seen,l,_=>by
  rw[Lv,No,xR]
  match h:xV seen l with
  |0=>rfl
  |n+1=>rfl
 |x::r,seen,l,h=>by
  rw[xR]at h;rw[J9,xR]
  match hx:xV seen x,h with
  |0,h=>simp only at h ⊢;rw[YM h,M0];rfl
  |n+1,h=>simp only at h;omega
theorem YN {ls:List Ly}:∀{es:List En} {e:En},kr ls es=0→kr ls (es++[e])=xn ls e
 |[],e,_=>by
  rw[Lv,kr]
  match h:xn ls e with
  |0=>rfl
  |n+1=>rfl
 |x::r,e,h=>by
  rw[kr]at h;rw[J9,kr]
  match hx:xn ls x,h with
  |0,h=>simp only at h ⊢;exact YN h
  |n+1,h=>simp only at h;omega
theorem zZ {ls:List Ly} {es:List En} (h:zb ls es=0):ls.length≤20∧es.length≤200∧xR [] ls=0∧kr ls es=0:=by
 unfold zb at h;by_cases h1:20<ls.length∨200<es.length
 ·rw[if_pos h1]at h;omega
 ·rw[if_neg h1]at h
  match hx:xR [] ls,h with
  |0,h=>exact⟨by omega,by omega,rfl,h⟩
  |n+1,h=>simp only at h;omega
theorem Pk {ls:List Ly} {es:List En} {l:Ly} (h:zb ls es=0):zb (ls++[l]) es=if 20<ls.length+1∨200<es.length then 3 else xV ls l:=by
 obtain⟨_,_,h3,h4⟩:=zZ h;unfold zb;rw[Lm,aj];by_cases h1:20<ls.length+1∨200<es.length
 ·rw[if_pos h1,if_pos h1]
 ·rw[if_neg h1,if_neg h1,YM h3,Lv]
  match xV ls l with
  |0=>exact jj.2 fun e he=>Jz (jj.1 h4 e he)
  |n+1=>rfl
theorem Pm {ls:List Ly} {es:List En} {e:En} (h:zb ls es=0):zb ls (es++[e])=if 20<ls.length∨200<es.length+1 then 3 else xn ls e:=by
 obtain⟨_,_,h3,h4⟩:=zZ h;unfold zb;rw[Lm,aj];by_cases h1:20<ls.length∨200<es.length+1
 ·rw[if_pos h1,if_pos h1]
 ·rw[if_neg h1,if_neg h1,h3];exact YN h4
def Pn (ls:List Ly) (es:List En) (l:List Wd):Option (List Ly×List En):=
 match l with
 |(k0,w0)::(k1,w1)::(k2,w2)::(k3,w3)::r=>
  if ¬(k0=1∧k1=1)then none
  else if w0=xB then
   (if r.length=0∧k2=1∧k3=2 then(match Rx w3 with
    |none=>none
    |some d=>if wv w2≠0 then some (ls++[⟨w1,wv w2,d⟩],es)else none)else none)
  else match xK ((k2,w2)::(k3,w3)::r)with
   |none=>none
   |some q=>match XV w0 w1 q with
    |none=>none
    |some e=>some (ls,es++[e])
 |_=>none
def YO:List Li→List Ly→List En→Except (Nat×Nat) (List Ly×List En)
 |[],ls,es=> .ok (ls,es)
 |x::r,ls,es=>match Pn ls es (tkW x.toks)with
  |none=> .error (x.number,2)
  |some (ls',es')=>match zb ls' es' with
   |0=>YO r ls' es'
   |e=> .error (x.number,e)
theorem Mu {n:List UInt8} {q:List Rat}:XV xB n q=none:=by
 unfold XV;rw[if_neg (by decide),if_neg (by decide),if_neg (by decide)]
theorem KR {w n:List UInt8} {q:List Rat} (h:q.length<2):XV w n q=none:=by
 unfold XV
 match q,h with
 |[],_=>simp
 |[a],_=>simp
theorem Mv {k:Nat} {w1:List UInt8} {r:List Wd}:ve ((1,xB)::(k,w1)::r)=none:=by
 by_cases hk:k=1
 ·subst hk;rw[ve]
  match xK r with
  |none=>rfl
  |some q=>exact Mu
 ·unfold ve;split
  ·rename_i h;simp only[au,aI]at h;exact absurd h.2.1.1 hk
  ·rfl
theorem Qp {l:List Wd} (h:l.length≠4):y9 l=none:=by
 unfold y9;split
 ·exact absurd rfl h
 ·rfl
theorem WT {p:Wd}:ve [p]=none:=by
 unfold ve;split
 ·rename_i h;simp at h
 ·rfl
theorem Po (ls:List Ly) (es:List En) (l:List Wd):Pn ls es l=match y9 l with
 |some x=>some (ls++[x],es)
 |none=>match ve l with
  |some e=>some (ls,es++[e])
  |none=>none:=by
 match l with
 |[]=>rfl
 |[p]=>rw[Qp (by simp),WT];rfl
 |[(k0,w0),(k1,w1)]=>
  have h:ve [(k0,w0),(k1,w1)]=none:=by
   unfold ve;split
   ·rename_i h;simp only[au,aI,List.nil_eq]at h;obtain⟨_,_,rfl⟩:=h;exact KR (by decide)
   ·rfl
  rw[h,Qp (by simp)];rfl
 |[(k0,w0),(k1,w1),(k2,w2)]=>
  have h:ve [(k0,w0),(k1,w1),(k2,w2)]=none:=by
   unfold ve;split
   ·rename_i h;simp only[au,aI]at h;obtain⟨_,_,rfl⟩:=h;rw[xK]
    match Gm (k2,w2)with
    |none=>rfl
    |some q=>exact KR (by simp)
   ·rfl
  rw[h,Qp (by simp)];rfl
 |(k0,w0)::(k1,w1)::(k2,w2)::(k3,w3)::r=>
  rw[Pn];by_cases hk:k0=1∧k1=1
  ·obtain⟨rfl,rfl⟩:=hk;rw[if_neg (by simp)];by_cases hw:w0=xB
   ·subst hw;rw[if_pos rfl,Mv]
    match r with
    |[]=>
     by_cases h2:k2=1∧k3=2
     ·obtain⟨rfl,rfl⟩:=h2;rw[if_pos ⟨rfl,rfl,rfl⟩,y9];by_cases hk:wv w2≠0
      ·rw[if_pos ⟨rfl,hk⟩]
       match Rx w3 with
       |none=>rfl
       |some d=>simp[hk]
      ·rw[if_neg (fun h=>hk h.2)]
       match Rx w3 with
       |none=>rfl
       |some d=>simp[hk]
     ·rw[if_neg (fun h=>h2 h.2)];have:y9 [(1,xB),(1,w1),(k2,w2),(k3,w3)]=none:=by
       unfold y9;split
       ·rename_i h;simp only[au,aI,and_true]at h;exact absurd ⟨h.2.2.1.1,h.2.2.2.1⟩ h2
       ·rfl
      rw[this]
    |p::r=>rw[if_neg (by simp),Qp (by simp)]
   ·rw[if_neg hw];have:y9 ((1,w0)::(1,w1)::(k2,w2)::(k3,w3)::r)=none:=by
     unfold y9;split
     ·rename_i h;simp only[au,aI]at h;rw[if_neg (fun g=>hw (h.1.2.trans g.1))]
     ·rfl
    rw[this,ve];simp only
    match xK ((k2,w2)::(k3,w3)::r)with
    |none=>rfl
    |some q=>
     simp only
     match XV w0 w1 q with
     |none=>rfl
     |some e=>rfl
  ·rw[if_pos hk];have h1:y9 ((k0,w0)::(k1,w1)::(k2,w2)::(k3,w3)::r)=none:=by
    unfold y9;split
    ·rename_i h;simp only[au,aI]at h;exact absurd ⟨h.1.1,h.2.1.1⟩ hk
    ·rfl
   have h2:ve ((k0,w0)::(k1,w1)::(k2,w2)::(k3,w3)::r)=none:=by
    unfold ve;split
    ·rename_i h;simp only[au,aI]at h;exact absurd ⟨h.1.1,h.2.1.1⟩ hk
    ·rfl
   rw[h1,h2]
theorem WU:∀(L:List Li) {ls:List Ly} {es:List En},zb ls es=0→YO L ls es=j5 L ls es
 |[],_,_,_=>rfl
 |x::r,ls,es,h=>by
  rw[YO,j5,Po]
  match y9 (tkW x.toks)with
  |some l=>
   simp only;have e:=Pk (l:=l) h
   match hv:(if 20<ls.length+1∨200<es.length then 3 else xV ls l)with
   |0=>rw[hv]at e;rw[e];exact WU r e
   |n+1=>rw[hv]at e;rw[e];rfl
  |none=>
   simp only
   match ve (tkW x.toks)with
   |none=>rfl
   |some en=>
    simp only;have e:=Pm (e:=en) h
    match hv:(if 20<ls.length∨200<es.length+1 then 3 else xn ls en)with
    |0=>rw[hv]at e;rw[e];exact WU r e
    |n+1=>rw[hv]at e;rw[e];rfl
end Eng
end

section
namespace Eng
open Go
theorem Ew (b:Rat) (p:Nat):(b*((p:Nat):Rat)).den=1↔b.den∣p:=by
 have hc:Nat.Coprime b.den b.num.natAbs:=b.reduced.symm;have hg:a7 (b.num*(p:Int)).natAbs (b.den*1)=a7 p b.den:=by rw[aC,Int.natAbs_mul,J3];exact Nat.Coprime.gcd_mul_left_cancel _ b.reduced
 have hd:(b*((p:Nat):Rat)).den=b.den/a7 p b.den:=by rw[Rat.den_mul,Rat.den_natCast,Rat.num_natCast,hg,aC]
 rw[hd];constructor
 ·intro h;have h1:a7 p b.den∣b.den:=Nat.gcd_dvd_right _ _;have h2:=Nat.div_mul_cancel h1;rw[h,Nat.one_mul]at h2;rw[←h2];exact Nat.gcd_dvd_left _ _
 ·intro h;rw[Nat.gcd_eq_right h];exact Nat.div_self b.den_pos
theorem H1 (b:Rat) (k:Nat):(b*((10^k:Nat):Rat)).den=1↔10^k%b.den=0:=by
 rw[Ew];exact Nat.dvd_iff_mod_eq_zero
theorem SX (b:Rat) (f k:Nat):exF b (f+1) k=if 10^k%b.den=0 then some ((b*((10^k:Nat):Rat)).num,k)else exF b f (k+1):=by
 rw[exF];by_cases h:10^k%b.den=0
 ·rw[if_pos h,if_pos ((H1 b k).2 h)]
 ·rw[if_neg h,if_neg (fun g=>h ((H1 b k).1 g))]
theorem Pp {m:Int} {k:Nat} (hk:k≤3):((m:Rat)/((10^k:Nat):Rat)*((1000:Int):Rat))=((m*((10^(3-k):Nat):Int):Int):Rat):=by
 have h10:((10^(3-k):Nat):Int)*((10^k:Nat):Int)=1000:=by rw[←J4,←aA,show 3-k+k=3 by omega];rfl
 have hp:=C1 k;have h1:(m:Rat)/((10^k:Nat):Rat)*((1000:Int):Rat)=(m:Rat)/((10^k:Nat):Rat)*((10^k:Nat):Rat)*(((10^(3-k):Nat):Int):Rat):=by
  rw[←h10,aJ,aK]
  grind
 rw[h1,aN hp,aJ]
theorem micF {m:Int} {k:Nat} (hk:k≤3):((m:Rat)/((10^k:Nat):Rat)*((1000:Int):Rat)).floor=m*((10^(3-k):Nat):Int):=by
 rw[Pp hk,Rat.floor_intCast]
theorem SY {b:Rat} {z:Int} {n:Nat} (h:exq b=some (z,n)) (h1: -10000≤b) (h2:b≤10000):(X3 b).length≤37:=by
 obtain⟨hn,he⟩:=WS h;have hp:(0:Rat)≤((10^n:Nat):Rat):=Rat.natCast_nonneg;have hz:z.natAbs≤10000*10^n:=by
  have e1:(z:Rat)≤((10000*((10^n:Nat):Int):Int):Rat):=by rw[aJ,aK,←he];exact aL h2 hp
  have e2:((-10000*((10^n:Nat):Int):Int):Rat)≤(z:Rat):=by rw[aJ,aK,←he];exact aL h1 hp
  have f1:=aM.1 e1;have f2:=aM.1 e2;omega
 have hq:z.natAbs/10^n<10^5:=by rw[Nat.div_lt_iff_lt_mul (ax (by omega))];have:10000*10^n<10^5*10^n:=Nat.mul_lt_mul_of_pos_right (by decide) (ax (by omega));omega
 have hd:(I2 (z.natAbs/10^n)).length≤5:=zh (n:=4) hq;have hs:(sgT z).length≤1:=by unfold sgT;split<;>simp
 unfold X3;rw[h];simp only;rw[Lm]
 match n,hn,hd with
 |0,_,hd=>rw[Nat.pow_zero,Nat.div_one]at hd;have:(qY z.natAbs 0).length≤5:=hd;omega
 |n+1,hn,hd=>have es:(qY z.natAbs (n+1)).length=(I2 (z.natAbs/10^(n+1))++46::xq (n+1) z.natAbs).length:=rfl;rw[es,Lm,J7,qN];omega
theorem YP {a:Rat} (h:vd a=true):(X3 (a/1000)).length≤37:=by
 obtain⟨z,n,hx⟩:=Jx h;unfold vd at h;simp only[Aw,decide_eq_true_eq]at h;obtain⟨⟨h1,h2⟩,_⟩:=h;exact SY hx (by grind) (by grind)
end Eng
end

section
namespace Eng
open Go
def Gn (n:Nat):List UInt8→Nat→Nat→Bool→Option (Nat×Bool)
 |[],_,pt,sm=>some (pt,sm)
 |c::r,i,pt,sm=>if c=46∧pt=n then Gn n r (i+1) i sm else if isD c=true then Gn n r (i+1) pt (sm||decide (c≠48))else none
def C5 (l:List UInt8):Bool:=l.any fun c=>decide (c≠48)
theorem YQ {n pt:Nat} (hp:pt≠n):∀(r:List UInt8) (i:Nat) (sm:Bool),Gn n r i pt sm=if r.all isD=true then some (pt,sm||C5 r)else none
 |[],i,sm=>by simp[Gn,C5]
 |c::r,i,sm=>by
  rw[Gn,if_neg (fun h=>hp h.2)];by_cases hc:isD c=true
  ·rw[if_pos hc,YQ hp r];simp only[M1,hc,Bx,C5,ap,Hy]
  ·rw[if_neg hc,if_neg (by simp[hc])]
theorem KS {n:Nat}:∀(r:List UInt8) (i:Nat) (sm:Bool),i+r.length=n→Gn n r i n sm=if(qB 46 r).1.all isD=true∧((qB 46 r).2.getD []).all isD=true then some (i+(qB 46 r).1.length,sm||C5 ((qB 46 r).1++(qB 46 r).2.getD []))else none
 |[],i,sm,h=>by simp at h;subst h;simp[Gn,qB,C5]
 |c::r,i,sm,h=>by
  rw[Gn,qB];simp only[J7]at h;by_cases hc:c=46
  ·rw[if_pos ⟨hc,rfl⟩,if_pos hc,YQ (by omega) r];simp only[List.all_nil,aE,Lr,aw,Lv,true_and]
  ·rw[if_neg (fun g=>hc g.1),if_neg hc];simp only[M1,J7,J9];by_cases hd:isD c=true
   ·rw[if_pos hd,KS r (i+1) _ (by omega)];simp only[hd,Bx,C5,ap,Hy,Nat.add_assoc,Nat.add_comm 1]
   ·rw[if_neg hd];simp[hd]
theorem H2 {c:UInt8} (h:isD c=true):dv c=0↔c=48:=by
 unfold isD at h;simp only[Aw,decide_eq_true_eq]at h;unfold dv;constructor
 ·intro e;refine UInt8.toNat_inj.1 ?_;have:(48:UInt8).toNat=48:=rfl;omega
 ·intro e;subst e;rfl
theorem UQ:∀{l:List UInt8},l.all isD=true→(C5 l=decide (xw l≠0))
 |[],_=>rfl
 |c::r,h=>by
  simp only[M1,Aw]at h;have ih:=UQ h.2;have hz:=H2 h.1;have hp:0<10^r.length:=ax (by omega);show(decide (c≠48)||C5 r)=_;rw[ih,xw,Hv];simp only[Dd,decide_eq_true_eq];by_cases hc:c=48
  ·have h0:=hz.2 hc;rw[h0,a8,av];simp[hc]
  ·have h0:0<dv c:=a6 fun e=>hc (hz.1 e)
   have:=aB h0 hp;constructor
   ·intro _;omega
   ·intro _;exact .inl hc
def A0 (s:List UInt8):Int:=
 let b:=(qA s).1
 match Gn b.length b 0 b.length false with
 |none=> -1
 |some (pt,sm)=>
  if pt=0∨(1<pt∧nth 0 b 0=48)∨((qA s).2=true∧sm=false)then-1
  else if pt=b.length then 0
  else if b.length-pt-1<1∨30<b.length-pt-1 then-1 else((b.length-pt-1:Nat):Int)
theorem Pq (c:UInt8):∀(s:List UInt8),(match(qB c s).2 with
 |none=>(qB c s).1.length=s.length
 |some p=>(qB c s).1.length+1+p.length=s.length)
 |[]=>rfl
 |a::s=>by
  have ih:=Pq c s;rw[qB];by_cases h:a=c
  ·rw[if_pos h];simp only[Lr,J7];omega
  ·rw[if_neg h];simp only[J7];cases hx:(qB c s).2 with
   |none=>rw[hx]at ih;simp only at ih ⊢;omega
   |some p=>rw[hx]at ih;simp only at ih ⊢;omega
theorem SZ (c:UInt8) {s:List UInt8} (h:(qB c s).1≠[]):nth 0 (qB c s).1 0=nth 0 s 0:=by
 match s with
 |[]=>exact absurd rfl h
 |a::s=>
  rw[qB]at h ⊢;by_cases hc:a=c
  ·rw[if_pos hc]at h;exact absurd rfl h
  ·rw[if_neg hc];rfl
theorem Pr (s:List UInt8):A0 s=match vS s with
 |none=> -1
 |some (_,k)=>(k:Int):=by
 unfold A0 vS;simp only;generalize qA s=g;obtain⟨b,a1⟩:=g;simp only;rw[KS b 0 false (by omega)];have hl:=Pq 46 b;have hh:= @SZ 46 b;generalize qB 46 b=q at *;obtain⟨w,p⟩:=q;simp only at hl hh ⊢;by_cases hd:w.all isD=true∧(p.getD []).all isD=true
 ·rw[if_pos hd];have ha:=UQ (l:=w++p.getD []) (by rw[W0,hd.1,hd.2];rfl);simp only[av,Gv];rw[ha];unfold jq
  match w,hd,hh with
  |[],_,_=>simp
  |c::w,hd,hh=>
   have hh:=hh (by simp);rw[←hh];have e:nth 0 (c::w) 0=c:=rfl;rw[e,hd.1];have a2:(c::w).length≠0:=by simp
   generalize hm:xw (c::w++p.getD [])=m at *;have hi:(c::w).isEmpty=false:=rfl;rw[hi];generalize (c::w).length=wl at *;have a3:((wl≤1∧¬1<wl)∨(1<wl∧¬wl≤1)):=by omega
   cases p with
   |none=>simp only at hl;generalize b.length=bl at *;subst hl;simp only[kC,aG,Lr,F2,Bx];rcases a3 with⟨h1,a0⟩|⟨h1,a0⟩<;>by_cases h2:c=48<;>by_cases h3:m=0<;>cases a1<;>simp[h1,a0,h2,h3,a2]
   |some t=>
    simp only at hl;have ht:=hd.2;simp only[aE]at ht;have hb:b.length-wl-1=t.length:=by omega
    have hb2:wl≠b.length:=by omega
    rw[hb];simp only[kC,aE,ht,F2,Bx];have hte:t.isEmpty=decide (t.length=0):=by cases t<;>simp
    rw[hte];generalize t.length=tl at *;generalize b.length=bl at *;have hx2:(tl=0∧tl<1∧¬30<tl∧tl≤30)∨(tl≠0∧¬tl<1∧30<tl∧¬tl≤30)∨(tl≠0∧¬tl<1∧¬30<tl∧tl≤30):=by omega
    rcases a3 with⟨h1,a0⟩|⟨h1,a0⟩<;>rcases hx2 with⟨h4,h5,h6,h7⟩|⟨h4,h5,h6,h7⟩|⟨h4,h5,h6,h7⟩<;>by_cases h2:c=48<;>by_cases h3:m=0<;>cases a1<;>simp[h1,a0,h2,h3,h4,h5,h6,h7,hb2,a2]
 ·rw[if_neg hd];have:(jq w&&(kC p&&(!a1||decide (xw (w++p.getD [])≠0))))=false:=by
   by_cases h1:w.all isD=true
   ·have h2:(p.getD []).all isD=false:=by
     cases hx:(p.getD []).all isD with
     |false=>rfl
     |true=>exact absurd ⟨h1,hx⟩ hd
    cases p with
    |none=>simp at h2
    |some t=>simp only[aE]at h2;simp[kC,h2]
   ·simp[jq,h1]
  rw[this];rfl
end Eng
end

section
namespace Eng
open Go
def F6 (p:Wd):Prop:=p.1=1∨p.1=2∨(p.1=3∧∃c,Mo c=true∧p.2=[c])
theorem Ps {c:UInt8} {s:List UInt8} {k n:Nat} (h:kN c s= .tok k n):k=1∨k=2∨(k=3∧n=1∧Mo c=true):=by
 unfold kN at h;by_cases h1:c=32
 ·rw[if_pos h1]at h;simp at h
 rw[if_neg h1]at h;by_cases h2:ltr c=true
 ·rw[if_pos h2]at h;by_cases h3:24<zc nmc (c::s)
  ·rw[if_pos h3]at h;simp at h
  ·rw[if_neg h3]at h;simp only[Sc.tok.injEq]at h;exact .inl h.1.symm
 rw[if_neg h2]at h;by_cases h3:kq (c::s)≠0
 ·rw[if_pos h3]at h;by_cases h4:vS ((c::s).take (kq (c::s)))=none
  ·rw[if_pos h4]at h;simp at h
  rw[if_neg h4]at h;by_cases h5:wF (nth 0 (c::s) (kq (c::s)))=true
  ·rw[if_pos h5]at h;simp at h
  rw[if_neg h5]at h;simp only[Sc.tok.injEq]at h;exact .inr (.inl h.1.symm)
 rw[if_neg h3]at h;by_cases h4:Mo c=true
 ·rw[if_pos h4]at h;simp only[Sc.tok.injEq]at h;exact .inr (.inr ⟨h.1.symm,h.2.symm,h4⟩)
 ·rw[if_neg h4]at h;simp at h
theorem H3:∀(m:Nat) {s:List UInt8} {n:Nat} {l:List Tk},s.length≤m→jU n s= .ok l→∀p∈tkW l,F6 p
 |m,[],n,l,_,h=>by rw[wq]at h;simp only[I1]at h;subst h;simp[tkW]
 |0,c::s,n,l,hm,h=>by simp at hm
 |m+1,c::s,n,l,hm,h=>by
  simp only[J7]at hm;rw[ji]at h;by_cases h1:c=35
  ·rw[if_pos h1]at h;simp only[I1]at h;subst h;simp[tkW]
  rw[if_neg h1]at h
  match hx:kN c s with
  | .blank=>rw[hx]at h;exact H3 m (by omega) h
  | .bad e=>rw[hx]at h;simp at h
  | .tok k j=>
   rw[hx]at h;simp only at h
   match hy:jU (n+j) ((c::s).drop j)with
   | .error e=>rw[hy]at h;simp at h
   | .ok l'=>
    rw[hy]at h;simp only[I1]at h;subst h;have hj:=wo hx;have ih:=H3 m (by rw[T1];simp only[J7];omega) hy;intro p hp;simp only[tkW,Pl,Ls]at hp;rcases hp with rfl|hp
    ·rcases Ps hx with h|h|⟨h,h2,h3⟩
     ·exact .inl h
     ·exact .inr (.inl h)
     ·subst h2;exact .inr (.inr ⟨h,c,h3,rfl⟩)
    ·exact ih p hp
theorem H4:∀{ws:List (List UInt8)} {n:Nat} {L:List Li},kD n ws= .ok L→∀x∈L,∀p∈tkW x.toks,F6 p
 |[],n,L,h=>by rw[kD]at h;simp only[I1]at h;subst h;simp
 |w::r,n,L,h=>by
  rw[kD]at h
  match hx:jU 0 w with
  | .error e=>rw[hx]at h;simp at h
  | .ok []=>rw[hx]at h;exact H4 h
  | .ok (t::l)=>
   rw[hx]at h;simp only at h
   match hy:kD (n+1) r with
   | .error e=>rw[hy]at h;simp at h
   | .ok m=>
    rw[hy]at h;simp only[I1]at h;subst h;intro x hx2;simp only[Ls]at hx2;rcases hx2 with rfl|hx2
    ·exact H3 _ (ay _) hx
    ·exact H4 hy x hx2
def shp (p:Wd):List UInt8:=if p.1=1 then [110]else if p.1=2 then [100]else if p.1=3∧p.2.length=1 then p.2 else [63]
def zl (l:List Wd):List UInt8:=l.flatMap shp
theorem J0 {p:Wd} (h:F6 p):∃c,shp p=[c]∧(c=110↔p.1=1)∧(c=100↔p.1=2):=by
 unfold shp;rcases h with h|h|⟨h,c,hc,ht⟩
 ·rw[h,if_pos rfl];exact⟨110,rfl,by decide,by decide⟩
 ·rw[h,if_neg (by decide),if_pos rfl];exact⟨100,rfl,by decide,by decide⟩
 ·rw[h,if_neg (by decide),if_neg (by decide),ht,if_pos ⟨rfl,rfl⟩];refine⟨c,rfl,⟨fun e=>?_,fun e=>absurd e (by decide)⟩,⟨fun e=>?_,fun e=>absurd e (by decide)⟩⟩
  ·subst e;exact absurd hc (by decide)
  ·subst e;exact absurd hc (by decide)
theorem YR:∀{l:List Wd},(∀p∈l,F6 p)→(zl l).length=l.length
 |[],_=>rfl
 |p::r,h=>by
  obtain⟨c,hc,_⟩:=J0 (h p (by simp));have ih:=YR (l:=r) fun q hq=>h q (by simp[hq])
  show(shp p++zl r).length=_;rw[hc,Lm,ih];simp only[J7,Lr];omega
theorem Pt {l:List Wd} (h:∀p∈l,F6 p):zl l=[110,110,110,100]↔l.map (·.1)=[1,1,1,2]:=by
 have hl:=YR h;by_cases h4:l.length=4
 ·match l,h4 with
  |[a,b,c,d],_=>
   obtain⟨x,hx,hx1,_⟩:=J0 (h a (by simp));obtain⟨y,hy,hy1,_⟩:=J0 (h b (by simp));obtain⟨z,hz,hz1,_⟩:=J0 (h c (by simp));obtain⟨u,hu,_,hu1⟩:=J0 (h d (by simp));have e:zl [a,b,c,d]=[x,y,z,u]:=by show shp a++(shp b++(shp c++(shp d++[])))=_;rw[hx,hy,hz,hu];rfl
   rw[e];simp only[Pl,aq,au,and_true,hx1,hy1,hz1,hu1]
 ·constructor
  ·intro e;rw[e]at hl;exact absurd hl.symm h4
  ·intro e;have:=congrArg ak e;rw[List.length_map]at this;exact absurd this h4
def Pu (l:List Wd):Option Ly:=
 match l with
 |[a,b,c,d]=>if l.map (·.1)=[1,1,1,2]∧a.2=xB then(match Rx d.2 with
  |none=>none
  |some x=>if 0<wv c.2 then some ⟨b.2,wv c.2,x⟩else none)else none
 |_=>none
theorem YS {w:List UInt8}:0<wv w↔wv w≠0:=by
 unfold wv
 repeat' split
 all_goals decide
theorem UR (l:List Wd):Pu l=y9 l:=by
 by_cases h4:l.length=4
 ·match l,h4 with
  |[(ka,a),(kb,b),(kc,c),(kd,d)],_=>
   unfold Pu;simp only[Pl,aq,au,and_true];by_cases hk:ka=1∧kb=1∧kc=1∧kd=2
   ·obtain⟨rfl,rfl,rfl,rfl⟩:=hk;rw[y9];by_cases ha:a=xB
    ·rw[if_pos ⟨⟨rfl,rfl,rfl,rfl⟩,ha⟩];by_cases hc:wv c≠0
     ·rw[if_pos ⟨ha,hc⟩];simp only[if_pos (YS.2 hc)]
      try (cases Rx d<;>rfl)
     ·rw[if_neg (fun g=>hc g.2)];simp only[if_neg (fun g=>hc (YS.1 g))];split<;>rfl
    ·rw[if_neg (fun g=>ha g.2),if_neg (fun g=>ha g.1)]
   ·rw[if_neg (fun g=>hk g.1)];unfold y9;split
    ·rename_i h;simp only[au,aI,and_true]at h;exact absurd ⟨h.1.1,h.2.1.1,h.2.2.1.1,h.2.2.2.1⟩ hk
    ·rfl
 ·rw[Qp h4];unfold Pu;split
  ·exact absurd rfl h4
  ·rfl
theorem kG:∀{l:List Wd} {q:List Rat},xK l=some q→q.length=l.length
 |[],q,h=>by rw[xK]at h;simp only[aH]at h;subst h;rfl
 |p::r,q,h=>by
  rw[xK]at h
  match hx:Gm p with
  |none=>rw[hx]at h;simp at h
  |some x=>
   rw[hx]at h;simp only at h
   match hy:xK r with
   |none=>rw[hy]at h;simp at h
   |some y=>rw[hy]at h;simp only[aH]at h;subst h;rw[J7,J7,kG hy]
def jr (w:List UInt8) (n:Nat):Nat:=if w=kE∧n=6 then 1 else if w=Xh∧n=8 then 2 else if w=zf∧n=5 then 3 else 0
theorem Pv {w n:List UInt8} {q:List Rat} (h:jr w (q.length+2)=0):XV w n q=none:=by
 unfold jr at h;unfold XV;by_cases h1:w=kE
 ·rw[if_pos h1];split
  ·rename_i a b c d;rw[if_pos ⟨h1,rfl⟩]at h;omega
  ·rfl
 rw[if_neg h1];rw[if_neg (fun g=>h1 g.1)]at h;by_cases h2:w=Xh
 ·rw[if_pos h2];split
  ·rw[if_pos ⟨h2,rfl⟩]at h;omega
  ·rfl
 rw[if_neg h2];rw[if_neg (fun g=>h2 g.1)]at h;by_cases h3:w=zf
 ·rw[if_pos h3];split
  ·rw[if_pos ⟨h3,rfl⟩]at h;omega
  ·rfl
 rw[if_neg h3]
def A1 (l:List Wd):Option En:=
 match l with
 |(k0,w)::(k1,n)::r=>if k0=1∧k1=1 then(if jr w (r.length+2)=0 then none else match xK r with
  |none=>none
  |some q=>XV w n q)else none
 |_=>none
theorem WV (l:List Wd):A1 l=ve l:=by
 match l with
 |[]=>rfl
 |[p]=>rw[WT];rfl
 |(k0,w)::(k1,n)::r=>
  rw[A1];by_cases hk:k0=1∧k1=1
  ·obtain⟨rfl,rfl⟩:=hk;rw[if_pos ⟨rfl,rfl⟩,ve];by_cases h0:jr w (r.length+2)=0
   ·rw[if_pos h0]
    match hq:xK r with
    |none=>rfl
    |some q=>simp only;rw[Pv (by rw[kG hq];exact h0)]
   ·rw[if_neg h0]
    try (cases xK r<;>rfl)
  ·rw[if_neg hk];unfold ve;split
   ·rename_i h;simp only[au,aI]at h;exact absurd ⟨h.1.1,h.2.1.1⟩ hk
   ·rfl
end Eng
end

section
namespace Eng
open Go
def wH {α ε:Type} (out:List α):Except ε (List α)→Except ε (List α)
 | .ok l=> .ok (out++l)
 | .error e=> .error e
theorem vf {α ε:Type} (x:Except ε (List α)):wH [] x=x:=by cases x<;>rfl
theorem J1 {α ε:Type} (a b:List α) (x:Except ε (List α)):wH a (wH b x)=wH (a++b) x:=by
 cases x
 ·rfl
 ·simp[wH]
theorem zg {s:List UInt8} {i:Nat} (h:i<s.length):s.drop i=nth 0 s i::s.drop (i+1):=by
 induction s generalizing i with
 |nil=>simp at h
 |cons c s ih=>
  match i with
  |0=>rfl
  |i+1=>simp only[J7]at h;exact ih (by omega)
theorem WW {s:List UInt8} {i:Nat} (h:i<s.length) (h35:nth 0 s i≠35):jU i (s.drop i)=match kN (nth 0 s i) (s.drop (i+1))with
 | .blank=>jU (i+1) (s.drop (i+1))
 | .bad e=> .error e
 | .tok k m=>wH [⟨k,i,(s.drop i).take m⟩] (jU (i+m) (s.drop (i+m))):=by
 have hd:=zg h;rw[hd,ji,if_neg h35,←hd]
 match kN (nth 0 s i) (s.drop (i+1))with
 | .blank=>rfl
 | .bad e=>rfl
 | .tok k m=>simp only;rw[W1];cases jU (i+m) (s.drop (i+m))<;>rfl
theorem Qq {s:List UInt8} {i:Nat} (h:s.length≤i∨nth 0 s i=35):jU i (s.drop i)= .ok []:=by
 by_cases hi:s.length≤i
 ·rw[ai hi,wq]
 ·rw[zg (by omega),ji,if_pos (by rcases h with h|h<;>first|omega|exact h)]
theorem J2 (n:Nat) (w:List UInt8) (r:List (List UInt8)):kD n (w::r)=match jU 0 w with
 | .error e=> .error (n,e)
 | .ok l=>wH (if l=[]then []else [⟨n,l⟩]) (kD (n+1) r):=by
 rw[kD]
 match jU 0 w with
 | .error e=>rfl
 | .ok []=>exact(vf _).symm
 | .ok (t::l)=>simp only;rw[if_neg (by simp)];cases kD (n+1) r<;>rfl
theorem Qr (s:List UInt8) (a b:Nat):nth 0 (s.drop a) b=nth 0 s (a+b):=by
 induction a generalizing s with
 |zero=>rw[av];rfl
 |succ a ih=>
  match s with
  |[]=>simp[nth]
  |c::s=>rw[show a+1+b=(a+b)+1 by omega];exact ih s
theorem Pw:∀{s:List UInt8} {m:Nat},(∀j,j<m→nth 0 s j≠10)→∀a∈s.take m,a≠10
 |[],m,_=>by simp
 |c::s,0,_=>by simp
 |c::s,m+1,h=>by
  intro a ha;rw[List.take_succ_cons,Ls]at ha;rcases ha with rfl|ha
  ·exact h 0 (by omega)
  ·exact Pw (fun j hj=>h (j+1) (by omega)) a ha
theorem Px {s:List UInt8} {f i:Nat} (hi:i<s.length) (hf:f≤i) (hn:∀j,f≤j→j<i→nth 0 s j≠10) (h10:nth 0 s i=10):qC 10 (s.drop f)=(s.drop f).take (i-f)::qC 10 (s.drop (i+1)):=by
 have e:s.drop f=(s.drop f).take (i-f)++10::s.drop (i+1):=by
  conv=>lhs;rw[←List.take_append_drop (i-f) (s.drop f)]
  rw[W1,show f+(i-f)=i by omega,zg hi,h10]
 have hq:=Pw (s:=s.drop f) (m:=i-f) fun j hj=>by rw[Qr];exact hn _ (by omega) (by omega)
 conv=>lhs;rw[e]
 rw[vG hq]
theorem Py {s:List UInt8} {f:Nat} (hf:f≤s.length) (hn:∀j,f≤j→j<s.length→nth 0 s j≠10):qC 10 (s.drop f)=[(s.drop f).take (s.length-f)]:=by
 have hq:=Pw (s:=s.drop f) (m:=s.length-f) fun j hj=>by rw[Qr];exact hn _ (by omega) (by omega)
 have e:(s.drop f).take (s.length-f)=s.drop f:=List.take_of_length_le (by rw[T1];omega);rw[e]at hq ⊢;exact Xf hq
end Eng
end

section
namespace Eng
open Go
theorem kj {s:List UInt8} {i:Nat} (h:s.length≤i):nth 0 s i=0:=by
 induction s generalizing i with
 |nil=>rfl
 |cons c s ih=>
  match i with
  |0=>simp at h
  |i+1=>simp only[J7]at h;exact ih (by omega)
theorem vg {p:UInt8→Bool} {s:List UInt8} {i:Nat} (h:i<s.length) (hp:p (nth 0 s i)=true):zc p (s.drop i)=zc p (s.drop (i+1))+1:=by
 rw[zg h,zc,hp]
theorem zm {p:UInt8→Bool} {s:List UInt8} {i:Nat} (h:s.length≤i∨p (nth 0 s i)=false):zc p (s.drop i)=0:=by
 by_cases hi:s.length≤i
 ·rw[ai hi];rfl
 ·rw[zg (by omega),zc];rcases h with h|h
  ·omega
  ·rw[h]
theorem Pz {p:UInt8→Bool} (h0:p 0=false) (s:List UInt8) (i:Nat):zc p (s.drop i)≠0↔p (nth 0 s i)=true:=by
 by_cases hi:s.length≤i
 ·rw[zm (.inl hi),kj hi,h0];simp
 ·cases hp:p (nth 0 s i)with
  |false=>rw[zm (.inr hp)];simp
  |true=>rw[vg (by omega) hp];simp
theorem US {p:UInt8→Bool}:∀{s:List UInt8},zc p s=s.length↔s.all p=true
 |[]=>by simp[zc]
 |c::s=>by
  have ih:=US (p:=p) (s:=s);rw[zc,M1,J7];cases hp:p c with
  |false=>simp
  |true=>simp[ih]
theorem kH {p:UInt8→Bool} {s:List UInt8} {i:Nat}:i≤s.length→i+zc p (s.drop i)≤s.length:=fun h=>by
 have:=Pc p (s.drop i);rw[T1]at this;omega
def Ex (s:List UInt8) (a:Nat):Nat:=
 let g:=if nth 0 s a=45 then a+1 else a
 let b:=g+zc isD (s.drop g)
 if nth 0 s b=46∧isD (nth 0 s (b+1))=true then b+1+zc isD (s.drop (b+1))else b
def Ba (s:List UInt8) (a:Nat):Bool:=isD (nth 0 s a)||(decide (nth 0 s a=45)&&isD (nth 0 s (a+1)))
theorem WX (s:List UInt8) (a:Nat):kq (s.drop a)≠0↔Ba s a=true:=by
 unfold kq Ba;simp only;have e0:nth 0 (s.drop a) 0=nth 0 s a:=by rw[Qr,aw]
 rw[e0];by_cases h:nth 0 s a=45
 ·rw[if_pos h,W1];have hl:=Pz (p:=isD) rfl s (a+1);have h45:isD (nth 0 s a)=false:=by rw[h];rfl
  rw[h45,decide_eq_true h];simp only[Gv,Bx];rw[←hl];by_cases hd:zc isD (s.drop (a+1))=0
  ·rw[if_pos hd,hd]
  ·rw[if_neg hd];split<;>omega
 ·rw[if_neg h,af];have hl:=Pz (p:=isD) rfl s a;rw[decide_eq_false h];simp only[Bool.false_and,Bool.or_false];rw[←hl];by_cases hd:zc isD (s.drop a)=0
  ·rw[if_pos hd,hd]
  ·rw[if_neg hd];split<;>omega
theorem P0 {s:List UInt8} {a:Nat} (h:Ba s a=true):Ex s a=a+kq (s.drop a):=by
 have hn:=(WX s a).2 h;unfold kq at hn ⊢;unfold Ex;simp only[Qr,W1,aw]at hn ⊢;by_cases h45:nth 0 s a=45
 ·simp only[if_pos h45]at hn ⊢;by_cases hd:zc isD (s.drop (a+1))=0
  ·rw[if_pos hd]at hn;exact absurd rfl hn
  ·rw[if_neg hd];have e1:a+1+zc isD (s.drop (a+1))=a+(1+zc isD (s.drop (a+1))):=by omega
   rw[e1];generalize 1+zc isD (s.drop (a+1))=n;have e2:a+n+1=a+(n+1):=by omega
   rw[e2];split<;>omega
 ·simp only[if_neg h45,aw]at hn ⊢;by_cases hd:zc isD (s.drop a)=0
  ·rw[if_pos hd]at hn;exact absurd rfl hn
  ·rw[if_neg hd,av];generalize zc isD (s.drop a)=n;have e2:a+n+1=a+(n+1):=by omega
   rw[e2];split<;>omega
theorem KT (w:List UInt8):kh w=(!w.isEmpty&&(decide (w.length≤24)&&(ltr (nth 0 w 0)&&decide (zc nmc w=w.length)))):=by
 unfold kh
 match w with
 |[]=>rfl
 |c::t=>
  have e:nth 0 (c::t) 0=c:=rfl;rw[e];have ha:decide (zc nmc (c::t)=(c::t).length)=(c::t).all nmc:=by rw[Hv];simp only[decide_eq_true_eq];exact US
  rw[ha];simp only[List.isEmpty_cons,F2,Bx];cases(c::t).all nmc<;>cases ltr c<;>rfl
end Eng
end

section
namespace Eng
open Go
theorem kI {w:List UInt8} (h:kh w=true):w.length≤24:=by
 unfold kh at h;simp only[Aw,decide_eq_true_eq]at h;exact h.1
end Eng
end

section
namespace Eng
open Go
def xh:List UInt8→List UInt8
 |[]=>[]
 |c::s=>if c=48 then xh s else c::s
theorem J5:∀{l:List UInt8},l.all isD=true→xh l=if xw l=0 then []else I2 (xw l)
 |[],_=>rfl
 |c::s,h=>by
  have h':=h;simp only[M1,Aw]at h;have ih:=J5 h.2;rw[xh];by_cases hc:c=48
  ·have hz:=(H2 h.1).2 hc;have e:xw (c::s)=xw s:=by rw[xw,hz,a8,av]
   rw[if_pos hc,ih,e]
  ·have hp:0<10^s.length:=ax (by omega);have h0:0<dv c:=a6 fun e=>hc ((H2 h.1).1 e)
   have hn:xw (c::s)≠0:=by rw[xw];have:=aB h0 hp;omega
   rw[if_neg hc,if_neg hn];exact y8 h' fun e=>absurd e hc
def C8 (s:List UInt8):Option (List UInt8×Nat):=
 let b:=(qA s).1
 let w:=(qB 46 b).1
 let p:=(qB 46 b).2
 if ¬(w≠[]∧w.all isD=true)∨(1<w.length∧nth 0 w 0=48)∨(p.isSome=true∧(¬(p.getD []≠[]∧(p.getD []).all isD=true)∨30<(p.getD []).length))then none
 else if xh (w++p.getD [])=[]then(if(qA s).2=true then none else some ([48],(p.getD []).length))
 else some (if(qA s).2=true then 45::xh (w++p.getD [])else xh (w++p.getD []),(p.getD []).length)
theorem P4 (s:List UInt8):C8 s=match vS s with
 |none=>none
 |some (m,k)=>some (z8 m,k):=by
 unfold C8 vS;simp only;generalize qA s=g;obtain⟨b,a0⟩:=g;simp only;generalize qB 46 b=q;obtain⟨w,p⟩:=q;simp only;have hb:(jq w&&kC p)=true↔¬(¬(w≠[]∧w.all isD=true)∨(1<w.length∧nth 0 w 0=48)∨(p.isSome=true∧(¬(p.getD []≠[]∧(p.getD []).all isD=true)∨30<(p.getD []).length))):=by
  unfold jq kC;rw[Aw];simp only[Aw,Dd,Hu,decide_eq_true_eq,not_or,I0];have e1:w.isEmpty=false↔w≠[]:=by cases w<;>simp
  have e2:(w.length≤1∨nth 0 w 0≠48)↔¬(1<w.length∧nth 0 w 0=48):=by rw[Classical.not_and_iff_not_or_not,aD]
  rw[e1,e2];cases p with
  |none=>simp;exact⟨fun h=>⟨⟨h.1,h.2.1⟩,h.2.2⟩,fun h=>⟨h.1.1,h.1.2,h.2⟩⟩
  |some t=>
   have e3:t.isEmpty=false↔t≠[]:=by cases t<;>simp
   simp only[aE,aF,true_and,not_or,I0,aD,Aw,Hu,decide_eq_true_eq,e3];constructor
   ·rintro⟨⟨a,b,c⟩,d,e,f⟩;exact⟨⟨a,b⟩,c,⟨d,e⟩,f⟩
   ·rintro⟨⟨a,b⟩,c,⟨d,e⟩,f⟩;exact⟨⟨a,b,c⟩,d,e,f⟩
 by_cases h:(jq w&&kC p)=true
 ·rw[if_neg (hb.1 h)];have hd:(w++p.getD []).all isD=true:=by
   have h:=hb.1 h;simp only[not_or,I0]at h;rw[W0,h.1.2];cases p with
   |none=>rfl
   |some t=>simp only[aE,aF,true_and,not_or,I0]at h;rw[aE,h.2.2.1.2];rfl
  rw[J5 hd];rw[←Hx,h,Bx];generalize xw (w++p.getD [])=m;by_cases hm:m=0
  ·subst hm;rw[if_pos rfl,if_pos rfl];cases a0
   ·rw[if_neg (by decide),if_pos (by decide)];simp only;have:z8 (if false=true then-((0:Nat):Int)else((0:Nat):Int))=[48]:=by show z8 0=_;rw[zO (by omega)];exact dec_0
    rw[this]
   ·rw[if_pos rfl,if_neg (by decide)]
  ·rw[if_neg hm,if_neg (kM m)];cases a0
   ·simp only[F0,if_false,F2,Bool.true_or,if_true];rw[zO (by omega),J3]
   ·have hm2:decide (m≠0)=true:=decide_eq_true hm;simp only[hm2,Bool.not_true,Gv,if_true];rw[vm (by omega),J6,J3]
 ·rw[if_pos (Classical.not_not.1 fun g=>h (hb.2 g))];have:(jq w&&(kC p&&(!a0||decide (xw (w++p.getD [])≠0))))=false:=by rw[←Hx];rw[Bool.eq_false_iff.2 h];rfl
  rw[this];rfl
end Eng
end

section
namespace Eng
open Go
theorem KU (c:UInt8):∀(l:List UInt8),xh (l++[c])=if xh l=[]∧c=48 then []else xh l++[c]
 |[]=>by
  by_cases h:c=48
  ·simp[xh,h]
  ·simp[xh,h]
 |a::l=>by
  rw[J9,xh,xh];by_cases h:a=48
  ·rw[if_pos h,if_pos h];exact KU c l
  ·rw[if_neg h,if_neg h,if_neg (by simp)];rfl
theorem H5 {s:List UInt8} {i:Nat} (h:i<s.length):xh ((s.take (i+1)).filter isD)=if isD (nth 0 s i)=true∧(xh ((s.take i).filter isD)≠[]∨nth 0 s i≠48)then xh ((s.take i).filter isD)++[nth 0 s i]else xh ((s.take i).filter isD):=by
 have e:s.take (i+1)=s.take i++[nth 0 s i]:=by have hd:=zg h;have h1:s.take (i+1)=s.take i++(s.drop i).take 1:=List.take_add;rw[h1,hd];rfl
 rw[e,List.filter_append];by_cases hc:isD (nth 0 s i)=true
 ·rw[U0 hc,ao,KU];by_cases h2:xh ((s.take i).filter isD)=[]∧nth 0 s i=48
  ·rw[if_pos h2,if_neg (fun g=>by
    rcases g.2 with g|g
    ·exact g h2.1
    ·exact g h2.2)]
   exact h2.1.symm
  ·have h5:xh ((s.take i).filter isD)≠[]∨nth 0 s i≠48:=by
    by_cases h3:xh ((s.take i).filter isD)=[]
    ·exact .inr fun h4=>h2 ⟨h3,h4⟩
    ·exact .inl h3
   rw[if_neg h2,if_pos ⟨hc,h5⟩]
 ·rw[U3 hc,ao,No,if_neg (fun g=>hc g.1)]
def IR (s:List UInt8):List UInt8:=
 let d:=xh (s.filter isD)
 let d:=if d=[]then [48]else d
 if nth 0 s 0=45 then 45::d else d
theorem KV:∀(s:List UInt8),s.filter isD=(qB 46 s).1.filter isD++((qB 46 s).2.getD []).filter isD
 |[]=>rfl
 |a::s=>by
  have ih:=KV s;rw[qB];by_cases h:a=46
  ·subst h;rw[if_pos rfl];rfl
  ·rw[if_neg h];simp only;by_cases hd:isD a=true
   ·rw[U0 hd,U0 hd,ih];rfl
   ·rw[U3 hd,U3 hd,ih]
theorem KW {l:List UInt8} (h:l.all isD=true):l.filter isD=l:=List.filter_eq_self.2 fun a ha=>P1.1 h a ha
theorem Ey {s:List UInt8} {m:Int} {k:Nat} (h:vS s=some (m,k)):IR s=z8 m:=by
 unfold vS at h;simp only at h;split at h
 ·rename_i hc;simp only[Aw]at hc;obtain⟨h1,h2,h3⟩:=hc;simp only[aH,aI]at h;obtain⟨rfl,_⟩:=h;have hw:((qB 46 (qA s).1).1).all isD=true:=by unfold jq at h1;simp only[Aw]at h1;exact h1.2.1
  have hp:(((qB 46 (qA s).1).2).getD []).all isD=true:=by
   cases hq:(qB 46 (qA s).1).2 with
   |none=>simp
   |some p=>rw[hq]at h2;unfold kC at h2;simp only[Aw,decide_eq_true_eq]at h2;exact h2.2.1
  have hf:s.filter isD=(qB 46 (qA s).1).1++((qB 46 (qA s).1).2).getD []:=by
   have e:s.filter isD=(qA s).1.filter isD:=by
    match s with
    |[]=>rfl
    |c::t=>
     rw[xj];by_cases hc:c=45
     ·subst hc;rw[if_pos rfl];rfl
     ·rw[if_neg hc]
   rw[e,KV,KW hw,KW hp]
  have hn:(nth 0 s 0=45)↔(qA s).2=true:=by
   match s with
   |[]=>simp[nth,qA]
   |c::t=>
    rw[xj];have e:nth 0 (c::t) 0=c:=rfl;rw[e];by_cases hc:c=45
    ·rw[if_pos hc];simp[hc]
    ·rw[if_neg hc];simp[hc]
  have hd:((qB 46 (qA s).1).1++((qB 46 (qA s).1).2).getD []).all isD=true:=by rw[W0,hw,hp];rfl
  unfold IR;simp only;rw[hf,J5 hd];simp only[hn];generalize xw ((qB 46 (qA s).1).1++((qB 46 (qA s).1).2).getD [])=u at *;generalize (qA s).2=neg at *;by_cases hm:u=0
  ·subst hm;cases neg
   ·simp only[if_true,F0,if_false];show [48]=z8 0;rw[zO (by omega)];exact dec_0.symm
   ·simp at h3
  ·rw[if_neg hm,if_neg (kM u)];cases neg
   ·simp only[F0,if_false];rw[zO (by omega),J3]
   ·simp only[if_true];rw[vm (by omega),J6,J3]
 ·simp at h
end Eng
end

section
namespace Eng
open Go
structure EnO where
 kind:Int
 layer:List UInt8
 pts:List (Option Rat×Option Rat)
 rad:Option Rat
def xU:Option Rat→Bool
 |none=>false
 |some a=>vd a
def A3:Option Rat→Bool
 |none=>false
 |some a=>decide (0<a)
def vT (e:EnO):Bool:=decide (1≤e.kind∧e.kind≤3)&&(decide (e.pts.length=wt e.kind)&&(e.pts.all (fun p=>xU p.1&&xU p.2)&&(decide (e.kind≠3)||(xU e.rad&&A3 e.rad))))
def jO (e:EnO):En:=⟨e.kind,e.layer,e.pts.map fun p=>⟨p.1.getD 0,p.2.getD 0⟩,if e.kind=3 then e.rad.getD 0 else 0⟩
theorem jP {a:Option Rat} (h:xU a=true):a=some (a.getD 0)∧vd (a.getD 0)=true:=by
 match a,h with
 |some q,h=>exact⟨rfl,h⟩
def xD (ls:List Ly) (e:EnO):Nat:=if e.layer∈ls.map (·.name)then(if vT e=true then 0 else 1)else 4
def z7 (ls:List Ly):List EnO→Nat
 |[]=>0
 |e::r=>match xD ls e with
  |0=>z7 ls r
  |x=>x
def wx (ls:List Ly) (es:List EnO):Nat:=
 if 20<ls.length∨200<es.length then 3 else match xR [] ls with
  |0=>z7 ls es
  |e=>e
end Eng
end
