/- Chapter 22's reference: its numbers and lengths. -/
import Derived.Test.YtbehlcfelmbmlaaGreatDoorTxA
import Derived.Test.YtbehlcfelmbmlaaGreatDoorCdA
import Derived.Test.YtbehlcfelmbmlaaGreatDoorLexA
open Bool renaming eq_iff_iff→Aa, and_eq_true→Ab
open Go.IntKind renaming wrap→Ac
open Go.Lib renaming nDigits→Ad, decDigits→Ae
open Int renaming natAbs_natCast→Af, toNat_natCast→Ah, natAbs_mul→Ai, natAbs_ediv_le_natAbs→Aj, ofNat_eq_natCast→Ak, toNat→Al
open List renaming length_append→Am, length_take→An, length_drop→Ao, length_cons→Ap, append_assoc→Aq
open List.cons renaming injEq→Ar
open Nat renaming le_trans→As, pow_le_pow_right→At, lt_of_le_of_lt→Au, lt_trans→Av, lt_of_lt_of_le→Aw, gcd→Ax
open Rat renaming divInt→Ay, num_divInt_den→Az, mul_le_mul_of_nonneg_right→A0, intCast_le_intCast→A1, intCast_natCast→A2, intCast_mul→A3, mul_assoc→A4, div_def→A5
open UInt8 renaming ofNat→A6, toNat_ofNat'→A7
section
namespace Eng
open Go Go.Proofs
set_option maxRecDepth 1000000
theorem XH {x y:Int} (hx:Sm x) (hy:Sm y):qe CC 67 [qH x,qH y] [.c (.bool (decide (x=y)))]:=by
 refine qf (anns:=an0) mixedT Tryz.func67 ?_;rw[qZ,qZ,MX];have hc:=jj (x:=x.natAbs) (y:=y.natAbs) (As hx.len (by omega)) (As hy.len (by omega));refine brb (fun h=>⟨_,hc,?_⟩) (fun h=>?_)
 ·rw[beq_iff_eq,decide_eq_decide]at h;have:(vg x.natAbs y.natAbs==0)=decide (x=y):=by
   rw[Aa,beq_iff_eq,decide_eq_true_eq];unfold vg;split
   ·omega
   ·split<;>omega
  rw[this]
 ·have:decide (x=y)=false:=by
   refine decide_eq_false fun e=>?_
   subst e;simp at h
  rw[this]
theorem ZP {p q:Bool} {l m:List Nat} (hl:l.length≤400) (hm:m.length≤400):qe CC 108 [.ag [.bool p,.sl (raw l),.bool q,.sl (raw m)]] [.c (.bool (okQ p l q m))]:=by
 refine qf (anns:=an0) mixedT Tryz.func108 ?_;rw[G9];refine⟨_,ZL (by omega),?_⟩;cases h1:okZ p (raw l)with
 |false=>refine brb (fun _=>?_) (fun h=>by simp at h);unfold okQ;rw[h1];rfl
 |true=>
  refine brb (fun h=>by simp at h) (fun _=>⟨_,ZL (by omega),?_⟩);cases h2:okZ q (raw m)with
  |false=>refine brb (fun _=>?_) (fun h=>by simp at h);unfold okQ;rw[h1,h2];rfl
  |true=>
   refine brb (fun h=>by simp at h) (fun _=>?_);have s1:=(XE h1 hl).sm;have s2:=(XE h2 hm).sm;have hs:=vd (jA q (raw m));have hg:=W5 zz s1 s2;have hu:=Z7;have a0:Sm ((Ax (jA p (raw l)).natAbs (jA q (raw m)).natAbs:Nat):Int):=by
    rw[smN];rcases Nat.eq_zero_or_pos (jA p (raw l)).natAbs with h|h
    ·rw[h,Nat.gcd_zero_left];exact s2
    ·exact Au (Nat.gcd_le_left _ h) s1
   have hc:=XH a0 VQ;have ho:okQ p l q m=(decide (0<jA q (raw m))&&(Ax (jA p (raw l)).natAbs (jA q (raw m)).natAbs==1)):=by unfold okQ;rw[h1,h2];simp
   rw[XD h2]at hs;rw[XD h1,XD h2]at hg;rw[ho];clear ho;generalize Ax (jA p (raw l)).natAbs (jA q (raw m)).natAbs=g at hg a0 hc ⊢;generalize jA q (raw m)=z at hs ⊢;rw[qZ]at hg hu;rw[qZ,qZ]at hc;refine⟨_,hs,brb (fun h=>?_) (fun h=>⟨_,_,hg,_,_,hu,_,hc,?_⟩)⟩
   ·rw[decide_eq_false (by have:=mt Kl.2 (by simpa using h);omega)];rfl
   ·have e:decide (0<z)=true:=decide_eq_true (Kl.1 (by simpa using h));rw[e,Bool.true_and];have:decide ((g:Int)=1)=(g==1):=by rw[Aa,decide_eq_true_eq,beq_iff_eq];omega
    rw[this]
def Rw.val (x:Rw):Rat:=Ay (jA x.p (raw x.l)) (jA x.q (raw x.m))
theorem Rw.val_ok {x:Rw} (h:x.ok=true) (hf:x.few):x.cs=cR x.val∧Sz 54 x.val:=by
 obtain⟨p,l,q,m⟩:=x;simp only[Rw.ok,okQ,Ab,decide_eq_true_eq,beq_iff_eq]at h;obtain⟨h1,h2,h3,h4⟩:=h;have b1:=ZM h1 hf.1;have b2:=ZM h2 hf.2;have hs:Sz 54 (Ay (jA p (raw l)) (jA q (raw m))):=Sz.divInt h3 (by omega) (by omega);refine⟨?_,hs⟩;have e:=zx (n:=jA p (raw l)) h3;rw[h4]at e;have e2:∀z:Int,z/((1:Nat):Int)=z:=fun z=>by simp
 rw[e2,e2,yb h1,yb h2]at e;unfold qC at e;have e3:=A.ag.inj e;show _=cR (Ay (jA p (raw l)) (jA q (raw m)));rw[e3];rfl
theorem Rw.val_cs {x:Rw} (h:x.ok=true):x.cs=cR x.val:=by
 obtain⟨p,l,q,m⟩:=x;simp only[Rw.ok,okQ,Ab,decide_eq_true_eq,beq_iff_eq]at h;obtain⟨h1,h2,h3,h4⟩:=h;have e:=zx (n:=jA p (raw l)) h3;rw[h4]at e;have e2:∀z:Int,z/((1:Nat):Int)=z:=fun z=>by simp
 rw[e2,e2,yb h1,yb h2]at e;unfold qC at e;have e3:=A.ag.inj e;show _=cR (Ay (jA p (raw l)) (jA q (raw m)));rw[e3];rfl
theorem Rw.val_sr {x:Rw} (h:x.ok=true) (hl:x.l.length≤400) (hm:x.m.length≤400):Sr x.val:=by
 obtain⟨p,l,q,m⟩:=x;simp only[Rw.ok,okQ,Ab,decide_eq_true_eq,beq_iff_eq]at h;obtain⟨h1,h2,h3,h4⟩:=h;have b1:=XE h1 hl;have b2:=XE h2 hm;obtain⟨e1,e2⟩:=k5 (n:=jA p (raw l)) h3;unfold Rw.val;constructor
 ·unfold Sq;rw[e1];exact Au (Aj _ _) b1
 ·unfold Sq;rw[e2];exact Au (Aj _ _) b2
def Rw.rd (x:Rw):Prop:=x.l.length≤400∧x.m.length≤400∧(x.ok=true→x.few∨x.val.den≤10^40)
theorem Rw.few_rd {x:Rw} (h:x.few):x.rd:=⟨As h.1 (by omega),As h.2 (by omega),fun _=> .inl h⟩
theorem XI {x y:Rat}:Kf x y>0↔y<x:=by
 unfold Kf;split
 ·rename_i h;have:¬y<x:=fun h2=>by grind
  simp_all
 ·split<;>simp_all
theorem Rx {n:Int} (h1: -9223372036854775808≤n) (h2:n<9223372036854775808):Sm n:=by
 have:n.natAbs<10^40:=by omega
 exact Av this (by unfold X1;decide)
theorem Ry {z:Int} (h:z.natAbs<10^40):Sq z:=Av h (by unfold kN;decide)
theorem T7 {m d:Int} (h1: -9223372036854775808≤m) (h2:m<9223372036854775808) (h3: -9223372036854775808≤d) (h4:d<9223372036854775808) (hd:d≠0):qe CC 76 [.c (.int .i64 m),.c (.int .i64 d)] [qC (Ay m d)]:=by
 refine qf (anns:=an0) mixedT Tryz.func76 ?_;rw[MY];refine brb (fun h=>absurd (by simpa using h) hd) (fun _=>?_);have:=VX zz (Rx h1 h2) (Rx h3 h4) hd;rw[qg]at this ⊢;exact⟨_,_,xn h1 h2,_,_,xn h3 h4,_,_,_,_,this,rfl⟩
theorem WI (m:Nat):((m:Nat):Rat).num=(m:Int):=by simp
theorem WJ (m:Nat):((m:Nat):Rat).den=1:=by simp
theorem Nn {m:Nat} (h:m<10^40):Sr ((m:Nat):Rat):=by
 refine⟨?_,?_⟩
 ·rw[WI];exact Ry (by omega)
 ·rw[WJ];exact Ry (by decide)
theorem GK {k:Nat} (hk:k≤30):qe CC 143 [.c (.int .i64 (k:Int))] [qC ((10^k:Nat):Rat)]:=by
 refine qf (anns:=fun _=>⟨[.slot 4 (.int .i64 0),.box 3 [.bool false,.slice none 0 0,.bool false,.slice none 0 0]],[],fun _ ds=>∃j:Nat,j≤k∧ds= .int .i64 (j:Int)::cR ((10^j:Nat):Rat),fun ds=>(k-toI (nth .undef ds 0)).toNat⟩) mixedT Tryz.func143 ?_;rw[Th];have h1:=xM (n:=1) (by omega) (by omega);have a0:=xM (n:=10) (by omega) (by omega);rw[qg]at h1 a0;refine⟨_,_,_,_,h1,⟨0,by omega,rfl⟩,?_⟩;rintro n b es b2 es2 ⟨j,hj,he⟩;simp only[Ar,D.int.injEq,true_and]at he;obtain⟨rfl,he⟩:=he;refine brd (fun h=>?_) (fun h=>?_)
 ·have hw:Ac .i64 ((j:Int)+1)=((j+1:Nat):Int):=by rw[xL (by omega) (by omega)];omega
  have hp:10^j<10^31:=Nat.pow_lt_pow_right (by omega) (by omega);have hm:=zL zz (Nn (m:=10^j) (Av hp (by decide))) (Nn (m:=10) (by decide));have e:((10^j:Nat):Rat)*((10:Nat):Rat)=((10^(j+1):Nat):Rat):=by rw[Nat.pow_succ,Rat.natCast_mul]
  rw[e,qC,←he]at hm;rw[hw];rw[qg ((10^(j+1):Nat):Rat)]at hm;refine⟨_,_,_,_,a0,_,_,_,_,hm,⟨j+1,by omega,rfl⟩,by simp only[nth,toI];omega⟩
 ·have:j=k:=by omega
  subst this;rw[he];rfl
theorem vj {v:Nat} (h:v<10):(A6 (48+v)).toNat=48+v:=by
 simp[A7];omega
theorem Rz (a:UInt8) (n:Nat) (hn:n<256):((a.toNat:Int)==(n:Int))=decide (a=A6 n):=by
 rw[Aa];simp only[beq_iff_eq,decide_eq_true_eq];constructor
 ·intro h;have:a.toNat=n:=by omega
  rw[←this];simp
 ·rintro rfl;simp[A7];omega
theorem T8 (u:Nat):nth 0 (Ae u) 0≠45:=by
 have hp:=jk u;obtain⟨n,hn⟩:∃n,Ad u=n+1:=⟨Ad u-1,by omega⟩;rw[xS,hn,jB];show A6 (48+u/10^n%10)≠45;have h10:u/10^n%10<10:=Nat.mod_lt _ (by omega);intro e;have:=congrArg UInt8.toNat e;rw[vj h10]at this;have h45:(45:UInt8).toNat=45:=rfl;omega
theorem GL {z:Int} {k:Nat} (hz:z.natAbs<10^90) (hk:k≤30):qe CC 144 [qH z,.c (.int .i64 (k:Int))] [.c (.str (sgT z++yc z.natAbs k))]:=by
 generalize hU:z.natAbs=U at *;have hL0:Ad U≤90:=(xt 89 U).2 hz;have hLp:=jk U;have a5:U<10^Ad U:=by obtain⟨n,hn⟩:∃n,Ad U=n+1:=⟨Ad U-1,by omega⟩;rw[hn];exact(xt n U).1 (by omega)
 refine qf (anns:=fun _=>⟨[.slot 5 (.string ⟨#[]⟩)],[],fun _ ds=>∃j:Nat,Ad U≤j∧j≤max (Ad U) (k+1)∧ds=[.str (xW j U)],fun ds=>200-(toS (nth .undef ds 0)).length⟩) mixedT Tryz.func144 ?_;have hF:=PR z (by
  have:(lim z.natAbs).length≤10:=qo (by rw[hU];exact Aw hz (by decide));omega)
 rw[qZ]at hF ⊢;rw[Ti];simp only[Ak];have hmax:max (Ad U) (k+1)≤90:=by omega
 have a4:∀j,Ad U≤j→j≤max (Ad U) (k+1)→¬(j≤k)→j=max (Ad U) (k+1):=fun j a b c=>by omega
 have a6:∀j,Ad U≤j→48::xW j U=xW (j+1) U:=fun j hj=>by have:=Nd j 1 U (Aw a5 (At (by omega) hj));rw[Nat.add_comm 1 j]at this;rw[this];rfl
 have a2:k=0→xW (max (Ad U) (k+1)) U=yc U k:=by rintro rfl;rw[show max (Ad U) (0+1)=Ad U by omega,←xS];rfl
 have a3:k≠0→(xW (max (Ad U) (k+1)) U).take (max (Ad U) (k+1)-k)++46::(xW (max (Ad U) (k+1)) U).drop (max (Ad U) (k+1)-k)=yc U k:=fun h0=>by
  rw[Tt (u:=U) (k:=k) (L:=max (Ad U) (k+1)) rfl];cases k with
  |zero=>omega
  |succ k=>rfl
 have a1:∀(a0:List UInt8),a0.length≤1→sgT z=a0→∀(s:List UInt8),(∃j:Nat,Ad U≤j∧j≤max (Ad U) (k+1)∧[D.str s]=[.str (xW j U)])→
  br (toB (D.bool (decide ((s.length:Int)≤(k:Int)))))
   (room (1+s.length)∧(∃j:Nat,Ad U≤j∧j≤max (Ad U) (k+1)∧[D.str (48::s)]=[.str (xW j U)])∧200-(toS (nth .undef [D.str (48::s)] 0)).length<200-(toS (nth .undef [D.str s] 0)).length)
   (br (toB (D.bool ((k:Int)==0))) (room (a0.length+s.length)∧[A.c (D.str (a0++s))]=[A.c (D.str (sgT z++yc U k))])
    ((0≤(0:Int)∧0≤Ac .i64 ((s.length:Int)-k)∧Ac .i64 ((s.length:Int)-k)≤s.length)∧
      room (a0.length+((s.take (Ac .i64 ((s.length:Int)-k)).toNat).drop 0).length)∧
      room ((a0++((s.take (Ac .i64 ((s.length:Int)-k)).toNat).drop 0)).length+1)∧
      (0≤Ac .i64 ((s.length:Int)-k)∧Ac .i64 ((s.length:Int)-k)≤s.length∧(s.length:Int)≤s.length)∧
      room ((a0++((s.take (Ac .i64 ((s.length:Int)-k)).toNat).drop 0)++[46]).length+((s.take (Al s.length)).drop (Ac .i64 ((s.length:Int)-k)).toNat).length)∧
      [A.c (D.str (a0++((s.take (Ac .i64 ((s.length:Int)-k)).toNat).drop 0)++[46]++((s.take (Al s.length)).drop (Ac .i64 ((s.length:Int)-k)).toNat)))]=[A.c (D.str (sgT z++yc U k))])):=by
  intro a0 hpre a9 s ⟨j,a7,hj2,he⟩;simp only[Ar,D.str.injEq,and_true]at he;subst he;rw[xy];refine brd (fun h=>?_) (fun h=>?_)
  ·have hjk:j≤k:=by omega
   refine⟨by unfold room;omega,⟨j+1,by omega,by omega,by rw[a6 j a7]⟩,by simp only[nth,toS,Ap,xy];omega⟩
  ·have a8:=a4 j a7 hj2 (by omega);have hw:Ac .i64 ((j:Int)-k)=((j-k:Nat):Int):=by rw[xL (by omega) (by omega)];omega
   rw[hw,Ah,Ah];have e0:((k:Int)==0)=decide (k=0):=by rw[Aa];simp
   rw[e0];refine brd (fun h0=>?_) (fun h0=>?_)
   ·refine⟨by unfold room;omega,?_⟩;have:=a2 h0;rw[←a8]at this;rw[this,a9]
   ·have:=a3 h0;rw[←a8]at this;have ht:(xW j U).take j=xW j U:=List.take_of_length_le (by rw[xy];omega);refine⟨⟨by omega,by omega,by omega⟩,?_,?_,⟨by omega,by omega,by omega⟩,?_,?_⟩
    ·unfold room;simp only[Ao,An,xy];omega
    ·unfold room;simp only[Am,Ao,An,xy];omega
    ·unfold room;simp only[Am,Ap,List.length_nil,Ao,An,xy];omega
    ·rw[List.drop_zero,ht,a9,←this,Aq,Aq];rfl
 have hdl:(Ae U).length=Ad U:=Lib.decDigits_length U;by_cases hneg:z<0
 ·have hs:sgT z=[45]:=by unfold sgT;rw[decide_eq_true hneg]
  have hz:ZC z=45::Ae U:=by unfold ZC;rw[hs,hU];rfl
  rw[hz]at hF;refine⟨_,hF,⟨by omega,by simp⟩,brb (fun _=>?_) (fun h=>?_)⟩
  ·refine⟨⟨by omega,by simp;omega,by omega⟩,⟨Ad U,by omega,by omega,?_⟩,fun s hs2=>a1 [45] (by simp) hs s hs2⟩;rw[Ah,List.take_length,←xS];rfl
  ·exact absurd h (by simp[nth])
 ·have hs:sgT z=[]:=by unfold sgT;rw[decide_eq_false hneg]
  have hz:ZC z=Ae U:=by unfold ZC;rw[hs,hU];rfl
  rw[hz]at hF;refine⟨_,hF,⟨by omega,by omega⟩,?_⟩;rw[show(45:Int)=((45:Nat):Int)from rfl,Rz _ _ (by omega)];refine brd (fun h=>absurd h (T8 U)) (fun _=>?_);exact⟨⟨Ad U,by omega,by omega,by rw[←xS]⟩,fun s hs2=>a1 [] (by simp) hs s hs2⟩
theorem GM (b:Rat):b*(b.den:Rat)=(b.num:Rat):=by
 have h:=Az b;rw[Rat.divInt_eq_div]at h;have hd:(b.den:Rat)≠0:=by exact_mod_cast b.den_nz
 conv=>lhs;lhs;rw[←h]
 exact Rat.div_mul_cancel hd
theorem WK:(1000:Rat)⁻¹=Ay 1 1000:=by rw[Rat.inv_def];rfl
theorem Yp {u k:Nat} (hu:u<10^90) (hk:k≤30):(yc u k).length≤121:=by
 cases k with
 |zero=>show(Ae u).length≤121;have:=XA (n:=89) (u:=u) (by omega);omega
 |succ n=>show(Ae (u/10^(n+1))++46::xW (n+1) u).length≤121;have h1:u/10^(n+1)<10^90:=Au (Nat.div_le_self _ _) hu;have:=XA (n:=89) (u:=u/10^(n+1)) (by omega);rw[Am,Ap,xy];omega
theorem Sz.sz_pow {k:Nat} (hk:k≤30):Sz 30 ((10^k:Nat):Rat):=by
 refine⟨?_,?_⟩
 ·rw[WI,Af];exact At (by omega) hk
 ·rw[WJ];exact Nat.pos_of_ne_zero (by decide)
theorem Sz.mul2 {j k:Nat} {x y:Rat} (hx:Sz j x) (hy:Sz k y):Sz (2*(j+k)) (x*y):=(hx.mono (by omega)).mul (hy.mono (by omega))
theorem GN {b:Rat} (hb:Sz 57 b):qe CC 75 [qC b] [.c (.str (Sk b)),.c (.bool (exq b).isSome)]:=by
 refine qf (anns:=fun _=>⟨[.slot 4 (.int .i64 0)],[],fun _ ds=>∃j:Nat,j≤31∧ds=[.int .i64 (j:Int)]∧exF b (31-j) j=exq b,fun ds=>(100-toI (nth .undef ds 0)).toNat⟩) mixedT Tryz.func75 ?_;have hsr:=hb.sr (by omega);rw[qg,Tj];refine⟨⟨0,by omega,rfl,rfl⟩,?_⟩;rintro m ⟨j,hj,he,a1⟩;simp only[Ar,D.int.injEq,true_and,and_true]at he;subst he;refine brd (fun h30=>?_) (fun h=>?_)
 ·have a0:j≤30:=by omega
  have hp:=GK a0;have hsp:=(Sz.sz_pow a0).sr (by omega);have hm:=zL zz hsr hsp;have hmz:=hb.mul2 (Sz.sz_pow a0);have a2:=hmz.sr (by omega);have hs:=XH (x:=(b*((10^j:Nat):Rat)).den) (y:=1) a2.2.sm VQ;have h1:=xn (n:=1) (by omega) (by omega);rw[show 31-j=(30-j)+1 by omega,exF]at a1;have hsh:=fun(hz:(b*((10^j:Nat):Rat)).num.natAbs<10^90)=>GL (z:=(b*((10^j:Nat):Rat)).num) (k:=j) hz a0
  have a4:(b*((10^j:Nat):Rat)).den=1→(b*((10^j:Nat):Rat)).num.natAbs<10^90:=fun hd=>by
   have hq:=PS hd;have e1:((b*((10^j:Nat):Rat)).num:Rat)=b*((10^j:Nat):Rat):=hq
   --the numerator is at most that of b times the power
   have hle:(b*((10^j:Nat):Rat)).num.natAbs≤b.num.natAbs*10^j:=by
    have hb2:b=Ay b.num b.den:=(Az b).symm;have a3:(b*((10^j:Nat):Rat)).num*(b.den:Int)=b.num*((10^j:Nat):Int):=by
     have h2:((b*((10^j:Nat):Rat)).num:Rat)*(b.den:Rat)=(b.num:Rat)*((10^j:Nat):Rat):=by rw[e1,A4,Rat.mul_comm ((10^j:Nat):Rat),←A4,GM]
     exact_mod_cast h2
    have h3:=congrArg Int.natAbs a3;rw[Ai,Ai,Af,Af]at h3;have:=b.den_pos
    calc (b*((10^j:Nat):Rat)).num.natAbs≤(b*((10^j:Nat):Rat)).num.natAbs*b.den:=Nat.le_mul_of_pos_right _ this
     _=_:=h3
   have h4:b.num.natAbs*10^j≤10^57*10^30:=Nat.mul_le_mul hb.1 (At (by omega) a0);omega
  generalize b*((10^j:Nat):Rat)=y at *;rw[qg]at hp;rw[qg,qg ((10^j:Nat):Rat),qg y]at hm;rw[qZ,qZ]at hs;rw[qZ]at h1;refine⟨_,_,_,_,hp,_,_,_,_,hm,_,_,h1,_,hs,jC (fun h2=>?_) (fun h2=>?_)⟩
  ·have hd:y.den=1:=by have:=of_decide_eq_true h2;omega
   rw[if_pos hd]at a1;have hn:=a4 hd;have hS:=hsh hn;rw[qZ]at hS;have ht:Sk b=sgT y.num++yc y.num.natAbs j:=by unfold Sk;rw[←a1]
   have hi:(exq b).isSome=true:=by rw[←a1];rfl
   rw[ht,hi];refine⟨_,hS,brd (fun h=>absurd h ?_) (fun _=>rfl)⟩;have hL0:Ad y.num.natAbs≤90:=(xt 89 _).2 hn;have:=Yp hn a0;have:=PQ y.num;simp only[Ak,Am];omega
  ·have hd:¬y.den=1:=by have:=of_decide_eq_false h2;omega
   rw[if_neg hd]at a1;have hw:Ac .i64 ((j:Int)+1)=((j+1:Nat):Int):=by rw[xL (by omega) (by omega)];omega
   rw[hw];exact⟨⟨j+1,by omega,rfl,by rw[show 31-(j+1)=30-j by omega];exact a1⟩,by simp only[nth,toI];omega⟩
 ·have:j=31:=by omega
  subst this;have a1:none=exq b:=a1;have ht:Sk b=[]:=by unfold Sk;rw[←a1]
  rw[ht,←a1];rfl
theorem T9 {a:Rat} (ha:Sz 54 a):qe CC 77 [qC a] [qC (a/1000)]:=by
 refine qf (anns:=an0) mixedT Tryz.func77 ?_;rw[qg,MZ];have h1:=T7 (m:=1) (d:=1000) (by omega) (by omega) (by omega) (by omega) (by omega);have hs:Sz 3 (Ay 1 1000):=Sz.divInt (by omega) (by decide) (by decide);have h2:=zL zz (ha.sr (by omega)) (hs.sr (by omega));have e:a*Ay 1 1000=a/1000:=by rw[A5,WK]
 rw[e]at h2;rw[qg]at h1;rw[qg,qg (Ay 1 1000),qg (a/1000)]at h2;rw[qg (a/1000)];exact⟨_,_,_,_,h1,_,_,_,_,h2,rfl⟩
theorem Sz.thou {a:Rat} (ha:Sz 54 a):Sz 57 (a/1000):=by
 have e:a/1000=Ay a.num (a.den*1000):=by
  rw[A5,WK]
  conv=>lhs;rw[←Az a]
  rw[Rat.divInt_mul_divInt,Int.mul_one]
 rw[e];have:=a.den_pos;refine Sz.divInt (by omega) (As ha.1 (by decide)) ?_;rw[Ai,Af];have:=ha.2;show a.den*1000≤10^57;omega
def vr (x:Rw):Option Rat:=if x.ok=true then some x.val else none
theorem NY {a:Rat} {K:Int} (h1: -(K:Rat)≤a) (h2:a≤(K:Rat)):a.num.natAbs≤K.natAbs*a.den:=by
 have hd:(0:Rat)≤(a.den:Rat):=Rat.natCast_nonneg;have e:a*(a.den:Rat)=(a.num:Rat):=GM a;have g1:(a.num:Rat)≤(K:Rat)*(a.den:Rat):=by rw[←e];exact A0 h2 hd
 have g2: -(K:Rat)*(a.den:Rat)≤(a.num:Rat):=by rw[←e];exact A0 h1 hd
 have g3:a.num≤K*(a.den:Int):=by apply A1.1;rw[A3,A2];exact g1
 have g4: -K*(a.den:Int)≤a.num:=by apply A1.1;rw[A3,A2,Rat.intCast_neg];exact g2
 have g5:K*(a.den:Int)≤((K.natAbs*a.den:Nat):Int):=by rw[Int.natCast_mul];exact Int.mul_le_mul_of_nonneg_right (by omega) (by omega)
 rw[Int.neg_mul]at g4;omega
theorem R0 {a:Rat} (h1: -10000000≤a) (h2:a≤10000000):a.num.natAbs≤10000000*a.den:=by
 have e:((10000000:Int):Rat)=10000000:=rfl;exact NY (K:=10000000) (by rw[e];exact h1) (by rw[e];exact h2)
theorem Rw.rd_sz {x:Rw} (hr:x.rd) (h:x.ok=true) (h1: -10000000≤x.val) (h2:x.val≤10000000):Sz 54 x.val:=by
 rcases hr.2.2 h with hf|hd
 ·exact(Rw.val_ok h hf).2
 ·have hn:=R0 h1 h2;have l1:10^40≤10^54:=At (by omega) (by omega);have l2:10000000*10^40≤10^54:=by decide
  exact⟨As hn (As (Nat.mul_le_mul_left _ hd) l2),As hd l1⟩
theorem Ko {x:Rw} (hf:x.rd):qe CC 91 [.ag x.cs] [.c (.bool (zP (vr x)))]:=by
 have hu:=ZP (p:=x.p) (q:=x.q) hf.1 hf.2.1;refine qf (anns:=an0) mixedT Tryz.func91 ?_;have ec:(A.ag x.cs)= .ag [.bool x.p,.sl (raw x.l),.bool x.q,.sl (raw x.m)]:=rfl;rw[ec,PP];refine⟨_,hu,?_⟩;have hok:okQ x.p x.l x.q x.m=x.ok:=rfl;rw[hok];unfold vr;cases h:x.ok with
 |false=>refine brb (fun _=>?_) (fun h=>by simp at h);simp[zP]
 |true=>
  refine brb (fun h=>by simp at h) (fun _=>?_);rw[if_pos rfl];have hc:=Rw.val_cs h;have a1:=Rw.val_sr h hf.1 hf.2.1;have hz:=Rw.rd_sz hf h;have hC:A.ag [.bool x.p,.sl (raw x.l),.bool x.q,.sl (raw x.m)]=qC x.val:=by unfold qC;rw[←hc];rfl
  generalize x.val=a at *;have h1:=xM (n:=10000000) (by omega) (by omega);have sM:Sz 8 ((10000000:Int):Rat):=Sz.int (by decide);have a4:=sM.sr (by omega);have a0:=QE a1 a4;have hn:=k7 a1;have a3:=QE a1.neg a4;rw[←hC]at a0 hn;rw[qg]at h1 hn;rw[qg]at a0;rw[qg (-a),qg ((10000000:Int):Rat)]at a3;have a2:zP (some a)=(decide (-10000000≤a∧a≤10000000)&&(exq (a/1000)).isSome):=rfl;rw[a2];refine⟨_,_,_,_,h1,_,a0,brd (fun hgt=>?_) (fun hgt=>⟨_,_,_,_,hn,_,a3,brd (fun hg2=>?_) (fun hg2=>?_)⟩)⟩
  ·have:=XI.1 hgt;rw[decide_eq_false (fun h=>by have h:=h.2;grind)];rfl
  ·have:=XI.1 hg2;rw[decide_eq_false (fun h=>by have h:=h.1;grind)];rfl
  ·have g1:=fun h=>hgt (XI.2 h)
   have g2:=fun h=>hg2 (XI.2 h)
   have b1: -10000000≤a:=by grind
   have b2:a≤10000000:=by grind
   have ht:=T9 (hz b1 b2);have hx:=GN (hz b1 b2).thou;rw[←hC]at ht;rw[qg]at ht hx;refine⟨_,_,_,_,ht,_,_,hx,?_⟩;rw[decide_eq_true (⟨b1,b2⟩: -10000000≤a∧a≤10000000)];rfl
end Eng
end
