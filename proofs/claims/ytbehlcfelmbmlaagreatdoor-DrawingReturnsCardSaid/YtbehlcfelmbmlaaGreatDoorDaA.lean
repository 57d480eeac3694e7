/- Chapter 22's reference: its numbers and lengths. -/
import Derived.Test.YtbehlcfelmbmlaaGreatDoorTxA
import Derived.Test.YtbehlcfelmbmlaaGreatDoorCdA
import Derived.Test.YtbehlcfelmbmlaaGreatDoorLexA
open Bool renaming eq_iff_iff→Aw, and_eq_true→Bx
open Go.IntKind renaming wrap→Dd
open Go.Lib renaming nDigits→F0, decDigits→F2
open Int renaming natAbs_natCast→Gv, toNat_natCast→Hu, natAbs_mul→Hv, natAbs_ediv_le_natAbs→Hx, ofNat_eq_natCast→Hy, toNat→I0
open List renaming length_append→I1, length_take→I2, length_drop→J3, length_cons→J4, append_assoc→J6
open List.cons renaming injEq→J7
open Nat renaming le_trans→J9, pow_le_pow_right→Lm, lt_of_le_of_lt→Lr, lt_trans→Ls, lt_of_lt_of_le→Lv, gcd→M0
open Rat renaming divInt→M1, num_divInt_den→M2, mul_le_mul_of_nonneg_right→No, intCast_le_intCast→Pl, intCast_natCast→P1, intCast_mul→Ts, mul_assoc→T1, div_def→U0
open UInt8 renaming ofNat→U3, toNat_ofNat'→V1
section
namespace Eng
open Go Go.Proofs
set_option maxRecDepth 1000000
theorem XG {x y:Int} (hx:Sm x) (hy:Sm y):qf CC 67 [qJ x,qJ y] [.c (.bool (decide (x=y)))]:=by
 refine qg (anns:=an0) mixedT Tryz.func67 ?_;rw[qm,qm,B6];have hc:=jQ (x:=x.natAbs) (y:=y.natAbs) (J9 hx.len (by omega)) (J9 hy.len (by omega));refine brb (fun h=>⟨_,hc,?_⟩) (fun h=>?_)
 ·rw[beq_iff_eq,decide_eq_decide]at h;have:(Q9 x.natAbs y.natAbs==0)=decide (x=y):=by
   rw[Aw,beq_iff_eq,decide_eq_true_eq];unfold Q9;split
   ·omega
   ·split<;>omega
  rw[this]
 ·have:decide (x=y)=false:=by
   refine decide_eq_false fun e=>?_
   subst e;simp at h
  rw[this]
theorem MQ {p q:Bool} {l m:List Nat} (hl:l.length≤400) (hm:m.length≤400):qf CC 108 [.ag [.bool p,.sl (raw l),.bool q,.sl (raw m)]] [.c (.bool (okQ p l q m))]:=by
 refine qg (anns:=an0) mixedT Tryz.func108 ?_;rw[ML];refine⟨_,V5 (by omega),?_⟩;cases h1:okZ p (raw l)with
 |false=>refine brb (fun _=>?_) (fun h=>by simp at h);unfold okQ;rw[h1];rfl
 |true=>
  refine brb (fun h=>by simp at h) (fun _=>⟨_,V5 (by omega),?_⟩);cases h2:okZ q (raw m)with
  |false=>refine brb (fun _=>?_) (fun h=>by simp at h);unfold okQ;rw[h1,h2];rfl
  |true=>
   refine brb (fun h=>by simp at h) (fun _=>?_);have s1:=(QD h1 hl).sm;have s2:=(QD h2 hm).sm;have hs:=Q0 (jv q (raw m));have hg:=HD zN s1 s2;have hu:=XZ;have a0:Sm ((M0 (jv p (raw l)).natAbs (jv q (raw m)).natAbs:Nat):Int):=by
    rw[smN];rcases Nat.eq_zero_or_pos (jv p (raw l)).natAbs with h|h
    ·rw[h,Nat.gcd_zero_left];exact s2
    ·exact Lr (Nat.gcd_le_left _ h) s1
   have hc:=XG a0 YV;have ho:okQ p l q m=(decide (0<jv q (raw m))&&(M0 (jv p (raw l)).natAbs (jv q (raw m)).natAbs==1)):=by unfold okQ;rw[h1,h2];simp
   rw[vn h2]at hs;rw[vn h1,vn h2]at hg;rw[ho];clear ho;generalize M0 (jv p (raw l)).natAbs (jv q (raw m)).natAbs=g at hg a0 hc ⊢;generalize jv q (raw m)=z at hs ⊢;rw[qm]at hg hu;rw[qm,qm]at hc;refine⟨_,hs,brb (fun h=>?_) (fun h=>⟨_,_,hg,_,_,hu,_,hc,?_⟩)⟩
   ·rw[decide_eq_false (by have:=mt Gw.2 (by simpa using h);omega)];rfl
   ·have e:decide (0<z)=true:=decide_eq_true (Gw.1 (by simpa using h));rw[e,Bool.true_and];have:decide ((g:Int)=1)=(g==1):=by rw[Aw,decide_eq_true_eq,beq_iff_eq];omega
    rw[this]
def Rw.val (x:Rw):Rat:=M1 (jv x.p (raw x.l)) (jv x.q (raw x.m))
theorem Rw.val_ok {x:Rw} (h:x.ok=true) (hf:x.few):x.cs=cR x.val∧Sz 54 x.val:=by
 obtain⟨p,l,q,m⟩:=x;simp only[Rw.ok,okQ,Bx,decide_eq_true_eq,beq_iff_eq]at h;obtain⟨h1,h2,h3,h4⟩:=h;have b1:=V6 h1 hf.1;have b2:=V6 h2 hf.2;have hs:Sz 54 (M1 (jv p (raw l)) (jv q (raw m))):=Sz.divInt h3 (by omega) (by omega);refine⟨?_,hs⟩;have e:=ja (n:=jv p (raw l)) h3;rw[h4]at e;have e2:∀z:Int,z/((1:Nat):Int)=z:=fun z=>by simp
 rw[e2,e2,X9 h1,X9 h2]at e;unfold xk at e;have e3:=A.ag.inj e;show _=cR (M1 (jv p (raw l)) (jv q (raw m)));rw[e3];rfl
theorem Rw.val_cs {x:Rw} (h:x.ok=true):x.cs=cR x.val:=by
 obtain⟨p,l,q,m⟩:=x;simp only[Rw.ok,okQ,Bx,decide_eq_true_eq,beq_iff_eq]at h;obtain⟨h1,h2,h3,h4⟩:=h;have e:=ja (n:=jv p (raw l)) h3;rw[h4]at e;have e2:∀z:Int,z/((1:Nat):Int)=z:=fun z=>by simp
 rw[e2,e2,X9 h1,X9 h2]at e;unfold xk at e;have e3:=A.ag.inj e;show _=cR (M1 (jv p (raw l)) (jv q (raw m)));rw[e3];rfl
theorem Rw.val_sr {x:Rw} (h:x.ok=true) (hl:x.l.length≤400) (hm:x.m.length≤400):Sr x.val:=by
 obtain⟨p,l,q,m⟩:=x;simp only[Rw.ok,okQ,Bx,decide_eq_true_eq,beq_iff_eq]at h;obtain⟨h1,h2,h3,h4⟩:=h;have b1:=QD h1 hl;have b2:=QD h2 hm;obtain⟨e1,e2⟩:=jk (n:=jv p (raw l)) h3;unfold Rw.val;constructor
 ·unfold Sq;rw[e1];exact Lr (Hx _ _) b1
 ·unfold Sq;rw[e2];exact Lr (Hx _ _) b2
def Rw.rd (x:Rw):Prop:=x.l.length≤400∧x.m.length≤400∧(x.ok=true→x.few∨x.val.den≤10^40)
theorem Rw.few_rd {x:Rw} (h:x.few):x.rd:=⟨J9 h.1 (by omega),J9 h.2 (by omega),fun _=> .inl h⟩
theorem MR {x y:Rat}:Bl x y<0↔x<y:=by
 unfold Bl;split
 ·simp_all
 ·split<;>simp_all
theorem QG {x y:Rat}:Bl x y>0↔y<x:=by
 unfold Bl;split
 ·rename_i h;have:¬y<x:=fun h2=>by grind
  simp_all
 ·split<;>simp_all
theorem Tx {n:Int} (h1: -9223372036854775808≤n) (h2:n<9223372036854775808):Sm n:=by
 have:n.natAbs<10^40:=by omega
 exact Ls this (by unfold JY;decide)
theorem CW {z:Int} (h:z.natAbs<10^40):Sq z:=Ls h (by unfold y4;decide)
theorem HP {m d:Int} (h1: -9223372036854775808≤m) (h2:m<9223372036854775808) (h3: -9223372036854775808≤d) (h4:d<9223372036854775808) (hd:d≠0):qf CC 76 [.c (.int .i64 m),.c (.int .i64 d)] [xk (M1 m d)]:=by
 refine qg (anns:=an0) mixedT Tryz.func76 ?_;rw[B7];refine brb (fun h=>absurd (by simpa using h) hd) (fun _=>?_);have:=Tc zN (Tx h1 h2) (Tx h3 h4) hd;rw[qb]at this ⊢;exact⟨_,_,xv h1 h2,_,_,xv h3 h4,_,_,_,_,this,rfl⟩
theorem HQ (m:Nat):((m:Nat):Rat).num=(m:Int):=by simp
theorem HR (m:Nat):((m:Nat):Rat).den=1:=by simp
theorem HS {m:Nat} (h:m<10^40):Sr ((m:Nat):Rat):=by
 refine⟨?_,?_⟩
 ·rw[HQ];exact CW (by omega)
 ·rw[HR];exact CW (by decide)
theorem Ze {k:Nat} (hk:k≤30):qf CC 143 [.c (.int .i64 (k:Int))] [xk ((10^k:Nat):Rat)]:=by
 refine qg (anns:=fun _=>⟨[.slot 4 (.int .i64 0),.box 3 [.bool false,.slice none 0 0,.bool false,.slice none 0 0]],[],fun _ ds=>∃j:Nat,j≤k∧ds= .int .i64 (j:Int)::cR ((10^j:Nat):Rat),fun ds=>(k-toI (nth .undef ds 0)).toNat⟩) mixedT Tryz.func143 ?_;rw[PW];have h1:=zM (n:=1) (by omega) (by omega);have a0:=zM (n:=10) (by omega) (by omega);rw[qb]at h1 a0;refine⟨_,_,_,_,h1,⟨0,by omega,rfl⟩,?_⟩;rintro n b es b2 es2 ⟨j,hj,he⟩;simp only[J7,D.int.injEq,true_and]at he;obtain⟨rfl,he⟩:=he;refine brd (fun h=>?_) (fun h=>?_)
 ·have hw:Dd .i64 ((j:Int)+1)=((j+1:Nat):Int):=by rw[qK (by omega) (by omega)];omega
  have hp:10^j<10^31:=Nat.pow_lt_pow_right (by omega) (by omega);have hm:=Xk zN (HS (m:=10^j) (Ls hp (by decide))) (HS (m:=10) (by decide));have e:((10^j:Nat):Rat)*((10:Nat):Rat)=((10^(j+1):Nat):Rat):=by rw[Nat.pow_succ,Rat.natCast_mul]
  rw[e,xk,←he]at hm;rw[hw];rw[qb ((10^(j+1):Nat):Rat)]at hm;refine⟨_,_,_,_,a0,_,_,_,_,hm,⟨j+1,by omega,rfl⟩,by simp only[nth,toI];omega⟩
 ·have:j=k:=by omega
  subst this;rw[he];rfl
theorem QH {v:Nat} (h:v<10):(U3 (48+v)).toNat=48+v:=by
 simp[V1];omega
theorem CY (a:UInt8) (n:Nat) (hn:n<256):((a.toNat:Int)==(n:Int))=decide (a=U3 n):=by
 rw[Aw];simp only[beq_iff_eq,decide_eq_true_eq];constructor
 ·intro h;have:a.toNat=n:=by omega
  rw[←this];simp
 ·rintro rfl;simp[V1];omega
theorem R2 (u:Nat):nth 0 (F2 u) 0≠45:=by
 have hp:=xy u;obtain⟨n,hn⟩:∃n,F0 u=n+1:=⟨F0 u-1,by omega⟩;rw[qZ,hn,zo];show U3 (48+u/10^n%10)≠45;have h10:u/10^n%10<10:=Nat.mod_lt _ (by omega);intro e;have:=congrArg UInt8.toNat e;rw[QH h10]at this;have h45:(45:UInt8).toNat=45:=rfl;omega
theorem MS {z:Int} {k:Nat} (hz:z.natAbs<10^90) (hk:k≤30):qf CC 144 [qJ z,.c (.int .i64 (k:Int))] [.c (.str (sgT z++qY z.natAbs k))]:=by
 generalize hU:z.natAbs=U at *;have hL0:F0 U≤90:=(qR 89 U).2 hz;have hLp:=xy U;have a5:U<10^F0 U:=by obtain⟨n,hn⟩:∃n,F0 U=n+1:=⟨F0 U-1,by omega⟩;rw[hn];exact(qR n U).1 (by omega)
 refine qg (anns:=fun _=>⟨[.slot 5 (.string ⟨#[]⟩)],[],fun _ ds=>∃j:Nat,F0 U≤j∧j≤max (F0 U) (k+1)∧ds=[.str (xq j U)],fun ds=>200-(toS (nth .undef ds 0)).length⟩) mixedT Tryz.func144 ?_;have hF:=Fh z (by
  have:(lim z.natAbs).length≤10:=qq (by rw[hU];exact Lv hz (by decide));omega)
 rw[qm]at hF ⊢;rw[PX];simp only[Hy];have hmax:max (F0 U) (k+1)≤90:=by omega
 have a4:∀j,F0 U≤j→j≤max (F0 U) (k+1)→¬(j≤k)→j=max (F0 U) (k+1):=fun j a b c=>by omega
 have a6:∀j,F0 U≤j→48::xq j U=xq (j+1) U:=fun j hj=>by have:=Vu j 1 U (Lv a5 (Lm (by omega) hj));rw[Nat.add_comm 1 j]at this;rw[this];rfl
 have a2:k=0→xq (max (F0 U) (k+1)) U=qY U k:=by rintro rfl;rw[show max (F0 U) (0+1)=F0 U by omega,←qZ];rfl
 have a3:k≠0→(xq (max (F0 U) (k+1)) U).take (max (F0 U) (k+1)-k)++46::(xq (max (F0 U) (k+1)) U).drop (max (F0 U) (k+1)-k)=qY U k:=fun h0=>by
  rw[Gg (u:=U) (k:=k) (L:=max (F0 U) (k+1)) rfl];cases k with
  |zero=>omega
  |succ k=>rfl
 have a1:∀(a0:List UInt8),a0.length≤1→sgT z=a0→∀(s:List UInt8),(∃j:Nat,F0 U≤j∧j≤max (F0 U) (k+1)∧[D.str s]=[.str (xq j U)])→
  br (toB (D.bool (decide ((s.length:Int)≤(k:Int)))))
   (room (1+s.length)∧(∃j:Nat,F0 U≤j∧j≤max (F0 U) (k+1)∧[D.str (48::s)]=[.str (xq j U)])∧200-(toS (nth .undef [D.str (48::s)] 0)).length<200-(toS (nth .undef [D.str s] 0)).length)
   (br (toB (D.bool ((k:Int)==0))) (room (a0.length+s.length)∧[A.c (D.str (a0++s))]=[A.c (D.str (sgT z++qY U k))])
    ((0≤(0:Int)∧0≤Dd .i64 ((s.length:Int)-k)∧Dd .i64 ((s.length:Int)-k)≤s.length)∧
      room (a0.length+((s.take (Dd .i64 ((s.length:Int)-k)).toNat).drop 0).length)∧
      room ((a0++((s.take (Dd .i64 ((s.length:Int)-k)).toNat).drop 0)).length+1)∧
      (0≤Dd .i64 ((s.length:Int)-k)∧Dd .i64 ((s.length:Int)-k)≤s.length∧(s.length:Int)≤s.length)∧
      room ((a0++((s.take (Dd .i64 ((s.length:Int)-k)).toNat).drop 0)++[46]).length+((s.take (I0 s.length)).drop (Dd .i64 ((s.length:Int)-k)).toNat).length)∧
      [A.c (D.str (a0++((s.take (Dd .i64 ((s.length:Int)-k)).toNat).drop 0)++[46]++((s.take (I0 s.length)).drop (Dd .i64 ((s.length:Int)-k)).toNat)))]=[A.c (D.str (sgT z++qY U k))])):=by
  intro a0 hpre a9 s ⟨j,a7,hj2,he⟩;simp only[J7,D.str.injEq,and_true]at he;subst he;rw[qN];refine brd (fun h=>?_) (fun h=>?_)
  ·have hjk:j≤k:=by omega
   refine⟨by unfold room;omega,⟨j+1,by omega,by omega,by rw[a6 j a7]⟩,by simp only[nth,toS,J4,qN];omega⟩
  ·have a8:=a4 j a7 hj2 (by omega);have hw:Dd .i64 ((j:Int)-k)=((j-k:Nat):Int):=by rw[qK (by omega) (by omega)];omega
   rw[hw,Hu,Hu];have e0:((k:Int)==0)=decide (k=0):=by rw[Aw];simp
   rw[e0];refine brd (fun h0=>?_) (fun h0=>?_)
   ·refine⟨by unfold room;omega,?_⟩;have:=a2 h0;rw[←a8]at this;rw[this,a9]
   ·have:=a3 h0;rw[←a8]at this;have ht:(xq j U).take j=xq j U:=List.take_of_length_le (by rw[qN];omega);refine⟨⟨by omega,by omega,by omega⟩,?_,?_,⟨by omega,by omega,by omega⟩,?_,?_⟩
    ·unfold room;simp only[J3,I2,qN];omega
    ·unfold room;simp only[I1,J3,I2,qN];omega
    ·unfold room;simp only[I1,J4,List.length_nil,J3,I2,qN];omega
    ·rw[List.drop_zero,ht,a9,←this,J6,J6];rfl
 have hdl:(F2 U).length=F0 U:=Lib.decDigits_length U;by_cases hneg:z<0
 ·have hs:sgT z=[45]:=by unfold sgT;rw[decide_eq_true hneg]
  have hz:z8 z=45::F2 U:=by unfold z8;rw[hs,hU];rfl
  rw[hz]at hF;refine⟨_,hF,⟨by omega,by simp⟩,brb (fun _=>?_) (fun h=>?_)⟩
  ·refine⟨⟨by omega,by simp;omega,by omega⟩,⟨F0 U,by omega,by omega,?_⟩,fun s hs2=>a1 [45] (by simp) hs s hs2⟩;rw[Hu,List.take_length,←qZ];rfl
  ·exact absurd h (by simp[nth])
 ·have hs:sgT z=[]:=by unfold sgT;rw[decide_eq_false hneg]
  have hz:z8 z=F2 U:=by unfold z8;rw[hs,hU];rfl
  rw[hz]at hF;refine⟨_,hF,⟨by omega,by omega⟩,?_⟩;rw[show(45:Int)=((45:Nat):Int)from rfl,CY _ _ (by omega)];refine brd (fun h=>absurd h (R2 U)) (fun _=>?_);exact⟨⟨F0 U,by omega,by omega,by rw[←qZ]⟩,fun s hs2=>a1 [] (by simp) hs s hs2⟩
theorem Gy (b:Rat):b*(b.den:Rat)=(b.num:Rat):=by
 have h:=M2 b;rw[Rat.divInt_eq_div]at h;have hd:(b.den:Rat)≠0:=by exact_mod_cast b.den_nz
 conv=>lhs;lhs;rw[←h]
 exact Rat.div_mul_cancel hd
theorem Wm:(1000:Rat)⁻¹=M1 1 1000:=by rw[Rat.inv_def];rfl
theorem Kf {u k:Nat} (hu:u<10^90) (hk:k≤30):(qY u k).length≤121:=by
 cases k with
 |zero=>show(F2 u).length≤121;have:=zh (n:=89) (u:=u) (by omega);omega
 |succ n=>show(F2 (u/10^(n+1))++46::xq (n+1) u).length≤121;have h1:u/10^(n+1)<10^90:=Lr (Nat.div_le_self _ _) hu;have:=zh (n:=89) (u:=u/10^(n+1)) (by omega);rw[I1,J4,qN];omega
theorem Sz.sz_pow {k:Nat} (hk:k≤30):Sz 30 ((10^k:Nat):Rat):=by
 refine⟨?_,?_⟩
 ·rw[HQ,Gv];exact Lm (by omega) hk
 ·rw[HR];exact Nat.pos_of_ne_zero (by decide)
theorem Sz.mul2 {j k:Nat} {x y:Rat} (hx:Sz j x) (hy:Sz k y):Sz (2*(j+k)) (x*y):=(hx.mono (by omega)).mul (hy.mono (by omega))
theorem Zf {b:Rat} (hb:Sz 57 b):qf CC 75 [xk b] [.c (.str (X3 b)),.c (.bool (exq b).isSome)]:=by
 refine qg (anns:=fun _=>⟨[.slot 4 (.int .i64 0)],[],fun _ ds=>∃j:Nat,j≤31∧ds=[.int .i64 (j:Int)]∧exF b (31-j) j=exq b,fun ds=>(100-toI (nth .undef ds 0)).toNat⟩) mixedT Tryz.func75 ?_;have hsr:=hb.sr (by omega);rw[qb,PY];refine⟨⟨0,by omega,rfl,rfl⟩,?_⟩;rintro m ⟨j,hj,he,a1⟩;simp only[J7,D.int.injEq,true_and,and_true]at he;subst he;refine brd (fun h30=>?_) (fun h=>?_)
 ·have a0:j≤30:=by omega
  have hp:=Ze a0;have hsp:=(Sz.sz_pow a0).sr (by omega);have hm:=Xk zN hsr hsp;have hmz:=hb.mul2 (Sz.sz_pow a0);have a2:=hmz.sr (by omega);have hs:=XG (x:=(b*((10^j:Nat):Rat)).den) (y:=1) a2.2.sm YV;have h1:=xv (n:=1) (by omega) (by omega);rw[show 31-j=(30-j)+1 by omega,exF]at a1;have hsh:=fun(hz:(b*((10^j:Nat):Rat)).num.natAbs<10^90)=>MS (z:=(b*((10^j:Nat):Rat)).num) (k:=j) hz a0
  have a4:(b*((10^j:Nat):Rat)).den=1→(b*((10^j:Nat):Rat)).num.natAbs<10^90:=fun hd=>by
   have hq:=Vy hd;have e1:((b*((10^j:Nat):Rat)).num:Rat)=b*((10^j:Nat):Rat):=hq
   --the numerator is at most that of b times the power
   have hle:(b*((10^j:Nat):Rat)).num.natAbs≤b.num.natAbs*10^j:=by
    have hb2:b=M1 b.num b.den:=(M2 b).symm;have a3:(b*((10^j:Nat):Rat)).num*(b.den:Int)=b.num*((10^j:Nat):Int):=by
     have h2:((b*((10^j:Nat):Rat)).num:Rat)*(b.den:Rat)=(b.num:Rat)*((10^j:Nat):Rat):=by rw[e1,T1,Rat.mul_comm ((10^j:Nat):Rat),←T1,Gy]
     exact_mod_cast h2
    have h3:=congrArg Int.natAbs a3;rw[Hv,Hv,Gv,Gv]at h3;have:=b.den_pos
    calc (b*((10^j:Nat):Rat)).num.natAbs≤(b*((10^j:Nat):Rat)).num.natAbs*b.den:=Nat.le_mul_of_pos_right _ this
     _=_:=h3
   have h4:b.num.natAbs*10^j≤10^57*10^30:=Nat.mul_le_mul hb.1 (Lm (by omega) a0);omega
  generalize b*((10^j:Nat):Rat)=y at *;rw[qb]at hp;rw[qb,qb ((10^j:Nat):Rat),qb y]at hm;rw[qm,qm]at hs;rw[qm]at h1;refine⟨_,_,_,_,hp,_,_,_,_,hm,_,_,h1,_,hs,jm (fun h2=>?_) (fun h2=>?_)⟩
  ·have hd:y.den=1:=by have:=of_decide_eq_true h2;omega
   rw[if_pos hd]at a1;have hn:=a4 hd;have hS:=hsh hn;rw[qm]at hS;have ht:X3 b=sgT y.num++qY y.num.natAbs j:=by unfold X3;rw[←a1]
   have hi:(exq b).isSome=true:=by rw[←a1];rfl
   rw[ht,hi];refine⟨_,hS,brd (fun h=>absurd h ?_) (fun _=>rfl)⟩;have hL0:F0 y.num.natAbs≤90:=(qR 89 _).2 hn;have:=Kf hn a0;have:=Vs y.num;simp only[Hy,I1];omega
  ·have hd:¬y.den=1:=by have:=of_decide_eq_false h2;omega
   rw[if_neg hd]at a1;have hw:Dd .i64 ((j:Int)+1)=((j+1:Nat):Int):=by rw[qK (by omega) (by omega)];omega
   rw[hw];exact⟨⟨j+1,by omega,rfl,by rw[show 31-(j+1)=30-j by omega];exact a1⟩,by simp only[nth,toI];omega⟩
 ·have:j=31:=by omega
  subst this;have a1:none=exq b:=a1;have ht:X3 b=[]:=by unfold X3;rw[←a1]
  rw[ht,←a1];rfl
theorem HT {a:Rat} (ha:Sz 54 a):qf CC 77 [xk a] [xk (a/1000)]:=by
 refine qg (anns:=an0) mixedT Tryz.func77 ?_;rw[qb,B8];have h1:=HP (m:=1) (d:=1000) (by omega) (by omega) (by omega) (by omega) (by omega);have hs:Sz 3 (M1 1 1000):=Sz.divInt (by omega) (by decide) (by decide);have h2:=Xk zN (ha.sr (by omega)) (hs.sr (by omega));have e:a*M1 1 1000=a/1000:=by rw[U0,Wm]
 rw[e]at h2;rw[qb]at h1;rw[qb,qb (M1 1 1000),qb (a/1000)]at h2;rw[qb (a/1000)];exact⟨_,_,_,_,h1,_,_,_,_,h2,rfl⟩
theorem Sz.thou {a:Rat} (ha:Sz 54 a):Sz 57 (a/1000):=by
 have e:a/1000=M1 a.num (a.den*1000):=by
  rw[U0,Wm]
  conv=>lhs;rw[←M2 a]
  rw[Rat.divInt_mul_divInt,Int.mul_one]
 rw[e];have:=a.den_pos;refine Sz.divInt (by omega) (J9 ha.1 (by decide)) ?_;rw[Hv,Gv];have:=ha.2;show a.den*1000≤10^57;omega
def vr (x:Rw):Option Rat:=if x.ok=true then some x.val else none
theorem CZ {a:Rat} {K:Int} (h1: -(K:Rat)≤a) (h2:a≤(K:Rat)):a.num.natAbs≤K.natAbs*a.den:=by
 have hd:(0:Rat)≤(a.den:Rat):=Rat.natCast_nonneg;have e:a*(a.den:Rat)=(a.num:Rat):=Gy a;have g1:(a.num:Rat)≤(K:Rat)*(a.den:Rat):=by rw[←e];exact No h2 hd
 have g2: -(K:Rat)*(a.den:Rat)≤(a.num:Rat):=by rw[←e];exact No h1 hd
 have g3:a.num≤K*(a.den:Int):=by apply Pl.1;rw[Ts,P1];exact g1
 have g4: -K*(a.den:Int)≤a.num:=by apply Pl.1;rw[Ts,P1,Rat.intCast_neg];exact g2
 have g5:K*(a.den:Int)≤((K.natAbs*a.den:Nat):Int):=by rw[Int.natCast_mul];exact Int.mul_le_mul_of_nonneg_right (by omega) (by omega)
 rw[Int.neg_mul]at g4;omega
theorem FJ {a:Rat} (h1: -10000000≤a) (h2:a≤10000000):a.num.natAbs≤10000000*a.den:=by
 have e:((10000000:Int):Rat)=10000000:=rfl;exact CZ (K:=10000000) (by rw[e];exact h1) (by rw[e];exact h2)
theorem Rw.rd_sz {x:Rw} (hr:x.rd) (h:x.ok=true) (h1: -10000000≤x.val) (h2:x.val≤10000000):Sz 54 x.val:=by
 rcases hr.2.2 h with hf|hd
 ·exact(Rw.val_ok h hf).2
 ·have hn:=FJ h1 h2;have l1:10^40≤10^54:=Lm (by omega) (by omega);have l2:10000000*10^40≤10^54:=by decide
  exact⟨J9 hn (J9 (Nat.mul_le_mul_left _ hd) l2),J9 hd l1⟩
theorem Gz {x:Rw} (hf:x.rd):qf CC 91 [.ag x.cs] [.c (.bool (xU (vr x)))]:=by
 have hu:=MQ (p:=x.p) (q:=x.q) hf.1 hf.2.1;refine qg (anns:=an0) mixedT Tryz.func91 ?_;have ec:(A.ag x.cs)= .ag [.bool x.p,.sl (raw x.l),.bool x.q,.sl (raw x.m)]:=rfl;rw[ec,Fb];refine⟨_,hu,?_⟩;have hok:okQ x.p x.l x.q x.m=x.ok:=rfl;rw[hok];unfold vr;cases h:x.ok with
 |false=>refine brb (fun _=>?_) (fun h=>by simp at h);simp[xU]
 |true=>
  refine brb (fun h=>by simp at h) (fun _=>?_);rw[if_pos rfl];have hc:=Rw.val_cs h;have a1:=Rw.val_sr h hf.1 hf.2.1;have hz:=Rw.rd_sz hf h;have hC:A.ag [.bool x.p,.sl (raw x.l),.bool x.q,.sl (raw x.m)]=xk x.val:=by unfold xk;rw[←hc];rfl
  generalize x.val=a at *;have h1:=zM (n:=10000000) (by omega) (by omega);have sM:Sz 8 ((10000000:Int):Rat):=Sz.int (by decide);have a4:=sM.sr (by omega);have a0:=HF a1 a4;have hn:=HE a1;have a3:=HF a1.neg a4;rw[←hC]at a0 hn;rw[qb]at h1 hn;rw[qb]at a0;rw[qb (-a),qb ((10000000:Int):Rat)]at a3;have a2:xU (some a)=(decide (-10000000≤a∧a≤10000000)&&(exq (a/1000)).isSome):=rfl;rw[a2];refine⟨_,_,_,_,h1,_,a0,brd (fun hgt=>?_) (fun hgt=>⟨_,_,_,_,hn,_,a3,brd (fun hg2=>?_) (fun hg2=>?_)⟩)⟩
  ·have:=QG.1 hgt;rw[decide_eq_false (fun h=>by have h:=h.2;grind)];rfl
  ·have:=QG.1 hg2;rw[decide_eq_false (fun h=>by have h:=h.1;grind)];rfl
  ·have g1:=fun h=>hgt (QG.2 h)
   have g2:=fun h=>hg2 (QG.2 h)
   have b1: -10000000≤a:=by grind
   have b2:a≤10000000:=by grind
   have ht:=HT (hz b1 b2);have hx:=Zf (hz b1 b2).thou;rw[←hC]at ht;rw[qb]at ht hx;refine⟨_,_,_,_,ht,_,_,hx,?_⟩;rw[decide_eq_true (⟨b1,b2⟩: -10000000≤a∧a≤10000000)];rfl
end Eng
end
