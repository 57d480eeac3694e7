/- The verification conditions of functions, printed by a program (vcgen.py) and checked by the kernel. -/
import Derived.Test.YtbehlcfelmbmlaaGreatDoorCtxB
import Derived.Test.YtbehlcfelmbmlaaGreatDoorRatA
import Derived.Test.YtbehlcfelmbmlaaGreatDoorTabA
import Derived.Test.YtbehlcfelmbmlaaGreatDoorRefC
import Derived.Test.YtbehlcfelmbmlaaGreatDoorRefB
import Derived.KernelRfl
open Bool renaming eq_iff_iff→Aw, not_eq_true→Bx, and_eq_true→Dd
open Eng.A renaming ag→F0, c→F2
open Eng.D renaming bool→Hu, int→Hv, sl→Hx
open Go.IntKind renaming wrap→Hy
open Int renaming ofNat→J3, natAbs_natCast→J4, toNat_natCast→J6, toNat→J7, natAbs_ediv_le_natAbs→J9, ofNat_eq_natCast→Lm, natAbs_mul→Lr
open List renaming take_succ_eq_append_getElem→Ls, eq_nil_of_length_eq_zero→Lv, length→No, take_length→Pl
open Nat renaming pow_le_pow_right→P1, lt_of_le_of_lt→Ts, le_trans→T1, eq_zero_or_pos→U0, gcd→U3, mul_le_mul→V1, pow_add→W0
open Rat renaming num_divInt_den→W1, divInt→W2
section
namespace Eng
open Go Go.Proofs
set_option maxRecDepth 1000000
section
variable (Gv:Nat→List A→List A→Prop) (Q:List A→Prop) (I0 I1 I2 I3:List D→List D→Prop) (M0 M1 M2 M3:List D→Nat)
theorem MI (p:Bool) (es:List (List D)):wpF CC Gv (fun _=>⟨[.slot 9 (.int .i64 0)],[],I0,M0⟩) Tryz.f315 [.ag [.bool p,.sl es]] Q=(
 I0 [] [Hv .i64 0]∧∀(n:Int),I0 [] [Hv .i64 n]→br (toB (Hu (decide (n<(J3 es.length))))) ((0≤n∧n<(J3 es.length)∧No (nth [] es (J7 n))=1)∧∃n1,cut (nth [] es (J7 n)) 0 1 [Hv .u32 n1]∧br (toB (Hu (decide (n1≥1000000000)))) (Q [F2 (Hu false)]) (I0 [] [Hv .i64 (Hy .i64 (n+1))]∧M0 [Hv .i64 (Hy .i64 (n+1))]<M0 [Hv .i64 n])) (br (toB (Hu (decide ((J3 es.length)>0)))) ((0≤Hy .i64 ((J3 es.length)-1)∧Hy .i64 ((J3 es.length)-1)<(J3 es.length)∧No (nth [] es (J7 (Hy .i64 ((J3 es.length)-1))))=1)∧∃n,cut (nth [] es (J7 (Hy .i64 ((J3 es.length)-1)))) 0 1 [Hv .u32 n]∧Q [F2 (Hu (n !=0))]) (Q [F2 (Hu !p)]))):=by kernel_rfl
theorem MJ (p q:Bool) (es fs:List (List D)):wpF CC Gv an0 Tryz.f241 [.ag [.bool p,.sl es,.bool q,.sl fs]] Q=(
 ∃b,Gv 315 [F0 [Hu p,Hx es]] [F2 (Hu b)]∧br (toB (Hu !b)) (Q [F2 (Hu false)]) (∃b,Gv 315 [F0 [Hu q,Hx fs]] [F2 (Hu b)]∧br (toB (Hu !b)) (Q [F2 (Hu false)]) (∃n,Gv 138 [F0 [Hu q,Hx fs]] [F2 (Hv .i64 n)]∧br (toB (Hu (decide (n≤0)))) (Q [F2 (Hu false)]) (∃b e1,Gv 186 [F0 [Hu p,Hx es],F0 [Hu q,Hx fs]] [F0 [Hu b,Hx e1]]∧∃b1 es,Gv 187 [] [F0 [Hu b1,Hx es]]∧∃n,Gv 183 [F0 [Hu b,Hx e1],F0 [Hu b1,Hx es]] [F2 (Hv .i64 n)]∧Q [F2 (Hu (n==0))])))):=by kernel_rfl
theorem MK (p:Bool) (es:List (List D)):wpF CC Gv (fun _=>⟨[.slot 3 (.int .i64 0)],[],I0,M0⟩) Tryz.f200 [.ag [.bool p,.sl es]] Q=(
 I0 [] [Hv .i64 0]∧∀(n:Int),I0 [] [Hv .i64 n]→br (toB (Hu (decide (n<(J3 es.length))))) ((0≤n∧n<(J3 es.length)∧No (nth [] es (J7 n))=1)∧∃n1,cut (nth [] es (J7 n)) 0 1 [Hv .u32 n1]∧br (toB (Hu (decide (n1≥1000000000)))) (Q [F2 (Hu false)]) (I0 [] [Hv .i64 (Hy .i64 (n+1))]∧M0 [Hv .i64 (Hy .i64 (n+1))]<M0 [Hv .i64 n])) (∃e1,Gv 224 [F2 (Hx es)] [F2 (Hx e1)]∧br (toB (Hu ((J3 e1.length)==(J3 es.length)))) (br (toB (Hu !p)) (Q [F2 (Hu true)]) (Q [F2 (Hu (decide ((J3 es.length)>0)))])) (Q [F2 (Hu false)]))):=by kernel_rfl
theorem ML (p q:Bool) (es fs:List (List D)):wpF CC Gv an0 Tryz.f108 [.ag [.bool p,.sl es,.bool q,.sl fs]] Q=(
 ∃b,Gv 200 [F0 [Hu p,Hx es]] [F2 (Hu b)]∧br (toB (Hu !b)) (Q [F2 (Hu false)]) (∃b,Gv 200 [F0 [Hu q,Hx fs]] [F2 (Hu b)]∧br (toB (Hu !b)) (Q [F2 (Hu false)]) (∃n,Gv 173 [F0 [Hu q,Hx fs]] [F2 (Hv .i64 n)]∧br (toB (Hu (n !=1))) (Q [F2 (Hu false)]) (∃b e1,Gv 201 [F0 [Hu p,Hx es],F0 [Hu q,Hx fs]] [F0 [Hu b,Hx e1]]∧∃b1 es,Gv 69 [] [F0 [Hu b1,Hx es]]∧∃b2,Gv 67 [F0 [Hu b,Hx e1],F0 [Hu b1,Hx es]] [F2 (Hu b2)]∧Q [F2 (Hu b2)])))):=by kernel_rfl
end
end Eng
end

section
namespace Eng
open Go Go.Proofs
structure V2 where
 x:Rat
 y:Rat
def Sz (k:Nat) (r:Rat):Prop:=r.num.natAbs≤10^k∧r.den≤10^k
theorem Sz.mono {k m:Nat} {r:Rat} (h:Sz k r) (hk:k≤m):Sz m r:=
 ⟨T1 h.1 (P1 (by omega) hk),T1 h.2 (P1 (by omega) hk)⟩
theorem HN:10^250<y4:=by decide
theorem Sz.sr {k:Nat} {r:Rat} (h:Sz k r) (hk:k≤250):Sr r:=by
 have h2:=h.mono hk;refine⟨Ts h2.1 HN,Ts ?_ HN⟩;rw[J4];exact h2.2
theorem Sz.divInt {n d:Int} {k:Nat} (hd:0<d) (h1:n.natAbs≤10^k) (h2:d.natAbs≤10^k):Sz k (W2 n d):=by
 obtain⟨e1,e2⟩:=jk (n:=n) hd;constructor
 ·rw[e1];exact T1 (J9 _ _) h1
 ·have:((W2 n d).den:Int).natAbs≤d.natAbs:=by rw[e2];exact J9 _ _
  rw[J4]at this;exact T1 this h2
theorem Sz.mul {k:Nat} {x y:Rat} (hx:Sz k x) (hy:Sz k y):Sz (2*k) (x*y):=by
 have e:x*y=W2 (x.num*y.num) (x.den*y.den):=by rw[←Rat.divInt_mul_divInt,W1,W1]
 have px:=den_pos x;have py:=den_pos y;rw[e,Nat.two_mul];refine Sz.divInt (Int.mul_pos px py) ?_ ?_
 ·rw[Lr,W0];exact V1 hx.1 hy.1
 ·rw[Lr,W0,J4,J4];exact V1 hx.2 hy.2
theorem CR {y:Rat} (h:0<y):0<y.num:=by
 have h1:0≤y.num:=Rat.num_nonneg.2 (Rat.le_of_lt h);have h2:y.num≠0:=fun h0=>by rw[Rat.num_eq_zero.1 h0]at h;exact Rat.lt_irrefl h
 omega
theorem Sz.int {n:Int} {k:Nat} (h:n.natAbs≤10^k):Sz k (n:Rat):=by
 refine⟨by rw[Rat.num_intCast];exact h,by rw[Rat.den_intCast];exact Nat.pow_pos (by omega)⟩
end Eng
end

section
namespace Eng
open Go Go.Proofs
set_option maxRecDepth 100000
theorem Zd:∀{l:List Nat},kt (raw l)=true↔(l=[]∨l.getLast?≠some 0)
 |[]=>by simp[raw,kt]
 |[x]=>by simp only[raw,List.map_cons,List.map_nil,kt,BU,J6];rw[Nat.blt_eq];simp;omega
 |x::y::l=>by have h2:kt (raw (x::y::l))=kt (raw (y::l)):=rfl;rw[h2,Zd,List.getLast?_cons_cons];simp
theorem Tw {l:List Nat}:yB (raw l)=true↔Limbs l:=by
 constructor
 ·intro h;obtain⟨e1,e2,_⟩:=wK h;rw[Vb e1];exact e2
 ·exact vo
theorem yh {p:Bool} {l:List Nat}:okZ p (raw l)=true↔Limbs l∧(l=[]∨l.getLast?≠some 0)∧(l=[]→p=false):=by
 unfold okZ;rw[Dd,Dd,Tw,Zd];refine and_congr Iff.rfl (and_congr Iff.rfl ?_);cases l with
 |nil=>simp[raw]
 |cons x l=>simp[raw]
theorem Gt {l:List Nat} (h:0<l.length):l.getLast? =some (l[l.length-1]'(by omega)):=by
 rw[List.getLast?_eq_getElem?,List.getElem?_eq_getElem (by omega)]
theorem V4 {p:Bool} {l:List Nat} (hr:l.length≤1073741824):qf CC 315 [.ag [.bool p,.sl (raw l)]] [.c (.bool (okZ p (raw l)))]:=by
 refine qg (anns:=fun _=>⟨[.slot 9 (.int .i64 0)],[],fun _ ds=>∃k:Nat,k≤l.length∧ds=[.int .i64 (k:Int)]∧Limbs (l.take k),fun ds=>(l.length-toI (nth .undef ds 0)).toNat⟩) mixedT Tryz.func315 ?_;rw[MI];simp only[Lm,qh];refine⟨⟨0,by omega,rfl,by simpa using Limbs.nil⟩,?_⟩;rintro n ⟨k,hk,he,hl⟩;simp only[List.cons.injEq,D.int.injEq,true_and,and_true]at he;subst he;refine brd (fun h=>?_) (fun h=>?_)
 ·have a0:k<l.length:=by omega
  rw[J6];refine⟨⟨by omega,by omega,qt a0⟩,_,qw a0,brd (fun h2=>?_) (fun h2=>?_)⟩
  ·have:okZ p (raw l)=false:=by rw[←Bx,yh];rintro⟨h3,_⟩;have:=h3.get a0;omega
   rw[this]
  ·have hw:Hy .i64 ((k:Int)+1)=((k+1:Nat):Int):=by rw[qK (by omega) (by omega)];omega
   rw[hw];refine⟨⟨k+1,by omega,rfl,?_⟩,by simp only[nth,toI];omega⟩;rw[Ls a0];exact hl.append (Limbs.cons (by omega) Limbs.nil)
 ·have a0:k=l.length:=by omega
  subst a0;rw[Pl]at hl;refine brd (fun h2=>?_) (fun h2=>?_)
  ·have h3:0<l.length:=by omega
   have hw:Hy .i64 ((l.length:Int)-1)=((l.length-1:Nat):Int):=by rw[qK (by omega) (by omega)];omega
   rw[hw,J6];refine⟨⟨by omega,by omega,qt (by omega)⟩,_,qw (by omega),?_⟩;have a1:l≠[]:=by intro e;subst e;simp at h3
   have e:okZ p (raw l)=(((l[l.length-1]:Nat):Int) !=0):=by
    rw[Aw,yh,Gt h3];simp only[bne_iff_ne,ne_eq,Option.some.injEq];constructor
    ·rintro⟨_,h5,_⟩;rcases h5 with h5|h5
     ·exact absurd h5 a1
     ·omega
    ·intro h5;exact⟨hl,.inr (by omega),fun e=>absurd e a1⟩
   rw[e]
  ·have h3:l=[]:=Lv (by omega);subst h3;cases p<;>rfl
theorem Gu {l:List Nat} (hl:Limbs l):(lim (val l)).length=l.length↔(l=[]∨l.getLast?≠some 0):=by
 constructor
 ·intro h;have e:=H7 (qe _) hl h (qj _);have h2:=zr (val l);rw[e]at h2;exact h2
 ·intro h;rw[vJ hl h]
theorem V5 {p:Bool} {l:List Nat} (hr:l.length≤1073741824):qf CC 200 [.ag [.bool p,.sl (raw l)]] [.c (.bool (okZ p (raw l)))]:=by
 refine qg (anns:=fun _=>⟨[.slot 3 (.int .i64 0)],[],fun _ ds=>∃k:Nat,k≤l.length∧ds=[.int .i64 (k:Int)]∧Limbs (l.take k),fun ds=>(l.length-toI (nth .undef ds 0)).toNat⟩) mixedT Tryz.func200 ?_;rw[MK];simp only[Lm,qh];refine⟨⟨0,by omega,rfl,by simpa using Limbs.nil⟩,?_⟩;rintro n ⟨k,hk,he,hl⟩;simp only[List.cons.injEq,D.int.injEq,true_and,and_true]at he;subst he;refine brd (fun h=>?_) (fun h=>?_)
 ·have a0:k<l.length:=by omega
  rw[J6];refine⟨⟨by omega,by omega,qt a0⟩,_,qw a0,brd (fun h2=>?_) (fun h2=>?_)⟩
  ·have:okZ p (raw l)=false:=by rw[←Bx,yh];rintro⟨h3,_⟩;have:=h3.get a0;omega
   rw[this]
  ·have hw:Hy .i64 ((k:Int)+1)=((k+1:Nat):Int):=by rw[qK (by omega) (by omega)];omega
   rw[hw];refine⟨⟨k+1,by omega,rfl,?_⟩,by simp only[nth,toI];omega⟩;rw[Ls a0];exact hl.append (Limbs.cons (by omega) Limbs.nil)
 ·have a0:k=l.length:=by omega
  subst a0;rw[Pl]at hl;have ht:=j7 hl hr;have a1:=Gu hl;have ho:=yh (p:=p) (l:=l);refine⟨_,ht,?_⟩;rw[qh];have e:((((lim (val l)).length:Nat):Int)==((l.length:Nat):Int))=decide ((lim (val l)).length=l.length):=by rw[Aw];simp only[beq_iff_eq,decide_eq_true_eq];omega
  rw[e];refine brd (fun h2=>?_) (fun h2=>?_)
  ·have h3:=a1.1 h2;cases p with
   |false=>have:okZ false (raw l)=true:=ho.2 ⟨hl,h3,fun _=>rfl⟩;rw[this];rfl
   |true=>
    have:okZ true (raw l)=decide (((l.length:Nat):Int)>0):=by
     rw[Aw,ho,decide_eq_true_eq];constructor
     ·rintro⟨_,_,h5⟩;rcases U0 l.length with h6|h6
      ·exact absurd (h5 (Lv h6)) (by simp)
      ·omega
     ·intro h5;exact⟨hl,h3,fun e=>by subst e;simp at h5⟩
    rw[this];rfl
  ·have:okZ p (raw l)=false:=by rw[←Bx,ho];rintro⟨_,h5,_⟩;exact h2 (a1.2 h5)
   rw[this]
def okQ (p:Bool) (l:List Nat) (q:Bool) (m:List Nat):Bool:=
 okZ p (raw l)&&(okZ q (raw m)&&(decide (0<jv q (raw m))&&(U3 (jv p (raw l)).natAbs (jv q (raw m)).natAbs==1)))
theorem vn {p:Bool} {l:List Nat} (h:okZ p (raw l)=true):qJ (jv p (raw l))= .ag [.bool p,.sl (raw l)]:=by
 unfold qJ;rw[X9 h]
theorem HO (p:Bool) (l:List Nat):(jv p (raw l)).natAbs=val l:=by
 unfold jv;rw[kO];cases p
 ·simp
 ·simp
theorem V6 {p:Bool} {l:List Nat} (h:okZ p (raw l)=true) (hl:l.length≤6):(jv p (raw l)).natAbs<10^54:=by
 rw[HO];have h1:=qO (yh.1 h).1;have h2:1000000000^l.length≤1000000000^6:=P1 (by omega) hl;omega
theorem FE {x a b k:Nat} (h:k=a*b):x^k=(x^a)^b:=by rw[h,Nat.pow_mul]
theorem QD {p:Bool} {l:List Nat} (h:okZ p (raw l)=true) (hl:l.length≤400):Sq (jv p (raw l)):=by
 unfold Sq;rw[HO];have h1:=qO (yh.1 h).1;obtain⟨k,hk⟩:∃k,k=100*4:=⟨_,rfl⟩;have h2:1000000000^l.length≤1000000000^k:=P1 (by omega) (by omega);have h3:1000000000^k=y4:=by rw[FE hk];rfl
 rw[←h3];exact Nat.lt_of_lt_of_le h1 h2
theorem BT {z:Int}:sgn z≤0↔z≤0:=by unfold sgn;split<;>(try split)<;>omega
theorem Gw {z:Int}:sgn z=1↔0<z:=by unfold sgn;split<;>(try split)<;>omega
theorem MM {x y:Int}:yz x y=0↔x=y:=by unfold yz;split<;>(try split)<;>omega
theorem MN {p q:Bool} {l m:List Nat} (hl:l.length≤400) (hm:m.length≤400):qf CC 241 [.ag [.bool p,.sl (raw l),.bool q,.sl (raw m)]] [.c (.bool (okQ p l q m))]:=by
 refine qg (anns:=an0) mixedT Tryz.func241 ?_;rw[MJ];refine⟨_,V4 (by omega),?_⟩;cases h1:okZ p (raw l)with
 |false=>refine brb (fun _=>?_) (fun h=>by simp at h);unfold okQ;rw[h1];rfl
 |true=>
  refine brb (fun h=>by simp at h) (fun _=>⟨_,V4 (by omega),?_⟩);cases h2:okZ q (raw m)with
  |false=>refine brb (fun _=>?_) (fun h=>by simp at h);unfold okQ;rw[h1,h2];rfl
  |true=>
   refine brb (fun h=>by simp at h) (fun _=>?_);have s1:=(QD h1 hl).sm;have s2:=(QD h2 hm).sm;have hs:=up (vF (jv q (raw m)));have hg:=Gx XC s1 s2;have hu:=XX;have a0:Sm ((U3 (jv p (raw l)).natAbs (jv q (raw m)).natAbs:Nat):Int):=by
    rw[smN];rcases U0 (jv p (raw l)).natAbs with h|h
    ·rw[h,Nat.gcd_zero_left];exact s2
    ·exact Ts (Nat.gcd_le_left _ h) s1
   have hc:=up (Jr a0 YV);have ho:okQ p l q m=(decide (0<jv q (raw m))&&(U3 (jv p (raw l)).natAbs (jv q (raw m)).natAbs==1)):=by unfold okQ;rw[h1,h2];simp
   rw[vn h2]at hs;rw[vn h1,vn h2]at hg;rw[ho];clear ho;generalize U3 (jv p (raw l)).natAbs (jv q (raw m)).natAbs=g at hg a0 hc ⊢;generalize jv q (raw m)=z at hs ⊢;rw[qm]at hg hu;rw[qm,qm]at hc;refine⟨_,hs,brd (fun h=>?_) (fun h=>⟨_,_,hg,_,_,hu,_,hc,?_⟩)⟩
   ·rw[decide_eq_false (by have:=BT.1 h;omega)];rfl
   ·have e:decide (0<z)=true:=decide_eq_true (by have:=mt BT.2 h;omega);rw[e,Bool.true_and];have:(yz (g:Int) 1==0)=(g==1):=by rw[Aw,beq_iff_eq,MM,beq_iff_eq];omega
    rw[this]
structure Rw where
 p:Bool
 l:List Nat
 q:Bool
 m:List Nat
def Rw.cs (x:Rw):List D:=[.bool x.p,.sl (raw x.l),.bool x.q,.sl (raw x.m)]
def Rw.ok (x:Rw):Bool:=okQ x.p x.l x.q x.m
def Rw.few (x:Rw):Prop:=x.l.length≤6∧x.m.length≤6
end Eng
end
