/- The verification conditions of functions, printed by a program (vcgen.py) and checked by the kernel. -/
import Derived.Test.YtbehlcfelmbmlaaGreatDoorCtxB
import Derived.Test.YtbehlcfelmbmlaaGreatDoorRatA
import Derived.Test.YtbehlcfelmbmlaaGreatDoorTabA
import Derived.Test.YtbehlcfelmbmlaaGreatDoorRefC
import Derived.Test.YtbehlcfelmbmlaaGreatDoorRefB
import Derived.KernelRfl
open Bool renaming not_eq_true→Aa, and_eq_true→Ab, eq_iff_iff→Ac
open Eng.D renaming bool→Ad, sl→Ae, int→Af
open Int renaming natAbs_natCast→Ah, ofNat→Ai, natAbs_ediv_le_natAbs→Aj, toNat_natCast→Ak, natAbs_mul→Al, toNat→Am
open Nat renaming pow_le_pow_right→An, le_trans→Ao, lt_of_le_of_lt→Ap, mul_le_mul→Aq, pow_add→Ar
open Rat renaming num_divInt_den→As, divInt→At, mul_nonneg→Au
section
namespace Eng
open Go Go.Proofs
set_option maxRecDepth 1000000
section
variable (Gv:Nat→List A→List A→Prop) (Q:List A→Prop) (I0 I1 I2 I3:List D→List D→Prop) (M0 M1 M2 M3:List D→Nat)
theorem G8 (p:Bool) (es:List (List D)):wpF CC Gv (fun _=>⟨[.slot 3 (.int .i64 0)],[],I0,M0⟩) Tryz.f200 [.ag [.bool p,.sl es]] Q=(
 I0 [] [Af .i64 0]∧∀(n:Int),I0 [] [Af .i64 n]→br (toB (Ad (decide (n<(Ai es.length))))) ((0≤n∧n<(Ai es.length)∧List.length (nth [] es (Am n))=1)∧∃n1,cut (nth [] es (Am n)) 0 1 [Af .u32 n1]∧br (toB (Ad (decide (n1≥1000000000)))) (Q [A.c (Ad false)]) (I0 [] [Af .i64 (IntKind.wrap .i64 (n+1))]∧M0 [Af .i64 (IntKind.wrap .i64 (n+1))]<M0 [Af .i64 n])) (∃e1,Gv 224 [A.c (Ae es)] [A.c (Ae e1)]∧br (toB (Ad ((Ai e1.length)==(Ai es.length)))) (br (toB (Ad !p)) (Q [A.c (Ad true)]) (Q [A.c (Ad (decide ((Ai es.length)>0)))])) (Q [A.c (Ad false)]))):=by kernel_rfl
theorem G9 (p q:Bool) (es fs:List (List D)):wpF CC Gv an0 Tryz.f108 [.ag [.bool p,.sl es,.bool q,.sl fs]] Q=(
 ∃b,Gv 200 [A.ag [Ad p,Ae es]] [A.c (Ad b)]∧br (toB (Ad !b)) (Q [A.c (Ad false)]) (∃b,Gv 200 [A.ag [Ad q,Ae fs]] [A.c (Ad b)]∧br (toB (Ad !b)) (Q [A.c (Ad false)]) (∃n,Gv 173 [A.ag [Ad q,Ae fs]] [A.c (Af .i64 n)]∧br (toB (Ad (n !=1))) (Q [A.c (Ad false)]) (∃b e1,Gv 201 [A.ag [Ad p,Ae es],A.ag [Ad q,Ae fs]] [A.ag [Ad b,Ae e1]]∧∃b1 es,Gv 69 [] [A.ag [Ad b1,Ae es]]∧∃b2,Gv 67 [A.ag [Ad b,Ae e1],A.ag [Ad b1,Ae es]] [A.c (Ad b2)]∧Q [A.c (Ad b2)])))):=by kernel_rfl
end
end Eng
end

section
namespace Eng
open Go Go.Proofs
structure V2 where
 x:Rat
 y:Rat
def Sz (k:Nat) (r:Rat):Prop:=r.num.natAbs≤10^k∧r.den≤10^k
theorem Sz.mono {k m:Nat} {r:Rat} (h:Sz k r) (hk:k≤m):Sz m r:=
 ⟨Ao h.1 (An (by omega) hk),Ao h.2 (An (by omega) hk)⟩
theorem WB:10^250<kN:=by decide
theorem Sz.sr {k:Nat} {r:Rat} (h:Sz k r) (hk:k≤250):Sr r:=by
 have h2:=h.mono hk;refine⟨Ap h2.1 WB,Ap ?_ WB⟩;rw[Ah];exact h2.2
theorem Sz.divInt {n d:Int} {k:Nat} (hd:0<d) (h1:n.natAbs≤10^k) (h2:d.natAbs≤10^k):Sz k (At n d):=by
 obtain⟨e1,e2⟩:=k5 (n:=n) hd;constructor
 ·rw[e1];exact Ao (Aj _ _) h1
 ·have:((At n d).den:Int).natAbs≤d.natAbs:=by rw[e2];exact Aj _ _
  rw[Ah]at this;exact Ao this h2
theorem Sz.mul {k:Nat} {x y:Rat} (hx:Sz k x) (hy:Sz k y):Sz (2*k) (x*y):=by
 have e:x*y=At (x.num*y.num) (x.den*y.den):=by rw[←Rat.divInt_mul_divInt,As,As]
 have px:=den_pos x;have py:=den_pos y;rw[e,Nat.two_mul];refine Sz.divInt (Int.mul_pos px py) ?_ ?_
 ·rw[Al,Ar];exact Aq hx.1 hy.1
 ·rw[Al,Ar,Ah,Ah];exact Aq hx.2 hy.2
theorem NS {y:Rat} (h:0<y):0<y.num:=by
 have h1:0≤y.num:=Rat.num_nonneg.2 (Rat.le_of_lt h);have h2:y.num≠0:=fun h0=>by rw[Rat.num_eq_zero.1 h0]at h;exact Rat.lt_irrefl h
 omega
theorem Sz.int {n:Int} {k:Nat} (h:n.natAbs≤10^k):Sz k (n:Rat):=by
 refine⟨by rw[Rat.num_intCast];exact h,by rw[Rat.den_intCast];exact Nat.pow_pos (by omega)⟩
theorem ZK (x:Rat):0≤x*x:=by
 rcases Rat.le_total (a:=0) (b:=x)with h|h
 ·exact Au h h
 ·have h2:0≤ -x:=by grind
  have:=Au h2 h2
  grind
end Eng
end

section
namespace Eng
open Go Go.Proofs
set_option maxRecDepth 100000
theorem y4:∀{l:List Nat},jv (raw l)=true↔(l=[]∨l.getLast?≠some 0)
 |[]=>by simp[raw,jv]
 |[x]=>by simp only[raw,List.map_cons,List.map_nil,jv,Nk,Ak];rw[Nat.blt_eq];simp;omega
 |x::y::l=>by have h2:jv (raw (x::y::l))=jv (raw (y::l)):=rfl;rw[h2,y4,List.getLast?_cons_cons];simp
theorem Yk {l:List Nat}:wz (raw l)=true↔Limbs l:=by
 constructor
 ·intro h;obtain⟨e1,e2,_⟩:=ki h;rw[Zv e1];exact e2
 ·exact kA
theorem y5 {p:Bool} {l:List Nat}:okZ p (raw l)=true↔Limbs l∧(l=[]∨l.getLast?≠some 0)∧(l=[]→p=false):=by
 unfold okZ;rw[Ab,Ab,Yk,y4];refine and_congr Iff.rfl (and_congr Iff.rfl ?_);cases l with
 |nil=>simp[raw]
 |cons x l=>simp[raw]
theorem Kk {l:List Nat} (hl:Limbs l):(lim (val l)).length=l.length↔(l=[]∨l.getLast?≠some 0):=by
 constructor
 ·intro h;have e:=Ww (qc _) hl h (qj _);have h2:=zl (val l);rw[e]at h2;exact h2
 ·intro h;rw[jX hl h]
theorem ZL {p:Bool} {l:List Nat} (hr:l.length≤1073741824):qe CC 200 [.ag [.bool p,.sl (raw l)]] [.c (.bool (okZ p (raw l)))]:=by
 refine qf (anns:=fun _=>⟨[.slot 3 (.int .i64 0)],[],fun _ ds=>∃k:Nat,k≤l.length∧ds=[.int .i64 (k:Int)]∧Limbs (l.take k),fun ds=>(l.length-toI (nth .undef ds 0)).toNat⟩) mixedT Tryz.func200 ?_;rw[G8];simp only[Int.ofNat_eq_natCast,qh];refine⟨⟨0,by omega,rfl,by simpa using Limbs.nil⟩,?_⟩;rintro n ⟨k,hk,he,hl⟩;simp only[List.cons.injEq,D.int.injEq,true_and,and_true]at he;subst he;refine brd (fun h=>?_) (fun h=>?_)
 ·have a0:k<l.length:=by omega
  rw[Ak];refine⟨⟨by omega,by omega,qt a0⟩,_,qu a0,brd (fun h2=>?_) (fun h2=>?_)⟩
  ·have:okZ p (raw l)=false:=by rw[←Aa,y5];rintro⟨h3,_⟩;have:=h3.get a0;omega
   rw[this]
  ·have hw:IntKind.wrap .i64 ((k:Int)+1)=((k+1:Nat):Int):=by rw[xL (by omega) (by omega)];omega
   rw[hw];refine⟨⟨k+1,by omega,rfl,?_⟩,by simp only[nth,toI];omega⟩;rw[List.take_succ_eq_append_getElem a0];exact hl.append (Limbs.cons (by omega) Limbs.nil)
 ·have a0:k=l.length:=by omega
  subst a0;rw[List.take_length]at hl;have ht:=zT hl hr;have a1:=Kk hl;have ho:=y5 (p:=p) (l:=l);refine⟨_,ht,?_⟩;rw[qh];have e:((((lim (val l)).length:Nat):Int)==((l.length:Nat):Int))=decide ((lim (val l)).length=l.length):=by rw[Ac];simp only[beq_iff_eq,decide_eq_true_eq];omega
  rw[e];refine brd (fun h2=>?_) (fun h2=>?_)
  ·have h3:=a1.1 h2;cases p with
   |false=>have:okZ false (raw l)=true:=ho.2 ⟨hl,h3,fun _=>rfl⟩;rw[this];rfl
   |true=>
    have:okZ true (raw l)=decide (((l.length:Nat):Int)>0):=by
     rw[Ac,ho,decide_eq_true_eq];constructor
     ·rintro⟨_,_,h5⟩;rcases Nat.eq_zero_or_pos l.length with h6|h6
      ·exact absurd (h5 (List.eq_nil_of_length_eq_zero h6)) (by simp)
      ·omega
     ·intro h5;exact⟨hl,h3,fun e=>by subst e;simp at h5⟩
    rw[this];rfl
  ·have:okZ p (raw l)=false:=by rw[←Aa,ho];rintro⟨_,h5,_⟩;exact h2 (a1.2 h5)
   rw[this]
def okQ (p:Bool) (l:List Nat) (q:Bool) (m:List Nat):Bool:=
 okZ p (raw l)&&(okZ q (raw m)&&(decide (0<jA q (raw m))&&(Nat.gcd (jA p (raw l)).natAbs (jA q (raw m)).natAbs==1)))
theorem XD {p:Bool} {l:List Nat} (h:okZ p (raw l)=true):qH (jA p (raw l))= .ag [.bool p,.sl (raw l)]:=by
 unfold qH;rw[yb h]
theorem WC (p:Bool) (l:List Nat):(jA p (raw l)).natAbs=val l:=by
 unfold jA;rw[jD];cases p
 ·simp
 ·simp
theorem ZM {p:Bool} {l:List Nat} (h:okZ p (raw l)=true) (hl:l.length≤6):(jA p (raw l)).natAbs<10^54:=by
 rw[WC];have h1:=qG (y5.1 h).1;have h2:1000000000^l.length≤1000000000^6:=An (by omega) hl;omega
theorem Ro {x a b k:Nat} (h:k=a*b):x^k=(x^a)^b:=by rw[h,Nat.pow_mul]
theorem XE {p:Bool} {l:List Nat} (h:okZ p (raw l)=true) (hl:l.length≤400):Sq (jA p (raw l)):=by
 unfold Sq;rw[WC];have h1:=qG (y5.1 h).1;obtain⟨k,hk⟩:∃k,k=100*4:=⟨_,rfl⟩;have h2:1000000000^l.length≤1000000000^k:=An (by omega) (by omega);have h3:1000000000^k=kN:=by rw[Ro hk];rfl
 rw[←h3];exact Nat.lt_of_lt_of_le h1 h2
theorem Kl {z:Int}:sgn z=1↔0<z:=by unfold sgn;split<;>(try split)<;>omega
structure Rw where
 p:Bool
 l:List Nat
 q:Bool
 m:List Nat
def Rw.cs (x:Rw):List D:=[.bool x.p,.sl (raw x.l),.bool x.q,.sl (raw x.m)]
def Rw.ok (x:Rw):Bool:=okQ x.p x.l x.q x.m
def Rw.few (x:Rw):Prop:=x.l.length≤6∧x.m.length≤6
end Eng
end
