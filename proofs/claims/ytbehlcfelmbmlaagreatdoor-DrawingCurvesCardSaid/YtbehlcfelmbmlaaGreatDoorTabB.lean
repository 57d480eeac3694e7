/- A table of known results with the document's numbers too. -/
import Derived.Test.YtbehlcfelmbmlaaGreatDoorTabA
import Derived.Test.YtbehlcfelmbmlaaGreatDoorRefC
import Derived.Test.YtbehlcfelmbmlaaGreatDoorRefB
import Derived.Test.YtbehlcfelmbmlaaGreatDoorEngG
open Nat renaming eq_of_beq_eq_true→Aa, beq→Ab
open Option.some renaming injEq→Ac
open Rat renaming num_divInt_den→Ad, divInt→Ae, divInt_add_divInt→Af, neg_num→Ah
section
namespace Eng
open Go Go.Proofs
set_option maxRecDepth 1000000
theorem tmul (x y:Rat):T3 (x.num*y.num) (x.den*y.den)=qC (x*y):=by
 rw[vM (Int.mul_pos (den_pos x) (den_pos y))];have e:x*y=Ae (x.num*y.num) (x.den*y.den):=by rw[←Rat.divInt_mul_divInt,Ad,Ad]
 rw[←e]
theorem tadd (x y:Rat):T3 (x.num*y.den+y.num*x.den) (x.den*y.den)=qC (x+y):=by
 have px:=den_pos x;have py:=den_pos y;rw[vM (Int.mul_pos px py)];have e:x+y=Ae (x.num*y.den+y.num*x.den) (x.den*y.den):=by rw[←Af _ _ (by omega) (by omega),Ad,Ad]
 rw[←e]
theorem tsub (x y:Rat):T3 (x.num*y.den+(-y.num)*x.den) (x.den*y.den)=qC (x-y):=by
 have px:=den_pos x;have py:=den_pos y;rw[vM (Int.mul_pos px py)];have e:x-y=Ae (x.num*y.den+(-y.num)*x.den) (x.den*y.den):=by
  rw[Rat.sub_eq_add_neg,←Af _ _ (by omega) (by omega),Ad];have:Ae (-y.num) y.den= -y:=by rw[←Ah];exact Ad (-y)
  rw[this]
 rw[←e]
theorem tneg (x:Rat):A.ag (cI (-x.num)++cI x.den)=qC (-x):=by
 unfold qC cR;rw[Ah];rfl
def sgZ (a:Int):Int:=match decide (a<0)with|true=> -1|false=>match decide (0<a)with|true=>1|false=>0
theorem Tf (a:Int):sgZ a=sgn a:=by
 unfold sgZ sgn;by_cases h:a<0
 ·rw[decide_eq_true h,if_pos h]
 ·rw[decide_eq_false h,if_neg h];by_cases h2:0<a
  ·rw[decide_eq_true h2];simp;omega
  ·rw[decide_eq_false h2];simp;omega
def Rj (al:List A):Option Rat:=match al with
 |[a]=>rdR a
 |_=>none
theorem Z9 {al:List A} {x:Rat} (h:Rj al=some x):al=[qC x]∧Sr x:=by
 unfold Rj at h;split at h
 ·rw[(X9 h).1];exact⟨rfl,(X9 h).2⟩
 ·simp at h
def BI (al:List A):Option Int:=match al with
 |[a]=>rdI a
 |_=>none
theorem PH {al:List A} {x:Int} (h:BI al=some x):al=[qH x]:=by
 unfold BI at h;split at h
 ·rw[Te h]
 ·simp at h
def BJ (f:Nat) (al:List A):Option (List A):=
 match f with
 |103=>match T2 al with|some (x,y)=>some [T3 (x.num*y.num) (x.den*y.den)]|none=>none
 |272=>match T2 al with|some (x,y)=>some [T3 (x.num*y.den+y.num*x.den) (x.den*y.den)]|none=>none
 |198=>match T2 al with|some (x,y)=>some [T3 (x.num*y.den+(-y.num)*x.den) (x.den*y.den)]|none=>none
 |171=>match T2 al with|some (x,y)=>some [.c (.int .i64 (Ri (x.num*y.den) (y.num*x.den)))]|none=>none
 |172=>match Rj al with|some x=>some [.ag (cI (-x.num)++cI x.den)]|none=>none
 |181=>match Rj al with|some x=>some [.ag (cI (-x.num)++cI x.den)]|none=>none
 |92=>match Rj al with|some x=>some [.c (.int .i64 (sgZ x.num))]|none=>none
 |148=>match Rj al with|some x=>some [.c (.int .i64 (sgZ x.num))]|none=>none
 |27=>match al with
  |[.c (.int .i64 n)]=>match decide (-9223372036854775808≤n)&&decide (n<9223372036854775808)with
   |true=>some [.ag (cI n++cI 1)]
   |false=>none
  |_=>none
 |193=>match Ya al with|some (x,y)=>some [qH (x*y)]|none=>none
 |314=>match Ya al with|some (x,y)=>some [qH (x+y)]|none=>none
 |313=>match Ya al with|some (x,y)=>some [qH (x-y)]|none=>none
 |263=>match Ya al with|some (x,y)=>some [.c (.int .i64 (Ri x y))]|none=>none
 |201=>match Ya al with|some (x,y)=>some [qH (Nat.gcd x.natAbs y.natAbs:Nat)]|none=>none
 |240=>match Ya al with
  |some (x,y)=>match decide (0<y)with
   |true=>some [qH (x/y),qH (x%y),.c (.int .i64 0)]
   |false=>none
  |none=>none
 |137=>match Ya al with
  |some (x,y)=>match decide (0<y)with
   |true=>some [qH (x/y),qH (x%y),.c (.int .i64 0)]
   |false=>none
  |none=>none
 |173=>match BI al with|some x=>some [.c (.int .i64 (sgZ x))]|none=>none
 |69=>match al with|[]=>some [qH 1]|_=>none
 |68=>match al with
  |[.c (.int .i64 n)]=>match decide (-9223372036854775808≤n)&&decide (n<9223372036854775808)with
   |true=>some [qH n]
   |false=>none
  |_=>none
 |_=>BH f al
theorem PI (f:Nat) (al rs:List A) (h:BJ f al=some rs):qe CC f al rs:=by
 unfold BJ at h;split at h
 ·split at h
  ·rename_i x y h1;obtain⟨rfl,hx,hy⟩:=k9 h1;simp only[Ac]at h;subst h;rw[tmul];exact zL zz hx hy
  ·simp at h
 ·split at h
  ·rename_i x y h1;obtain⟨rfl,hx,hy⟩:=k9 h1;simp only[Ac]at h;subst h;rw[tadd];exact kb zz hx hy
  ·simp at h
 ·split at h
  ·rename_i x y h1;obtain⟨rfl,hx,hy⟩:=k9 h1;simp only[Ac]at h;subst h;rw[tsub];exact wx zz hx hy
  ·simp at h
 ·split at h
  ·rename_i x y h1;obtain⟨rfl,hx,hy⟩:=k9 h1;simp only[Ac]at h;subst h;rw[Z8,←QB];exact QE hx hy
  ·simp at h
 ·split at h
  ·rename_i x h1;obtain⟨rfl,hx⟩:=Z9 h1;simp only[Ac]at h;subst h;rw[tneg];exact k7 hx
  ·simp at h
 ·split at h
  ·rename_i x h1;obtain⟨rfl,hx⟩:=Z9 h1;simp only[Ac]at h;subst h;rw[tneg];exact Wy hx
  ·simp at h
 ·split at h
  ·rename_i x h1;obtain⟨rfl,hx⟩:=Z9 h1;simp only[Ac]at h;subst h;rw[Tf];exact qR x
  ·simp at h
 ·split at h
  ·rename_i x h1;obtain⟨rfl,hx⟩:=Z9 h1;simp only[Ac]at h;subst h;rw[Tf];exact zS x
  ·simp at h
 ·split at h
  ·split at h
   ·rename_i hb;simp only[Ac]at h;subst h;simp only[Bool.and_eq_true,decide_eq_true_eq]at hb;have g:=xM hb.1 hb.2;unfold qC cR at g;rw[Rat.num_intCast,Rat.den_intCast]at g;exact g
   ·simp at h
  ·simp at h
 ·split at h
  ·rename_i x y h1;obtain⟨rfl,hx,hy⟩:=zM h1;simp only[Ac]at h;subst h;exact zy hx hy
  ·simp at h
 ·split at h
  ·rename_i x y h1;obtain⟨rfl,hx,hy⟩:=zM h1;simp only[Ac]at h;subst h;exact QD hx hy
  ·simp at h
 ·split at h
  ·rename_i x y h1;obtain⟨rfl,hx,hy⟩:=zM h1;simp only[Ac]at h;subst h;exact Tc hx hy
  ·simp at h
 ·split at h
  ·rename_i x y h1;obtain⟨rfl,hx,hy⟩:=zM h1;simp only[Ac]at h;subst h;rw[Z8];exact W3 hx hy
  ·simp at h
 ·split at h
  ·rename_i x y h1;obtain⟨rfl,hx,hy⟩:=zM h1;simp only[Ac]at h;subst h;exact W5 zz hx hy
  ·simp at h
 ·split at h
  ·rename_i x y h1;obtain⟨rfl,hx,hy⟩:=zM h1;split at h
   ·rename_i h2;simp only[Ac]at h;subst h;exact j9 zz hx hy (of_decide_eq_true h2)
   ·simp at h
  ·simp at h
 ·split at h
  ·rename_i x y h1;obtain⟨rfl,hx,hy⟩:=zM h1;split at h
   ·rename_i h2;simp only[Ac]at h;subst h;exact kB Yu hx hy (of_decide_eq_true h2)
   ·simp at h
  ·simp at h
 ·split at h
  ·rename_i x h1;obtain rfl:=PH h1;simp only[Ac]at h;subst h;rw[Tf];exact vd x
  ·simp at h
 ·split at h
  ·simp only[Ac]at h;subst h;exact Z7
  ·simp at h
 ·split at h
  ·split at h
   ·rename_i hb;simp only[Ac]at h;subst h;simp only[Bool.and_eq_true,decide_eq_true_eq]at hb;exact xn hb.1 hb.2
   ·simp at h
  ·simp at h
 ·exact PG f al rs h
end Eng
end

section
namespace Eng
open Go Go.Proofs
def W (acc w:Nat):Nat:=acc*4722366482869645213696+w
def BK:IntKind→Nat
 | .u8=>0| .u16=>1| .u32=>2| .u64=>3| .i8=>4| .i16=>5| .i32=>6| .i64=>7
def S4 (acc:Nat):Int→Nat
 | .ofNat n=>W (W acc 0) n
 | .negSucc n=>W (W acc 1) n
def PJ {α:Type} (e:Nat→α→Nat) (acc:Nat) (l:List α):Nat:=l.foldl e (W acc l.length)
def S5:Nat→Nat→D→Nat
 |0,acc,_=>W acc 99
 |_+1,acc,.undef=>W acc 0
 |_+1,acc,.bool b=>W (W acc 1) (match b with|true=>1|false=>0)
 |_+1,acc,.int k n=>S4 (W (W acc 2) (BK k)) n
 |_+1,acc,.str s=>PJ (fun a (b:UInt8)=>W a b.toNat) (W acc 3) s
 |n+1,acc,.sl es=>PJ (PJ (S5 n)) (W acc 4) es
 |_+1,acc,.ifc b=>W (W acc 5) (match b with|true=>1|false=>0)
 |_+1,acc,.nilP=>W acc 6
 |_+1,acc,.fn f=>W (W acc 7) f
 |n+1,acc,.ptr cs=>PJ (S5 n) (W acc 8) cs
 |n+1,acc,.clo f ps=>PJ (S5 n) (W (W acc 9) f) ps
def encA (acc:Nat):A→Nat
 | .c d=>S5 20 (W acc 0) d
 | .ag cs=>PJ (S5 20) (W acc 1) cs
def keyA (al:List A):Nat:=PJ encA (W 1 2) al%2305843009213693951
abbrev xN:=Nat×Nat×List A×List A
def W8 (f key:Nat) (al:List A):List xN→Option (List A)
 |[]=>none
 |(f0,k0,al0,rs0)::r=>match Ab f f0 with
  |true=>match Ab key k0 with
   |true=>match eqL eqA al al0 with
    |true=>some rs0
    |false=>W8 f key al r
   |false=>W8 f key al r
  |false=>W8 f key al r
def PK (C:Cx):List xN→Prop
 |[]=>True
 |(f0,_,al0,rs0)::r=>qe C f0 al0 rs0∧PK C r
def hasF (f:Nat):List xN→Bool
 |[]=>false
 |(f0,_)::r=>match Ab f f0 with
  |true=>true
  |false=>hasF f r
def BL (ents:List xN) (tab:Nat→List A→Option (List A)) (f:Nat) (al:List A):Option (List A):=
 match hasF f ents with
 |true=>match keyA al with
  |0=>tab f al
  |k+1=>match W8 f (k+1) al ents with
   |some rs=>some rs
   |none=>tab f al
 |false=>tab f al
theorem yz {C:Cx} {f key:Nat} {al rs:List A}:∀{ents:List xN},PK C ents→W8 f key al ents=some rs→qe C f al rs
 |[],_,h=>by simp[W8]at h
 |(f0,k0,al0,rs0)::r,hg,h=>by
  obtain⟨h1,h2⟩:=hg;unfold W8 at h;split at h
  ·rename_i hf;split at h
   ·split at h
    ·rename_i ha;obtain rfl:=Aa hf;obtain rfl:=zF Yb ha;simp only[Ac]at h;subst h;exact h1
    ·exact yz h2 h
   ·exact yz h2 h
  ·exact yz h2 h
theorem PL {C:Cx} {ents:List xN} {tab:Nat→List A→Option (List A)} (h0:PK C ents) (h:∀f al rs,tab f al=some rs→qe C f al rs) (f:Nat) (al rs:List A) (hh:BL ents tab f al=some rs):qe C f al rs:=by
 unfold BL at hh;split at hh
 ·split at hh
  ·exact h _ _ _ hh
  ·split at hh
   ·rename_i rs' hf;simp only[Ac]at hh;subst hh;exact yz h0 hf
   ·exact h _ _ _ hh
 ·exact h _ _ _ hh
end Eng
end

section
namespace Eng
open Go Go.Proofs
set_option maxRecDepth 100000
abbrev ZA:=Option Nat→List V→List Obj→R
def BM (t:TypeId) (d:Option Nat):Bool:=
 match Rq t d with
 |true=>true
 |false=>match d with
  |some d=>(Ab t 242&&Ab d 38)||((Ab t 43&&Ab d 85)||(Ab t 43&&Ab d 109))||(Ab t 25&&Ab d 61)||(Ab t 130&&Ab d 19)
  |none=>false
def Tg (f:Nat):List (Nat×ZA)→Option ZA
 |[]=>none
 |(g,e)::r=>match Ab f g with
  |true=>some e
  |false=>Tg f r
def BN (ex:List (Nat×ZA)) (f:Nat):Option ZA:=
 match Tg f ex with
 |some e=>some e
 |none=>Rr xT zV f
noncomputable def CX (ex:List (Nat×ZA)):Cx:=⟨Tryz.prog,Sv,fun t=>Ab t 76,BN ex,BM,fun f=>Ab f 63||Ab f 64⟩
def BO (C:Cx):List (Nat×ZA)→Prop
 |[]=>True
 |(f,e)::r=>EffAt C f e∧BO C r
theorem Yc {C:Cx} {f:Nat} {e:ZA}:∀{ex:List (Nat×ZA)},BO C ex→Tg f ex=some e→EffAt C f e
 |[],_,h=>by simp[Tg]at h
 |(g,e0)::r,ha,h=>by
  obtain⟨h1,h2⟩:=ha;unfold Tg at h;split at h
  ·rename_i hb;obtain rfl:=Aa hb;simp only[Ac]at h;subst h;exact h1
  ·exact Yc h2 h
theorem ZB {ex:List (Nat×ZA)} (ha:BO (CX ex) ex) (f:Nat) (e:ZA) (h:(CX ex).eff f=some e):EffAt (CX ex) f e:=by
 replace h:BN ex f=some e:=h;unfold BN at h;split at h
 ·rename_i e' he;simp only[Ac]at h;subst h;exact Yc ha he
 unfold Rr at h;split at h
 ·rename_i e' he;simp only[Ac]at h;subst h;exact Jy (C:=CX ex) bldK he
 ·split at h
  ·rename_i hb;obtain rfl:=Aa hb;simp only[Ac]at h;subst h;exact J0 Nl
  ·split at h
   ·rename_i hb;obtain rfl:=Aa hb;simp only[Ac]at h;subst h;exact J1 Nm
   ·split at h
    ·rename_i hb;obtain rfl:=Aa hb;simp only[Ac]at h;subst h;exact J6 (C:=CX ex) ST
    ·split at h
     ·rename_i hb;obtain rfl:=Aa hb;simp only[Ac]at h;subst h;exact J7 (C:=CX ex) ST
     ·split at h
      ·rename_i hb;obtain rfl:=Aa hb;simp only[Ac]at h;subst h;exact QU (C:=CX ex) Tryz.func190 (by simp[Tryz.f190]) (by decide) fun al hc=>Qw (C:=C0) (C':=CX ex) rfl rfl (ZN al hc)
      ·simp at h
theorem upX {ex:List (Nat×ZA)} {f:Nat} {al rs:List A} (h:qe CC f al rs):qe (CX ex) f al rs:=Zi rfl rfl h
def S6 {α:Type}:Option α→Bool
 |some _=>true
 |none=>false
noncomputable def CB:Cx:=CX []
instance:EffOk CB:=j7 (ZB trivial)
end Eng
end
