/- A table of known results with the document's numbers too. -/
import Derived.Test.YtbehlcfelmbmlaaGreatDoorTabA
import Derived.Test.YtbehlcfelmbmlaaGreatDoorRefC
import Derived.Test.YtbehlcfelmbmlaaGreatDoorRefB
import Derived.Test.YtbehlcfelmbmlaaGreatDoorEngG
open Nat renaming eq_of_beq_eq_true→Aw, beq→Bx
open Option.some renaming injEq→Dd
open Rat renaming num_divInt_den→F0, divInt→F2, divInt_add_divInt→Gv, neg_num→Hu
section
namespace Eng
open Go Go.Proofs
set_option maxRecDepth 1000000
theorem tmul (x y:Rat):R0 (x.num*y.num) (x.den*y.den)=xk (x*y):=by
 rw[Xl (Int.mul_pos (den_pos x) (den_pos y))];have e:x*y=F2 (x.num*y.num) (x.den*y.den):=by rw[←Rat.divInt_mul_divInt,F0,F0]
 rw[←e]
theorem tadd (x y:Rat):R0 (x.num*y.den+y.num*x.den) (x.den*y.den)=xk (x+y):=by
 have px:=den_pos x;have py:=den_pos y;rw[Xl (Int.mul_pos px py)];have e:x+y=F2 (x.num*y.den+y.num*x.den) (x.den*y.den):=by rw[←Gv _ _ (by omega) (by omega),F0,F0]
 rw[←e]
theorem tsub (x y:Rat):R0 (x.num*y.den+(-y.num)*x.den) (x.den*y.den)=xk (x-y):=by
 have px:=den_pos x;have py:=den_pos y;rw[Xl (Int.mul_pos px py)];have e:x-y=F2 (x.num*y.den+(-y.num)*x.den) (x.den*y.den):=by
  rw[Rat.sub_eq_add_neg,←Gv _ _ (by omega) (by omega),F0];have:F2 (-y.num) y.den= -y:=by rw[←Hu];exact F0 (-y)
  rw[this]
 rw[←e]
theorem tneg (x:Rat):A.ag (cI (-x.num)++cI x.den)=xk (-x):=by
 unfold xk cR;rw[Hu];rfl
def sgZ (a:Int):Int:=match decide (a<0)with|true=> -1|false=>match decide (0<a)with|true=>1|false=>0
theorem PQ (a:Int):sgZ a=sgn a:=by
 unfold sgZ sgn;by_cases h:a<0
 ·rw[decide_eq_true h,if_pos h]
 ·rw[decide_eq_false h,if_neg h];by_cases h2:0<a
  ·rw[decide_eq_true h2];simp;omega
  ·rw[decide_eq_false h2];simp;omega
def F8 (al:List A):Option Rat:=match al with
 |[a]=>rdR a
 |_=>none
theorem Vp {al:List A} {x:Rat} (h:F8 al=some x):al=[xk x]∧Sr x:=by
 unfold F8 at h;split at h
 ·rw[(Wg h).1];exact⟨rfl,(Wg h).2⟩
 ·simp at h
def IW (al:List A):Option Int:=match al with
 |[a]=>rdI a
 |_=>none
theorem ER {al:List A} {x:Int} (h:IW al=some x):al=[qJ x]:=by
 unfold IW at h;split at h
 ·rw[PP h]
 ·simp at h
def IX (f:Nat) (al:List A):Option (List A):=
 match f with
 |103=>match Rz al with|some (x,y)=>some [R0 (x.num*y.num) (x.den*y.den)]|none=>none
 |272=>match Rz al with|some (x,y)=>some [R0 (x.num*y.den+y.num*x.den) (x.den*y.den)]|none=>none
 |198=>match Rz al with|some (x,y)=>some [R0 (x.num*y.den+(-y.num)*x.den) (x.den*y.den)]|none=>none
 |171=>match Rz al with|some (x,y)=>some [.c (.int .i64 (F7 (x.num*y.den) (y.num*x.den)))]|none=>none
 |172=>match F8 al with|some x=>some [.ag (cI (-x.num)++cI x.den)]|none=>none
 |181=>match F8 al with|some x=>some [.ag (cI (-x.num)++cI x.den)]|none=>none
 |92=>match F8 al with|some x=>some [.c (.int .i64 (sgZ x.num))]|none=>none
 |148=>match F8 al with|some x=>some [.c (.int .i64 (sgZ x.num))]|none=>none
 |27=>match al with
  |[.c (.int .i64 n)]=>match decide (-9223372036854775808≤n)&&decide (n<9223372036854775808)with
   |true=>some [.ag (cI n++cI 1)]
   |false=>none
  |_=>none
 |193=>match Tg al with|some (x,y)=>some [qJ (x*y)]|none=>none
 |314=>match Tg al with|some (x,y)=>some [qJ (x+y)]|none=>none
 |313=>match Tg al with|some (x,y)=>some [qJ (x-y)]|none=>none
 |263=>match Tg al with|some (x,y)=>some [.c (.int .i64 (F7 x y))]|none=>none
 |201=>match Tg al with|some (x,y)=>some [qJ (Nat.gcd x.natAbs y.natAbs:Nat)]|none=>none
 |240=>match Tg al with
  |some (x,y)=>match decide (0<y)with
   |true=>some [qJ (x/y),qJ (x%y),.c (.int .i64 0)]
   |false=>none
  |none=>none
 |137=>match Tg al with
  |some (x,y)=>match decide (0<y)with
   |true=>some [qJ (x/y),qJ (x%y),.c (.int .i64 0)]
   |false=>none
  |none=>none
 |173=>match IW al with|some x=>some [.c (.int .i64 (sgZ x))]|none=>none
 |69=>match al with|[]=>some [qJ 1]|_=>none
 |68=>match al with
  |[.c (.int .i64 n)]=>match decide (-9223372036854775808≤n)&&decide (n<9223372036854775808)with
   |true=>some [qJ n]
   |false=>none
  |_=>none
 |_=>IV f al
theorem PR (f:Nat) (al rs:List A) (h:IX f al=some rs):qf CC f al rs:=by
 unfold IX at h;split at h
 ·split at h
  ·rename_i x y h1;obtain⟨rfl,hx,hy⟩:=vk h1;simp only[Dd]at h;subst h;rw[tmul];exact Xk zN hx hy
  ·simp at h
 ·split at h
  ·rename_i x y h1;obtain⟨rfl,hx,hy⟩:=vk h1;simp only[Dd]at h;subst h;rw[tadd];exact PN zN hx hy
  ·simp at h
 ·split at h
  ·rename_i x y h1;obtain⟨rfl,hx,hy⟩:=vk h1;simp only[Dd]at h;subst h;rw[tsub];exact EL zN hx hy
  ·simp at h
 ·split at h
  ·rename_i x y h1;obtain⟨rfl,hx,hy⟩:=vk h1;simp only[Dd]at h;subst h;rw[Vo,←JC];exact HF hx hy
  ·simp at h
 ·split at h
  ·rename_i x h1;obtain⟨rfl,hx⟩:=Vp h1;simp only[Dd]at h;subst h;rw[tneg];exact HE hx
  ·simp at h
 ·split at h
  ·rename_i x h1;obtain⟨rfl,hx⟩:=Vp h1;simp only[Dd]at h;subst h;rw[tneg];exact HA hx
  ·simp at h
 ·split at h
  ·rename_i x h1;obtain⟨rfl,hx⟩:=Vp h1;simp only[Dd]at h;subst h;rw[PQ];exact Td x
  ·simp at h
 ·split at h
  ·rename_i x h1;obtain⟨rfl,hx⟩:=Vp h1;simp only[Dd]at h;subst h;rw[PQ];exact XY x
  ·simp at h
 ·split at h
  ·split at h
   ·rename_i hb;simp only[Dd]at h;subst h;simp only[Bool.and_eq_true,decide_eq_true_eq]at hb;have g:=zM hb.1 hb.2;unfold xk cR at g;rw[Rat.num_intCast,Rat.den_intCast]at g;exact g
   ·simp at h
  ·simp at h
 ·split at h
  ·rename_i x y h1;obtain⟨rfl,hx,hy⟩:=jw h1;simp only[Dd]at h;subst h;exact ju hx hy
  ·simp at h
 ·split at h
  ·rename_i x y h1;obtain⟨rfl,hx,hy⟩:=jw h1;simp only[Dd]at h;subst h;exact Vm hx hy
  ·simp at h
 ·split at h
  ·rename_i x y h1;obtain⟨rfl,hx,hy⟩:=jw h1;simp only[Dd]at h;subst h;exact PM hx hy
  ·simp at h
 ·split at h
  ·rename_i x y h1;obtain⟨rfl,hx,hy⟩:=jw h1;simp only[Dd]at h;subst h;rw[Vo];exact Vk hx hy
  ·simp at h
 ·split at h
  ·rename_i x y h1;obtain⟨rfl,hx,hy⟩:=jw h1;simp only[Dd]at h;subst h;exact HD zN hx hy
  ·simp at h
 ·split at h
  ·rename_i x y h1;obtain⟨rfl,hx,hy⟩:=jw h1;split at h
   ·rename_i h2;simp only[Dd]at h;subst h;exact vK zN hx hy (of_decide_eq_true h2)
   ·simp at h
  ·simp at h
 ·split at h
  ·rename_i x y h1;obtain⟨rfl,hx,hy⟩:=jw h1;split at h
   ·rename_i h2;simp only[Dd]at h;subst h;exact QF XC hx hy (of_decide_eq_true h2)
   ·simp at h
  ·simp at h
 ·split at h
  ·rename_i x h1;obtain rfl:=ER h1;simp only[Dd]at h;subst h;rw[PQ];exact Q0 x
  ·simp at h
 ·split at h
  ·simp only[Dd]at h;subst h;exact XZ
  ·simp at h
 ·split at h
  ·split at h
   ·rename_i hb;simp only[Dd]at h;subst h;simp only[Bool.and_eq_true,decide_eq_true_eq]at hb;exact xv hb.1 hb.2
   ·simp at h
  ·simp at h
 ·exact EQ f al rs h
end Eng
end

section
namespace Eng
open Go Go.Proofs
def W (acc w:Nat):Nat:=acc*4722366482869645213696+w
def IY:IntKind→Nat
 | .u8=>0| .u16=>1| .u32=>2| .u64=>3| .i8=>4| .i16=>5| .i32=>6| .i64=>7
def AI (acc:Nat):Int→Nat
 | .ofNat n=>W (W acc 0) n
 | .negSucc n=>W (W acc 1) n
def ES {α:Type} (e:Nat→α→Nat) (acc:Nat) (l:List α):Nat:=l.foldl e (W acc l.length)
def AJ:Nat→Nat→D→Nat
 |0,acc,_=>W acc 99
 |_+1,acc,.undef=>W acc 0
 |_+1,acc,.bool b=>W (W acc 1) (match b with|true=>1|false=>0)
 |_+1,acc,.int k n=>AI (W (W acc 2) (IY k)) n
 |_+1,acc,.str s=>ES (fun a (b:UInt8)=>W a b.toNat) (W acc 3) s
 |n+1,acc,.sl es=>ES (ES (AJ n)) (W acc 4) es
 |_+1,acc,.ifc b=>W (W acc 5) (match b with|true=>1|false=>0)
 |_+1,acc,.nilP=>W acc 6
 |_+1,acc,.fn f=>W (W acc 7) f
 |n+1,acc,.ptr cs=>ES (AJ n) (W acc 8) cs
 |n+1,acc,.clo f ps=>ES (AJ n) (W (W acc 9) f) ps
def encA (acc:Nat):A→Nat
 | .c d=>AJ 20 (W acc 0) d
 | .ag cs=>ES (AJ 20) (W acc 1) cs
def keyA (al:List A):Nat:=ES encA (W 1 2) al%2305843009213693951
abbrev zi:=Nat×Nat×List A×List A
def HI (f key:Nat) (al:List A):List zi→Option (List A)
 |[]=>none
 |(f0,k0,al0,rs0)::r=>match Bx f f0 with
  |true=>match Bx key k0 with
   |true=>match eqL eqA al al0 with
    |true=>some rs0
    |false=>HI f key al r
   |false=>HI f key al r
  |false=>HI f key al r
def ET (C:Cx):List zi→Prop
 |[]=>True
 |(f0,_,al0,rs0)::r=>qf C f0 al0 rs0∧ET C r
def hasF (f:Nat):List zi→Bool
 |[]=>false
 |(f0,_)::r=>match Bx f f0 with
  |true=>true
  |false=>hasF f r
def IZ (ents:List zi) (tab:Nat→List A→Option (List A)) (f:Nat) (al:List A):Option (List A):=
 match hasF f ents with
 |true=>match keyA al with
  |0=>tab f al
  |k+1=>match HI f (k+1) al ents with
   |some rs=>some rs
   |none=>tab f al
 |false=>tab f al
theorem Zb {C:Cx} {f key:Nat} {al rs:List A}:∀{ents:List zi},ET C ents→HI f key al ents=some rs→qf C f al rs
 |[],_,h=>by simp[HI]at h
 |(f0,k0,al0,rs0)::r,hg,h=>by
  obtain⟨h1,h2⟩:=hg;unfold HI at h;split at h
  ·rename_i hf;split at h
   ·split at h
    ·rename_i ha;obtain rfl:=Aw hf;obtain rfl:=jl Th ha;simp only[Dd]at h;subst h;exact h1
    ·exact Zb h2 h
   ·exact Zb h2 h
  ·exact Zb h2 h
theorem EU {C:Cx} {ents:List zi} {tab:Nat→List A→Option (List A)} (h0:ET C ents) (h:∀f al rs,tab f al=some rs→qf C f al rs) (f:Nat) (al rs:List A) (hh:IZ ents tab f al=some rs):qf C f al rs:=by
 unfold IZ at hh;split at hh
 ·split at hh
  ·exact h _ _ _ hh
  ·split at hh
   ·rename_i rs' hf;simp only[Dd]at hh;subst hh;exact Zb h0 hf
   ·exact h _ _ _ hh
 ·exact h _ _ _ hh
end Eng
end

section
namespace Eng
open Go Go.Proofs
set_option maxRecDepth 100000
abbrev Vq:=Option Nat→List V→List Obj→R
def aa (t:TypeId) (d:Option Nat):Bool:=
 match FG t d with
 |true=>true
 |false=>match d with
  |some d=>(Bx t 242&&Bx d 38)||((Bx t 43&&Bx d 85)||(Bx t 43&&Bx d 109))||(Bx t 25&&Bx d 61)||(Bx t 130&&Bx d 19)
  |none=>false
def PS (f:Nat):List (Nat×Vq)→Option Vq
 |[]=>none
 |(g,e)::r=>match Bx f g with
  |true=>some e
  |false=>PS f r
def ab (ex:List (Nat×Vq)) (f:Nat):Option Vq:=
 match PS f ex with
 |some e=>some e
 |none=>FH zp jA f
noncomputable def CX (ex:List (Nat×Vq)):Cx:=⟨Tryz.prog,AA,fun t=>Bx t 76,ab ex,aa,fun f=>Bx f 63||Bx f 64⟩
def ac (C:Cx):List (Nat×Vq)→Prop
 |[]=>True
 |(f,e)::r=>EffAt C f e∧ac C r
theorem Ti {C:Cx} {f:Nat} {e:Vq}:∀{ex:List (Nat×Vq)},ac C ex→PS f ex=some e→EffAt C f e
 |[],_,h=>by simp[PS]at h
 |(g,e0)::r,ha,h=>by
  obtain⟨h1,h2⟩:=ha;unfold PS at h;split at h
  ·rename_i hb;obtain rfl:=Aw hb;simp only[Dd]at h;subst h;exact h1
  ·exact Ti h2 h
theorem JE {ex:List (Nat×Vq)} (ha:ac (CX ex) ex) (f:Nat) (e:Vq) (h:(CX ex).eff f=some e):EffAt (CX ex) f e:=by
 replace h:ab ex f=some e:=h;unfold ab at h;split at h
 ·rename_i e' he;simp only[Dd]at h;subst h;exact Ti ha he
 unfold FH at h;split at h
 ·rename_i e' he;simp only[Dd]at h;subst h;exact Yz (C:=CX ex) bldK he
 ·split at h
  ·rename_i hb;obtain rfl:=Aw hb;simp only[Dd]at h;subst h;exact Y1 BV
  ·split at h
   ·rename_i hb;obtain rfl:=Aw hb;simp only[Dd]at h;subst h;exact Y2 BW
   ·split at h
    ·rename_i hb;obtain rfl:=Aw hb;simp only[Dd]at h;subst h;exact Y5 (C:=CX ex) Im
    ·split at h
     ·rename_i hb;obtain rfl:=Aw hb;simp only[Dd]at h;subst h;exact Y6 (C:=CX ex) Im
     ·split at h
      ·rename_i hb;obtain rfl:=Aw hb;simp only[Dd]at h;subst h;exact Ke (C:=CX ex) Tryz.func190 (by simp[Tryz.f190]) (by decide) fun al hc=>Jk (C:=C0) (C':=CX ex) rfl rfl (V7 al hc)
      ·simp at h
theorem upX {ex:List (Nat×Vq)} {f:Nat} {al rs:List A} (h:qf CC f al rs):qf (CX ex) f al rs:=vC rfl rfl h
def AK {α:Type}:Option α→Bool
 |some _=>true
 |none=>false
noncomputable def CB:Cx:=CX []
instance:EffOk CB:=jL (JE trivial)
end Eng
end
