/- A table of known results for closed runs: the integers and rationals of the program, and the library's functions. -/
import Derived.Test.YtbehlcfelmbmlaaGreatDoorRatA
import Derived.Test.YtbehlcfelmbmlaaGreatDoorDivA
open Bool renaming and_eq_true→Aa
open Nat renaming eq_of_beq_eq_true→Ab, blt_eq→Ac, blt→Ad, gcd→Ae, beq→Af
open Option.some renaming injEq→Ah
open Rat renaming num_divInt_den→Ai, divInt→Aj, divInt_add_divInt→Ak
section
namespace Eng
open Go Go.Proofs
set_option maxRecDepth 1000000
def jv:List (List D)→Bool
 |[]=>true
 |[e]=>Ad 0 (Nk e)
 |_::r=>jv r
theorem X8:∀{l:List Nat},jv (raw l)=true→l=[]∨l.getLast?≠some 0
 |[],_=> .inl rfl
 |[x],h=> .inr (by
  simp only[raw,List.map_cons,List.map_nil,jv,Nk,Int.toNat_natCast]at h;rw[Ac]at h;simp;omega)
 |x::y::l,h=> .inr (by
  have h2:jv (raw (y::l))=true:=h;rcases X8 h2 with h3|h3
  ·simp at h3
  ·rw[List.getLast?_cons_cons];exact h3)
def jA (b:Bool) (es:List (List D)):Int:=match b with|true=> -(QJ es:Int)|false=>(QJ es:Int)
def okZ (b:Bool) (es:List (List D)):Bool:=wz es&&(jv es&&(match es with|[]=>!b|_=>true))
theorem yb {b:Bool} {es:List (List D)} (h:okZ b es=true):cI (jA b es)=[.bool b,.sl es]:=by
 unfold okZ at h;simp only[Aa]at h;obtain⟨h1,h2,h3⟩:=h;obtain⟨e1,e2,e3⟩:=ki h1;rw[e1]at h2;have hu:=jX e2 (X8 h2);rw[e3]at hu;have hn:(jA b es).natAbs=QJ es:=by
  unfold jA;cases b
  ·simp
  ·simp
 have hb:decide (jA b es<0)=b:=by
  cases b with
  |false=>unfold jA;exact decide_eq_false (by simp)
  |true=>
   unfold jA;refine decide_eq_true ?_;have:QJ es≠0:=by
    intro h0;rw[h0]at hu;have h4:QI es=[]:=by rw[←hu];rfl
    rw[h4]at e1;rw[e1]at h3;simp[raw]at h3
   show-(QJ es:Int)<0;omega
 unfold cI;rw[hn,hb,hu,←e1]
def rdI:A→Option Int
 | .ag [.bool b,.sl es]=>match okZ b es with
  |true=>some (jA b es)
  |false=>none
 |_=>none
theorem Te {a:A} {z:Int} (h:rdI a=some z):a=qH z:=by
 unfold rdI at h;split at h
 ·split at h
  ·rename_i hz;simp only[Ah]at h;subst h;unfold qH;rw[yb hz]
  ·simp at h
 ·simp at h
def PF (n:Int) (d:Nat):Option Rat:=
 if hd:d≠0 then if h:Ae n.natAbs d=1 then some ⟨n,d,hd,h⟩else none else none
theorem MU {n:Int} {d:Nat} {r:Rat} (h:PF n d=some r):r.num=n∧r.den=d:=by
 unfold PF at h;split at h
 ·split at h
  ·simp only[Ah]at h;subst h;exact⟨rfl,rfl⟩
  ·simp at h
 ·simp at h
def NJ (z:Int):Bool:=Ad z.natAbs kN
def rdR:A→Option Rat
 | .ag [.bool b,.sl es,.bool c,.sl fs]=>match okZ b es&&(okZ c fs&&(!c&&(NJ (jA b es)&&Ad (QJ fs) kN)))with
  |true=>PF (jA b es) (QJ fs)
  |false=>none
 |_=>none
theorem X9 {a:A} {r:Rat} (h:rdR a=some r):a=qC r∧Sr r:=by
 unfold rdR at h;split at h
 ·rename_i b es c fs;split at h
  ·rename_i hz;simp only[Aa,Bool.not_eq_true']at hz;obtain⟨h1,h2,rfl,h3,h4⟩:=hz;obtain⟨e1,e2⟩:=MU h;have hd:jA false fs=(r.den:Int):=by rw[e2];rfl
   refine⟨?_,?_,?_⟩
   ·unfold qC cR;rw[e1,yb h1,←hd,yb h2];rfl
   ·rw[e1];unfold NJ at h3;rw[Ac]at h3;exact h3
   ·rw[Ac]at h4;show((r.den:Int)).natAbs<kN;rw[Int.natAbs_natCast,e2];exact h4
  ·simp at h
 ·simp at h
def Ya (al:List A):Option (Int×Int):=match al with
 |[a,b]=>match rdI a,rdI b with
  |some x,some y=>match Ad x.natAbs X1&&Ad y.natAbs X1 with
   |true=>some (x,y)
   |false=>none
  |_,_=>none
 |_=>none
theorem zM {al:List A} {x y:Int} (h:Ya al=some (x,y)):al=[qH x,qH y]∧Sm x∧Sm y:=by
 unfold Ya at h;split at h
 ·split at h
  ·rename_i x' y' h1 h2;split at h
   ·rename_i h3;simp only[Ah,Prod.mk.injEq]at h;obtain⟨rfl,rfl⟩:=h;simp only[Aa,Ac]at h3;rw[Te h1,Te h2];exact⟨rfl,h3.1,h3.2⟩
   ·simp at h
  ·simp at h
 ·simp at h
def T2 (al:List A):Option (Rat×Rat):=match al with
 |[a,b]=>match rdR a,rdR b with
  |some x,some y=>some (x,y)
  |_,_=>none
 |_=>none
theorem k9 {al:List A} {x y:Rat} (h:T2 al=some (x,y)):al=[qC x,qC y]∧Sr x∧Sr y:=by
 unfold T2 at h;split at h
 ·split at h
  ·rename_i x' y' h1 h2;simp only[Ah,Prod.mk.injEq]at h;obtain⟨rfl,rfl⟩:=h;rw[(X9 h1).1,(X9 h2).1];exact⟨rfl,(X9 h1).2,(X9 h2).2⟩
  ·simp at h
 ·simp at h
def Ri (a b:Int):Int:=match decide (a<b)with|true=> -1|false=>match decide (b<a)with|true=>1|false=>0
theorem Z8 (a b:Int):Ri a b=vH a b:=by
 unfold Ri vH;by_cases h:a<b
 ·rw[decide_eq_true h,if_pos h]
 ·rw[decide_eq_false h,if_neg h];by_cases h2:b<a
  ·rw[decide_eq_true h2,if_pos h2]
  ·rw[decide_eq_false h2,if_neg h2]
def T3 (n d:Int):A:= .ag (cI (n/(Ae n.natAbs d.natAbs:Nat))++cI (d/(Ae n.natAbs d.natAbs:Nat)))
def BH (f:Nat) (al:List A):Option (List A):=
 match f with
 |50=>match T2 al with|some (x,y)=>some [T3 (x.num*y.num) (x.den*y.den)]|none=>none
 |180=>match T2 al with|some (x,y)=>some [T3 (x.num*y.den+y.num*x.den) (x.den*y.den)]|none=>none
 |97=>match T2 al with|some (x,y)=>some [T3 (x.num*y.den+(-y.num)*x.den) (x.den*y.den)]|none=>none
 |98=>match T2 al with|some (x,y)=>some [.c (.int .i64 (Ri (x.num*y.den) (y.num*x.den)))]|none=>none
 |121=>match al with
  |[.c (.int .i64 n)]=>match decide (-9223372036854775808≤n)&&decide (n<9223372036854775808)with
   |true=>some [.ag (cI n++cI 1)]
   |false=>none
  |_=>none
 |101=>match Ya al with|some (x,y)=>some [qH (x*y)]|none=>none
 |183=>match Ya al with|some (x,y)=>some [.c (.int .i64 (Ri x y))]|none=>none
 |235=>match Ya al with|some (x,y)=>some [qH (x+y)]|none=>none
 |234=>match Ya al with|some (x,y)=>some [qH (x-y)]|none=>none
 |186=>match Ya al with|some (x,y)=>some [qH (Ae x.natAbs y.natAbs:Nat)]|none=>none
 |136=>match al with
  |[.c (.int .i64 n)]=>match decide (-9223372036854775808≤n)&&decide (n<9223372036854775808)with
   |true=>some [qH n]
   |false=>none
  |_=>none
 |_=>Bg f al
theorem vM {n d:Int} (hd:0<d):T3 n d=qC (Aj n d):=(zx hd).symm
theorem PG (f:Nat) (al rs:List A) (h:BH f al=some rs):qe CC f al rs:=by
 unfold BH at h;split at h
 ·split at h
  ·rename_i x y h1;obtain⟨rfl,hx,hy⟩:=k9 h1;simp only[Ah]at h;subst h;rw[vM (Int.mul_pos (den_pos x) (den_pos y))];have e:x*y=Aj (x.num*y.num) (x.den*y.den):=by rw[←Rat.divInt_mul_divInt,Ai,Ai]
   rw[←e];exact vK Yu hx hy
  ·simp at h
 ·split at h
  ·rename_i x y h1;obtain⟨rfl,hx,hy⟩:=k9 h1;simp only[Ah]at h;subst h;have px:=den_pos x;have py:=den_pos y;rw[vM (Int.mul_pos px py)];have e:x+y=Aj (x.num*y.den+y.num*x.den) (x.den*y.den):=by rw[←Ak _ _ (by omega) (by omega),Ai,Ai]
   rw[←e];exact Z2 Yu hx hy
  ·simp at h
 ·split at h
  ·rename_i x y h1;obtain⟨rfl,hx,hy⟩:=k9 h1;simp only[Ah]at h;subst h;have px:=den_pos x;have py:=den_pos y;rw[vM (Int.mul_pos px py)];have e:x-y=Aj (x.num*y.den+(-y.num)*x.den) (x.den*y.den):=by
    rw[Rat.sub_eq_add_neg,←Ak _ _ (by omega) (by omega),Ai];have:Aj (-y.num) y.den= -y:=by rw[←Rat.neg_num];exact Ai (-y)
    rw[this]
   rw[←e];exact vL Yu hx hy
  ·simp at h
 ·split at h
  ·rename_i x y h1;obtain⟨rfl,hx,hy⟩:=k9 h1;simp only[Ah]at h;subst h;rw[Z8,←QB];exact UW hx hy
  ·simp at h
 ·split at h
  ·split at h
   ·rename_i hb;simp only[Ah]at h;subst h;simp only[Aa,decide_eq_true_eq]at hb;have g:=ka hb.1 hb.2;unfold qC cR at g;rw[Rat.num_intCast,Rat.den_intCast]at g;exact g
   ·simp at h
  ·simp at h
 ·split at h
  ·rename_i x y h1;obtain⟨rfl,hx,hy⟩:=zM h1;simp only[Ah]at h;subst h;exact up (jh hx hy)
  ·simp at h
 ·split at h
  ·rename_i x y h1;obtain⟨rfl,hx,hy⟩:=zM h1;simp only[Ah]at h;subst h;rw[Z8];exact up (vI hx hy)
  ·simp at h
 ·split at h
  ·rename_i x y h1;obtain⟨rfl,hx,hy⟩:=zM h1;simp only[Ah]at h;subst h;exact up (vJ hx hy)
  ·simp at h
 ·split at h
  ·rename_i x y h1;obtain⟨rfl,hx,hy⟩:=zM h1;simp only[Ah]at h;subst h;exact up (UJ hx hy)
  ·simp at h
 ·split at h
  ·rename_i x y h1;obtain⟨rfl,hx,hy⟩:=zM h1;simp only[Ah]at h;subst h;exact GD Yu hx hy
  ·simp at h
 ·split at h
  ·split at h
   ·rename_i hb;simp only[Ah]at h;subst h;simp only[Aa,decide_eq_true_eq]at hb;exact up (zk hb.1 hb.2)
   ·simp at h
  ·simp at h
 ·exact NU f al rs h
end Eng
end

section
namespace Eng
open Go Go.Proofs
def eqL {α:Type} (e:α→α→Bool):List α→List α→Bool
 |[],[]=>true
 |a::xs,b::ys=>e a b&&eqL e xs ys
 |_,_=>false
theorem zF {α:Type} {e:α→α→Bool} (h:∀a b,e a b=true→a=b):∀{xs ys:List α},eqL e xs ys=true→xs=ys
 |[],[],_=>rfl
 |a::xs,b::ys,hh=>by simp only[eqL,Aa]at hh;rw[h a b hh.1,zF h hh.2]
 |[],_::_,hh=>by simp[eqL]at hh
 |_::_,[],hh=>by simp[eqL]at hh
def eqB:UInt8→UInt8→Bool:=fun a b=>Af a.toNat b.toNat
def eqD:Nat→D→D→Bool
 |0,_,_=>false
 |_+1,.undef,.undef=>true
 |_+1,.bool a,.bool b=>a==b
 |_+1,.int k a,.int k' b=>decide (k=k')&&decide (a=b)
 |_+1,.str s,.str t=>eqL eqB s t
 |n+1,.sl es,.sl fs=>eqL (eqL (eqD n)) es fs
 |_+1,.ifc a,.ifc b=>a==b
 |_+1,.fn a,.fn b=>Af a b
 |_+1,.nilP,.nilP=>true
 |n+1,.ptr cs,.ptr ds=>eqL (eqD n) cs ds
 |n+1,.clo f ps,.clo g qs=>Af f g&&eqL (eqD n) ps qs
 |_+1,_,_=>false
theorem S3 (a b:UInt8) (h:eqB a b=true):a=b:=UInt8.toNat_inj.1 (Ab h)
theorem Kc (n:Nat):∀(a b:D),eqD n a b=true→a=b:=by
 induction n with
 |zero=>intro a b h;simp[eqD]at h
 |succ n ih=>
  intro a b h;cases a<;>cases b<;>simp only[eqD,Aa,decide_eq_true_eq,beq_iff_eq,Bool.false_eq_true]at h
  all_goals first
   |rfl
   |(rw[h];done)
   |(rw[h.1,h.2];done)
   |(rw[zF S3 h];done)
   |(rw[zF ih h];done)
   |(rw[Ab h.1,zF ih h.2];done)
   |(rw[zF (fun a b hh=>zF ih hh) h];done)
   |rw[Ab h]
def eqA:A→A→Bool
 | .c a,.c b=>eqD 20 a b
 | .ag a,.ag b=>eqL (eqD 20) a b
 |_,_=>false
theorem Yb (a b:A) (h:eqA a b=true):a=b:=by
 unfold eqA at h;split at h
 ·rw[Kc _ _ _ h]
 ·rw[zF (Kc 20) h]
 ·simp at h
end Eng
end
