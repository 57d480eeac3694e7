/- A table of known results for closed runs: the integers and rationals of the program, and the library's functions. -/
import Derived.Test.YtbehlcfelmbmlaaGreatDoorRatA
import Derived.Test.YtbehlcfelmbmlaaGreatDoorDivA
open Bool renaming and_eq_true→Aw
open Nat renaming eq_of_beq_eq_true→Bx, blt_eq→Dd, blt→F0, gcd→F2, beq→Gv
open Option.some renaming injEq→Hu
open Rat renaming num_divInt_den→Hv, divInt→Hx, divInt_add_divInt→Hy
section
namespace Eng
open Go Go.Proofs
set_option maxRecDepth 1000000
def kt:List (List D)→Bool
 |[]=>true
 |[e]=>F0 0 (BU e)
 |_::r=>kt r
theorem Wf:∀{l:List Nat},kt (raw l)=true→l=[]∨l.getLast?≠some 0
 |[],_=> .inl rfl
 |[x],h=> .inr (by
  simp only[raw,List.map_cons,List.map_nil,kt,BU,Int.toNat_natCast]at h;rw[Dd]at h;simp;omega)
 |x::y::l,h=> .inr (by
  have h2:kt (raw (y::l))=true:=h;rcases Wf h2 with h3|h3
  ·simp at h3
  ·rw[List.getLast?_cons_cons];exact h3)
def jv (b:Bool) (es:List (List D)):Int:=match b with|true=> -(JO es:Int)|false=>(JO es:Int)
def okZ (b:Bool) (es:List (List D)):Bool:=yB es&&(kt es&&(match es with|[]=>!b|_=>true))
theorem X9 {b:Bool} {es:List (List D)} (h:okZ b es=true):cI (jv b es)=[.bool b,.sl es]:=by
 unfold okZ at h;simp only[Aw]at h;obtain⟨h1,h2,h3⟩:=h;obtain⟨e1,e2,e3⟩:=wK h1;rw[e1]at h2;have hu:=vJ e2 (Wf h2);rw[e3]at hu;have hn:(jv b es).natAbs=JO es:=by
  unfold jv;cases b
  ·simp
  ·simp
 have hb:decide (jv b es<0)=b:=by
  cases b with
  |false=>unfold jv;exact decide_eq_false (by simp)
  |true=>
   unfold jv;refine decide_eq_true ?_;have:JO es≠0:=by
    intro h0;rw[h0]at hu;have h4:JN es=[]:=by rw[←hu];rfl
    rw[h4]at e1;rw[e1]at h3;simp[raw]at h3
   show-(JO es:Int)<0;omega
 unfold cI;rw[hn,hb,hu,←e1]
def rdI:A→Option Int
 | .ag [.bool b,.sl es]=>match okZ b es with
  |true=>some (jv b es)
  |false=>none
 |_=>none
theorem PP {a:A} {z:Int} (h:rdI a=some z):a=qJ z:=by
 unfold rdI at h;split at h
 ·split at h
  ·rename_i hz;simp only[Hu]at h;subst h;unfold qJ;rw[X9 hz]
  ·simp at h
 ·simp at h
def EP (n:Int) (d:Nat):Option Rat:=
 if hd:d≠0 then if h:F2 n.natAbs d=1 then some ⟨n,d,hd,h⟩else none else none
theorem Bz {n:Int} {d:Nat} {r:Rat} (h:EP n d=some r):r.num=n∧r.den=d:=by
 unfold EP at h;split at h
 ·split at h
  ·simp only[Hu]at h;subst h;exact⟨rfl,rfl⟩
  ·simp at h
 ·simp at h
def CI (z:Int):Bool:=F0 z.natAbs y4
def rdR:A→Option Rat
 | .ag [.bool b,.sl es,.bool c,.sl fs]=>match okZ b es&&(okZ c fs&&(!c&&(CI (jv b es)&&F0 (JO fs) y4)))with
  |true=>EP (jv b es) (JO fs)
  |false=>none
 |_=>none
theorem Wg {a:A} {r:Rat} (h:rdR a=some r):a=xk r∧Sr r:=by
 unfold rdR at h;split at h
 ·rename_i b es c fs;split at h
  ·rename_i hz;simp only[Aw,Bool.not_eq_true']at hz;obtain⟨h1,h2,rfl,h3,h4⟩:=hz;obtain⟨e1,e2⟩:=Bz h;have hd:jv false fs=(r.den:Int):=by rw[e2];rfl
   refine⟨?_,?_,?_⟩
   ·unfold xk cR;rw[e1,X9 h1,←hd,X9 h2];rfl
   ·rw[e1];unfold CI at h3;rw[Dd]at h3;exact h3
   ·rw[Dd]at h4;show((r.den:Int)).natAbs<y4;rw[Int.natAbs_natCast,e2];exact h4
  ·simp at h
 ·simp at h
def Tg (al:List A):Option (Int×Int):=match al with
 |[a,b]=>match rdI a,rdI b with
  |some x,some y=>match F0 x.natAbs JY&&F0 y.natAbs JY with
   |true=>some (x,y)
   |false=>none
  |_,_=>none
 |_=>none
theorem jw {al:List A} {x y:Int} (h:Tg al=some (x,y)):al=[qJ x,qJ y]∧Sm x∧Sm y:=by
 unfold Tg at h;split at h
 ·split at h
  ·rename_i x' y' h1 h2;split at h
   ·rename_i h3;simp only[Hu,Prod.mk.injEq]at h;obtain⟨rfl,rfl⟩:=h;simp only[Aw,Dd]at h3;rw[PP h1,PP h2];exact⟨rfl,h3.1,h3.2⟩
   ·simp at h
  ·simp at h
 ·simp at h
def Rz (al:List A):Option (Rat×Rat):=match al with
 |[a,b]=>match rdR a,rdR b with
  |some x,some y=>some (x,y)
  |_,_=>none
 |_=>none
theorem vk {al:List A} {x y:Rat} (h:Rz al=some (x,y)):al=[xk x,xk y]∧Sr x∧Sr y:=by
 unfold Rz at h;split at h
 ·split at h
  ·rename_i x' y' h1 h2;simp only[Hu,Prod.mk.injEq]at h;obtain⟨rfl,rfl⟩:=h;rw[(Wg h1).1,(Wg h2).1];exact⟨rfl,(Wg h1).2,(Wg h2).2⟩
  ·simp at h
 ·simp at h
def F7 (a b:Int):Int:=match decide (a<b)with|true=> -1|false=>match decide (b<a)with|true=>1|false=>0
theorem Vo (a b:Int):F7 a b=yz a b:=by
 unfold F7 yz;by_cases h:a<b
 ·rw[decide_eq_true h,if_pos h]
 ·rw[decide_eq_false h,if_neg h];by_cases h2:b<a
  ·rw[decide_eq_true h2,if_pos h2]
  ·rw[decide_eq_false h2,if_neg h2]
def R0 (n d:Int):A:= .ag (cI (n/(F2 n.natAbs d.natAbs:Nat))++cI (d/(F2 n.natAbs d.natAbs:Nat)))
def IV (f:Nat) (al:List A):Option (List A):=
 match f with
 |50=>match Rz al with|some (x,y)=>some [R0 (x.num*y.num) (x.den*y.den)]|none=>none
 |180=>match Rz al with|some (x,y)=>some [R0 (x.num*y.den+y.num*x.den) (x.den*y.den)]|none=>none
 |97=>match Rz al with|some (x,y)=>some [R0 (x.num*y.den+(-y.num)*x.den) (x.den*y.den)]|none=>none
 |98=>match Rz al with|some (x,y)=>some [.c (.int .i64 (F7 (x.num*y.den) (y.num*x.den)))]|none=>none
 |121=>match al with
  |[.c (.int .i64 n)]=>match decide (-9223372036854775808≤n)&&decide (n<9223372036854775808)with
   |true=>some [.ag (cI n++cI 1)]
   |false=>none
  |_=>none
 |101=>match Tg al with|some (x,y)=>some [qJ (x*y)]|none=>none
 |183=>match Tg al with|some (x,y)=>some [.c (.int .i64 (F7 x y))]|none=>none
 |235=>match Tg al with|some (x,y)=>some [qJ (x+y)]|none=>none
 |234=>match Tg al with|some (x,y)=>some [qJ (x-y)]|none=>none
 |186=>match Tg al with|some (x,y)=>some [qJ (F2 x.natAbs y.natAbs:Nat)]|none=>none
 |136=>match al with
  |[.c (.int .i64 n)]=>match decide (-9223372036854775808≤n)&&decide (n<9223372036854775808)with
   |true=>some [qJ n]
   |false=>none
  |_=>none
 |_=>Iy f al
theorem Xl {n d:Int} (hd:0<d):R0 n d=xk (Hx n d):=(ja hd).symm
theorem EQ (f:Nat) (al rs:List A) (h:IV f al=some rs):qf CC f al rs:=by
 unfold IV at h;split at h
 ·split at h
  ·rename_i x y h1;obtain⟨rfl,hx,hy⟩:=vk h1;simp only[Hu]at h;subst h;rw[Xl (Int.mul_pos (den_pos x) (den_pos y))];have e:x*y=Hx (x.num*y.num) (x.den*y.den):=by rw[←Rat.divInt_mul_divInt,Hv,Hv]
   rw[←e];exact Vh XC hx hy
  ·simp at h
 ·split at h
  ·rename_i x y h1;obtain⟨rfl,hx,hy⟩:=vk h1;simp only[Hu]at h;subst h;have px:=den_pos x;have py:=den_pos y;rw[Xl (Int.mul_pos px py)];have e:x+y=Hx (x.num*y.den+y.num*x.den) (x.den*y.den):=by rw[←Hy _ _ (by omega) (by omega),Hv,Hv]
   rw[←e];exact PG XC hx hy
  ·simp at h
 ·split at h
  ·rename_i x y h1;obtain⟨rfl,hx,hy⟩:=vk h1;simp only[Hu]at h;subst h;have px:=den_pos x;have py:=den_pos y;rw[Xl (Int.mul_pos px py)];have e:x-y=Hx (x.num*y.den+(-y.num)*x.den) (x.den*y.den):=by
    rw[Rat.sub_eq_add_neg,←Hy _ _ (by omega) (by omega),Hv];have:Hx (-y.num) y.den= -y:=by rw[←Rat.neg_num];exact Hv (-y)
    rw[this]
   rw[←e];exact E7 XC hx hy
  ·simp at h
 ·split at h
  ·rename_i x y h1;obtain⟨rfl,hx,hy⟩:=vk h1;simp only[Hu]at h;subst h;rw[Vo,←JC];exact H9 hx hy
  ·simp at h
 ·split at h
  ·split at h
   ·rename_i hb;simp only[Hu]at h;subst h;simp only[Aw,decide_eq_true_eq]at hb;have g:=wz hb.1 hb.2;unfold xk cR at g;rw[Rat.num_intCast,Rat.den_intCast]at g;exact g
   ·simp at h
  ·simp at h
 ·split at h
  ·rename_i x y h1;obtain⟨rfl,hx,hy⟩:=jw h1;simp only[Hu]at h;subst h;exact up (kp hx hy)
  ·simp at h
 ·split at h
  ·rename_i x y h1;obtain⟨rfl,hx,hy⟩:=jw h1;simp only[Hu]at h;subst h;rw[Vo];exact up (Jr hx hy)
  ·simp at h
 ·split at h
  ·rename_i x y h1;obtain⟨rfl,hx,hy⟩:=jw h1;simp only[Hu]at h;subst h;exact up (Js hx hy)
  ·simp at h
 ·split at h
  ·rename_i x y h1;obtain⟨rfl,hx,hy⟩:=jw h1;simp only[Hu]at h;subst h;exact up (Pb hx hy)
  ·simp at h
 ·split at h
  ·rename_i x y h1;obtain⟨rfl,hx,hy⟩:=jw h1;simp only[Hu]at h;subst h;exact Gx XC hx hy
  ·simp at h
 ·split at h
  ·split at h
   ·rename_i hb;simp only[Hu]at h;subst h;simp only[Aw,decide_eq_true_eq]at hb;exact up (xb hb.1 hb.2)
   ·simp at h
  ·simp at h
 ·exact CU f al rs h
end Eng
end

section
namespace Eng
open Go Go.Proofs
def eqL {α:Type} (e:α→α→Bool):List α→List α→Bool
 |[],[]=>true
 |a::xs,b::ys=>e a b&&eqL e xs ys
 |_,_=>false
theorem jl {α:Type} {e:α→α→Bool} (h:∀a b,e a b=true→a=b):∀{xs ys:List α},eqL e xs ys=true→xs=ys
 |[],[],_=>rfl
 |a::xs,b::ys,hh=>by simp only[eqL,Aw]at hh;rw[h a b hh.1,jl h hh.2]
 |[],_::_,hh=>by simp[eqL]at hh
 |_::_,[],hh=>by simp[eqL]at hh
def eqB:UInt8→UInt8→Bool:=fun a b=>Gv a.toNat b.toNat
def eqD:Nat→D→D→Bool
 |0,_,_=>false
 |_+1,.undef,.undef=>true
 |_+1,.bool a,.bool b=>a==b
 |_+1,.int k a,.int k' b=>decide (k=k')&&decide (a=b)
 |_+1,.str s,.str t=>eqL eqB s t
 |n+1,.sl es,.sl fs=>eqL (eqL (eqD n)) es fs
 |_+1,.ifc a,.ifc b=>a==b
 |_+1,.fn a,.fn b=>Gv a b
 |_+1,.nilP,.nilP=>true
 |n+1,.ptr cs,.ptr ds=>eqL (eqD n) cs ds
 |n+1,.clo f ps,.clo g qs=>Gv f g&&eqL (eqD n) ps qs
 |_+1,_,_=>false
theorem AH (a b:UInt8) (h:eqB a b=true):a=b:=UInt8.toNat_inj.1 (Bx h)
theorem Ge (n:Nat):∀(a b:D),eqD n a b=true→a=b:=by
 induction n with
 |zero=>intro a b h;simp[eqD]at h
 |succ n ih=>
  intro a b h;cases a<;>cases b<;>simp only[eqD,Aw,decide_eq_true_eq,beq_iff_eq,Bool.false_eq_true]at h
  all_goals first
   |rfl
   |(rw[h];done)
   |(rw[h.1,h.2];done)
   |(rw[jl AH h];done)
   |(rw[jl ih h];done)
   |(rw[Bx h.1,jl ih h.2];done)
   |(rw[jl (fun a b hh=>jl ih hh) h];done)
   |rw[Bx h]
def eqA:A→A→Bool
 | .c a,.c b=>eqD 20 a b
 | .ag a,.ag b=>eqL (eqD 20) a b
 |_,_=>false
theorem Th (a b:A) (h:eqA a b=true):a=b:=by
 unfold eqA at h;split at h
 ·rw[Ge _ _ _ h]
 ·rw[jl (Ge 20) h]
 ·simp at h
end Eng
end
