/- A sign cut off a text. -/
import Derived.Test.YtbehlcfelmbmlaaGreatDoorTxP
import Derived.Test.YtbehlcfelmbmlaaGreatDoorCdA
open Bool renaming and_eq_true→Aa, true_and→Ab
open List renaming map_cons→Ac, all_cons→Ad, length_cons→Ae, length_map→Af
section
namespace Eng
open Go
def M5:List UInt8→List UInt8×Bool
 |[]=>([],false)
 |c::s=>if c=45 then(s,true)else(c::s,false)
end Eng
end

section
namespace Eng
open Go
structure B4 where
 x0:Rat
 y0:Rat
 x1:Rat
 y1:Rat
structure Ce where
 b:B4
 k:Option V2
end Eng
end

section
namespace Eng
open Go
def Po (w:List UInt8):Bool:=!w.isEmpty&&(w.all isD&&(decide (w.length≤1)||decide (nth 0 w 0≠48)))
def Sj:Option (List UInt8)→Bool
 |none=>true
 |some p=>!p.isEmpty&&(p.all isD&&decide (p.length≤30))
def decS (s:List UInt8):Option (Int×Nat):=
 let w:=(Nf 46 (M5 s).1).1
 let p:=(Nf 46 (M5 s).1).2
 let m:=natT (w++p.getD [])
 if Po w&&(Sj p&&(!(M5 s).2||decide (m≠0)))then some (if(M5 s).2 then-(m:Int)else(m:Int),(p.getD []).length)else none
end Eng
end

section
namespace Eng
open Go
def ltr (c:UInt8):Bool:=(decide (97≤c.toNat)&&decide (c.toNat≤122))||(decide (65≤c.toNat)&&decide (c.toNat≤90))
def nmc (c:UInt8):Bool:=ltr c||(isD c||(decide (c=95)||decide (c=45)))
structure Tk where
 kind:Nat
 pos:Nat
 text:List UInt8
def ZG (p:UInt8→Bool):List UInt8→Nat
 |[]=>0
 |c::s=>match p c with
  |true=>ZG p s+1
  |false=>0
inductive Sc where
 |blank
 |tok (kind n:Nat)
 |bad (e:Nat)
structure Li where
 number:Nat
 toks:List Tk
end Eng
end

section
namespace Eng
open Go
end Eng
end

section
namespace Eng
open Go
end Eng
end

section
namespace Eng
open Go
def exF (b:Rat):Nat→Nat→Option (Int×Nat)
 |0,_=>none
 |f+1,k=>if(b*((10^k:Nat):Rat)).den=1 then some ((b*((10^k:Nat):Rat)).num,k)else exF b f (k+1)
def exq (b:Rat):Option (Int×Nat):=exF b 31 0
def valS (s:List UInt8):Option Rat:=match decS s with
 |none=>none
 |some (m,k)=>some ((m:Rat)/((10^k:Nat):Rat))
def Sk (b:Rat):List UInt8:=match exq b with
 |none=>[]
 |some (z,n)=>sgT z++yc z.natAbs n
end Eng
end

section
namespace Eng
open Go
structure Ly where
 name:List UInt8
 kind:Int
 depth:Int
structure En where
 kind:Int
 layer:List UInt8
 pts:List V2
 rad:Rat
def JP (w:List UInt8):Bool:=decide (w.length≤24)&&(w.all nmc&&match w with|[]=>false|c::_=>ltr c)
def SR (l:Ly):Bool:=JP l.name&&((decide (l.kind=1∨l.kind=3)&&decide (1≤l.depth∧l.depth≤10000000))||(decide (l.kind=2∨l.kind=4)&&decide (l.depth=0)))
def Wu (a:Rat):Bool:=decide (-10000000≤a∧a≤10000000)&&(exq (a/1000)).isSome
def JQ (k:Int):Nat:=if k=1 then 2 else if k=2 then 3 else if k=3 then 1 else 0
def BD (e:En):Bool:=decide (1≤e.kind∧e.kind≤3)&&(decide (e.pts.length=JQ e.kind)&&(e.pts.all (fun p=>Wu p.x&&Wu p.y)&&(decide (e.kind≠3)||(Wu e.rad&&decide (0<e.rad)))))
end Eng
end

section
namespace Eng
open Go
def JR (seen:List Ly) (l:Ly):Nat:=if SR l=true then(if l.name∈seen.map (·.name)then 5 else 0)else 1
def UK (ls:List Ly) (e:En):Nat:=if e.layer∈ls.map (·.name)then(if BD e=true then 0 else 1)else 4
def yg:List Ly→List Ly→Nat
 |_,[]=>0
 |seen,l::r=>match JR seen l with
  |0=>yg (seen++[l]) r
  |e=>e
def M6 (ls:List Ly):List En→Nat
 |[]=>0
 |e::r=>match UK ls e with
  |0=>M6 ls r
  |x=>x
def ND (ls:List Ly) (es:List En):Nat:=
 if 20<ls.length∨200<es.length then 3 else match yg [] ls with
  |0=>M6 ls es
  |e=>e
end Eng
end

section
namespace Eng
open Go
end Eng
end

section
namespace Eng
open Go
end Eng
end

section
namespace Eng
open Go
end Eng
end

section
namespace Eng
open Go
end Eng
end

section
namespace Eng
open Go
end Eng
end

section
namespace Eng
open Go
theorem VK {s:List UInt8} {i:Nat} (h:i<s.length):s.drop i=nth 0 s i::s.drop (i+1):=by
 induction s generalizing i with
 |nil=>simp at h
 |cons c s ih=>
  match i with
  |0=>rfl
  |i+1=>simp only[Ae]at h;exact ih (by omega)
end Eng
end

section
namespace Eng
open Go
theorem UL {p:UInt8→Bool} {s:List UInt8} {i:Nat} (h:i<s.length) (hp:p (nth 0 s i)=true):ZG p (s.drop i)=ZG p (s.drop (i+1))+1:=by
 rw[VK h,ZG,hp]
theorem JS {p:UInt8→Bool} {s:List UInt8} {i:Nat} (h:s.length≤i∨p (nth 0 s i)=false):ZG p (s.drop i)=0:=by
 by_cases hi:s.length≤i
 ·rw[List.drop_eq_nil_of_le hi];rfl
 ·rw[VK (by omega),ZG];rcases h with h|h
  ·omega
  ·rw[h]
theorem VL {p:UInt8→Bool}:∀{s:List UInt8},ZG p s=s.length↔s.all p=true
 |[]=>by simp[ZG]
 |c::s=>by
  have ih:=VL (p:=p) (s:=s);rw[ZG,Ad,Ae];cases hp:p c with
  |false=>simp
  |true=>simp[ih]
theorem Gj (w:List UInt8):JP w=(!w.isEmpty&&(decide (w.length≤24)&&(ltr (nth 0 w 0)&&decide (ZG nmc w=w.length)))):=by
 unfold JP
 match w with
 |[]=>rfl
 |c::t=>
  have e:nth 0 (c::t) 0=c:=rfl;rw[e];have ha:decide (ZG nmc (c::t)=(c::t).length)=(c::t).all nmc:=by rw[Bool.eq_iff_iff];simp only[decide_eq_true_eq];exact VL
  rw[ha];simp only[List.isEmpty_cons,Bool.not_false,Ab];cases(c::t).all nmc<;>cases ltr c<;>rfl
end Eng
end

section
namespace Eng
open Go
end Eng
end

section
namespace Eng
open Go
end Eng
end

section
namespace Eng
open Go
end Eng
end

section
namespace Eng
open Go
structure EnO where
 kind:Int
 layer:List UInt8
 pts:List (Option Rat×Option Rat)
 rad:Option Rat
def zP:Option Rat→Bool
 |none=>false
 |some a=>Wu a
def SS:Option Rat→Bool
 |none=>false
 |some a=>decide (0<a)
def yh (e:EnO):Bool:=decide (1≤e.kind∧e.kind≤3)&&(decide (e.pts.length=JQ e.kind)&&(e.pts.all (fun p=>zP p.1&&zP p.2)&&(decide (e.kind≠3)||(zP e.rad&&SS e.rad))))
def Rh (e:EnO):En:=⟨e.kind,e.layer,e.pts.map fun p=>⟨p.1.getD 0,p.2.getD 0⟩,if e.kind=3 then e.rad.getD 0 else 0⟩
theorem jV {a:Option Rat} (h:zP a=true):a=some (a.getD 0)∧Wu (a.getD 0)=true:=by
 match a,h with
 |some q,h=>exact⟨rfl,h⟩
theorem UM:∀{l:List (Option Rat×Option Rat)},l.all (fun p=>zP p.1&&zP p.2)=true→l=(l.map fun p=>(⟨p.1.getD 0,p.2.getD 0⟩:V2)).map (fun p=>(some p.x,some p.y))∧(l.map fun p=>(⟨p.1.getD 0,p.2.getD 0⟩:V2)).all (fun p=>Wu p.x&&Wu p.y)=true
 |[],_=>⟨rfl,rfl⟩
 |(a,b)::l,h=>by
  simp only[Ad,Aa]at h;obtain⟨i1,i2⟩:=UM (l:=l) h.2;obtain⟨a1,a2⟩:=jV h.1.1;obtain⟨b1,b2⟩:=jV h.1.2;constructor
  ·simp only[Ac];rw[←i1,←a1,←b1]
  ·simp only[Ac,Ad,a2,b2,Ab];exact i2
theorem M7 {e:EnO} (h:yh e=true):BD (Rh e)=true:=by
 obtain⟨k,n,ps,r⟩:=e;unfold yh at h;simp only[Aa]at h;obtain⟨h1,h2,h3,h4⟩:=h;obtain⟨_,i2⟩:=UM h3;unfold BD Rh;simp only[Af];rw[h1,h2,i2];simp only[Ab];by_cases hk:k=3
 ·have a0:decide (k≠3)=false:=decide_eq_false (fun g=>g hk);rw[a0]at h4 ⊢;simp only[Bool.false_or,Aa]at h4;obtain⟨r1,r2⟩:=jV h4.1;have h5:=h4.2;rw[r1]at h5;rw[if_pos hk,r2]
  simpa [SS]using h5
 ·have a0:decide (k≠3)=true:=decide_eq_true hk;rw[a0];rfl
def ju (ls:List Ly) (e:EnO):Nat:=if e.layer∈ls.map (·.name)then(if yh e=true then 0 else 1)else 4
def kz (ls:List Ly):List EnO→Nat
 |[]=>0
 |e::r=>match ju ls e with
  |0=>kz ls r
  |x=>x
def Zt (ls:List Ly) (es:List EnO):Nat:=
 if 20<ls.length∨200<es.length then 3 else match yg [] ls with
  |0=>kz ls es
  |e=>e
theorem JT {ls:List Ly}:∀{es:List EnO},kz ls es=0→M6 ls (es.map Rh)=0∧∀e∈es,yh e=true
 |[],_=>⟨rfl,by simp⟩
 |e::r,h=>by
  rw[kz]at h
  match hk:ju ls e,h with
  |0,h=>
   obtain⟨i1,i2⟩:=JT (es:=r) h;unfold ju at hk;by_cases hl:e.layer∈ls.map (·.name)
   ·rw[if_pos hl]at hk;by_cases ho:yh e=true
    ·refine⟨?_,?_⟩
     ·have hz:UK ls (Rh e)=0:=by unfold UK;rw[if_pos (show(Rh e).layer∈_ from hl),if_pos (M7 ho)]
      rw[Ac,M6,hz];exact i1
     ·intro x hx;simp only[List.mem_cons]at hx;rcases hx with rfl|hx
      ·exact ho
      ·exact i2 x hx
    ·rw[if_neg ho]at hk;omega
   ·rw[if_neg hl]at hk;omega
  |n+1,h=>simp at h
theorem Gk {ls:List Ly} {es:List EnO} (h:Zt ls es=0):ND ls (es.map Rh)=0∧∀e∈es,yh e=true:=by
 unfold Zt at h;unfold ND;rw[Af];by_cases h1:20<ls.length∨200<es.length
 ·rw[if_pos h1]at h;omega
 ·rw[if_neg h1]at h ⊢
  match hx:yg [] ls,h with
  |0,h=>exact JT h
  |n+1,h=>simp at h
end Eng
end
