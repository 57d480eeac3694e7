import Derived.Test.YtmfkgpfkpnmdnaaGreatDoorTkAll
import Derived.Test.YtmfkgpfkpnmdnaaGreatDoorPcA
import Derived.Test.YtmfkgpfkpnmdnaaGreatDoorPaF
open Int renaming tmod->Aw, mul_le_mul->Bx, mul_lt_mul->Dd, lt_or_le->F0
open List renaming mem_map->Gv, all_eq_true->Hu, getElem_map->Hv
open Option.some renaming inj->Hx
open Rat renaming intCast_mul->Hy, intCast_add->I0, intCast_sub->I1, num_intCast->I2
set_option maxRecDepth 1000000
section
namespace Eng
open Go Go.Proofs
def b7:Nat->List A
 |0=>pol0
 |1=>pol1
 |_=>pol2
def rgK:Nat->List A
 |0=>rg0
 |1=>rg1
 |_=>rg2
def rgE:List A:=[.ag [.sl [AL,AM]]]
def lK:Nat->List (List D)
 |0=>[Tk.d1,Tk.d6,Tk.d30,Tk.d29]
 |1=>[Tk.d1,Tk.d11,Tk.d31,Tk.d32,Tk.d29]
 |_=>[Tk.d1,Tk.d33,Tk.d29]
def bxK:List D:=tkR [lX0,lY0,lX1,lY1]
theorem wu [Env] [xr] {e:qg} (h:Tk.G e) {f:Nat} {al rs:List A} (hh:(e.1,e.2.2.1,e.2.2.2)=(f,al,rs)):Gives CC f al rs:=by
 obtain⟨f',k,al',rs'⟩:=e;obtain⟨rfl,h2⟩:=Prod.mk.inj hh;obtain⟨rfl,rfl⟩:=Prod.mk.inj h2;exact xP (C:=KT) (C':=CC) rfl rfl h
abbrev okA:A:= .c (.int .i64 0)
abbrev tA:A:= .c (.bool true)
structure RunsT [Env]:Prop where
 pf:∀k<3,Gives CC 21 (b7 k) [.c (.sl (lK k))]/\Gives CC 20 [.c (.sl (lK k))] (rgK k++[okA])
 rect:Gives CC 25 [.ag bxK] (rgK 0++[okA])
 disc:Gives CC 23 [.ag dH] (rgD++[okA])
 val:∀k<3,Gives CC 149 (rgK k) [tA]
 valD:Gives CC 149 rgD [tA]
 bnd:∀k<3,Gives CC 32 (rgK k) [.ag bxK,tA]
 rnd:Gives CC 150 rgD [tA]
 pdisc:Gives CC 69 [.ag dH] (rgE++[okA])
 peq:Gives CC 70 (rgD++rgE) [tA]
section
variable [Env] [xr]
theorem Ib:∀k<3,Gives CC 21 (b7 k) [.c (.sl (lK k))]/\Gives CC 20 [.c (.sl (lK k))] (rgK k++[okA]):=by
 intro k hk
 match k,hk with
 |0,_=>exact⟨wu Tk.g490 (by kernel_rfl),wu Tk.g982 (by kernel_rfl)⟩
 |1,_=>exact⟨wu Tk.g499 (by kernel_rfl),wu Tk.g1450 (by kernel_rfl)⟩
 |2,_=>exact⟨wu Tk.g502 (by kernel_rfl),wu Tk.g1507 (by kernel_rfl)⟩
 |n+3,h=>exact absurd h (by omega)
theorem D6:∀k<3,Gives CC 32 (rgK k) [.ag bxK,tA]:=by
 intro k hk
 match k,hk with
 |0,_=>exact wu Tk.g1828 (by kernel_rfl)
 |1,_=>exact wu Tk.g1844 (by kernel_rfl)
 |2,_=>exact wu Tk.g1848 (by kernel_rfl)
 |n+3,h=>exact absurd h (by omega)
variable [BdOk]
theorem D7:∀k<3,Gives CC 149 (rgK k) [tA]:=by
 intro k hk
 match k,hk with
 |0,_=>exact wu Tk.g1911 (by kernel_rfl)
 |1,_=>exact wu Tk.g1957 (by kernel_rfl)
 |2,_=>exact wu Tk.g1977 (by kernel_rfl)
 |n+3,h=>exact absurd h (by omega)
theorem dU:RunsT:=
 ⟨Ib,wu Tk.g1508 (by kernel_rfl),wu Tk.g685 (by kernel_rfl),D7,wu Tk.g2021 (by kernel_rfl),D6,wu Tk.g1850 (by kernel_rfl),wu Tk.g2042 (by kernel_rfl),wu Tk.g1856 (by kernel_rfl)⟩
end
end Eng
end
section
namespace Eng
open Go Go.Proofs Rl
def tp1:D->Bool
 | .tok _ _=>true
 | .bool _=>true
 | .int _ _=>true
 | .str _=>true
 | .sl []=>true
 |_=>false
def tp2:D->Bool
 | .sl es=>es.all λe=>e.all tp1
 |d=>tp1 d
def tpA:A->Bool
 | .c d=>tp2 d
 | .ag ds=>ds.all tp2
theorem GV (ρ:Nat->Rat) (p:Pol) (i:Nat):plD 3 ((jP ρ).E p i):=by
 have a0:∀l:List Nat,plD 3 (.sl (raw l)):=λl e he d hd=>by obtain⟨x,_,rfl⟩:=Gv.1 (show e∈l.map λ(x:Nat)=>[D.int .u32 (x:Int)]from he);simp only[List.mem_singleton]at hd;subst hd;trivial
 show plD 3 (Vj ρ (bdF ρ) p i);unfold Vj;split
 .unfold yY;split
  .trivial
  .exact a0 _
  .trivial
  .exact a0 _
 .split
  .trivial
  .split<;>trivial
theorem dV {ρ:Nat->Rat} {d:D} (h:tp1 d=true):plD 3 (evD (jP ρ) d):=by
 unfold tp1 at h;split at h
 .exact GV ρ _ _
 .trivial
 .trivial
 .trivial
 .intro e he;cases he
 .cases h
theorem Ic:∀{n:Nat} {d:D},plD n d->plD (n+1) d
 |0,_,h=>h.elim
 |n+1,d,h=>by
  cases d with
  |sl es=>exact λe he d hd=>Ic (h e he d hd)
  |_=>exact h
theorem Id {ρ:Nat->Rat} {d:D} (h:tp2 d=true):plD 4 (evX (jP ρ) d):=by
 have key:∀d:D,tp1 d=true->plD 4 (evX (jP ρ) d):=λd h=>by
  unfold tp1 at h;split at h
  .exact Ic (GV ρ _ _)
  .trivial
  .trivial
  .trivial
  .intro e he;cases he
  .cases h
 unfold tp2 at h;split at h
 .intro e he d hd;obtain⟨e',he',rfl⟩:=Gv.1 he;obtain⟨d',hd',rfl⟩:=Gv.1 hd;exact dV (Hu.1 (Hu.1 h _ he') _ hd')
 .exact key _ h
theorem Ie {ρ:Nat->Rat} {a:A} (h:tpA a=true):plA 4 (evA (jP ρ) a):=by
 cases a with
 |c d=>exact Id (d:=d) h
 |ag ds=>intro d hd;obtain⟨d',hd',rfl⟩:=Gv.1 hd;exact Id (Hu.1 h _ hd')
theorem xF {ρ:Nat->Rat} {f:Nat} {al rs:List A} (h: @Gives (jP ρ) CC f al rs) (ha:al.all tpA=true) (hr:rs.all tpA=true) (E:Env): @Gives E CC f (al.map (evA (jP ρ))) (rs.map (evA (jP ρ))):=by
 refine Z2 Nd (n:=4) (λa ha'=>?_) (λa ha'=>?_) (KH h)
 .obtain⟨x,hx,rfl⟩:=Gv.1 ha';exact Ie (Hu.1 ha _ hx)
 .obtain⟨x,hx,rfl⟩:=Gv.1 ha';exact Ie (Hu.1 hr _ hx)
theorem evL (ρ:Nat->Rat) (i:Nat):evP ρ (lt i)=ρ i:=by
 show(1:Rat)*evE ρ 0 (zE i [1])+0=_;rw[P9,Nat.zero_add];show(1:Rat)*(ρ i*1*1)+0=_
 grind
theorem evK (ρ:Nat->Rat) (n:Int):evP ρ (kP n)=(n:Rat):=by
 show(n:Rat)*1+0=n
 grind
def Z6 (x0 y0 sx sy cx cy r:Int):Nat->Rat
 |0=>x0
 |1=>y0
 |2=>(sx:Rat)/((3:Int):Rat)
 |3=>(sy:Rat)/((2:Int):Rat)
 |4=>cx
 |5=>cy
 |6=>r
 |7=>0
 |8=>1
 |9=>(sx:Rat)/((3:Int):Rat)-((1000:Int):Rat)
 |10=>(sy:Rat)/((2:Int):Rat)-((1000:Int):Rat)
 |_=>0
structure ShN (x0 y0 sx sy cx cy r:Int):Prop where
 x0:0<=x0/\x0<=100000
 y0:0<=y0/\y0<=100000
 sx:6000<=sx/\sx<=100000
 sy:6000<=sy/\sy<=100000
 cx:0<=cx/\cx<=100000
 cy:0<=cy/\cy<=100000
 r:1<=r/\r<=30000
section
variable {x0 y0 sx sy cx cy r:Int}
theorem If (h:ShN x0 y0 sx sy cx cy r):∀i,Hz 20 (Z6 x0 y0 sx sy cx cy r i):=by
 have z:∀{n:Int},0<=n/\n<=100000->Hz 6 (n:Rat):=λh=>Hz.int (by rw[show(10:Nat)^6=1000000 by decide];omega)
 have h3:Hz 1 ((3:Int):Rat):=Hz.int (by decide);have h2:Hz 1 ((2:Int):Rat):=Hz.int (by decide);have d3:Hz 8 ((sx:Rat)/((3:Int):Rat)):=(z (n:=sx) ⟨by have:=h.sx;omega,h.sx.2⟩).div h3 (by decide) (by omega);have d2:Hz 8 ((sy:Rat)/((2:Int):Rat)):=(z (n:=sy) ⟨by have:=h.sy;omega,h.sy.2⟩).div h2 (by decide) (by omega);have hk:Hz 6 ((1000:Int):Rat):=Hz.int (by decide);intro i
 match i with
 |0=>exact(z h.x0).mono (by omega)
 |1=>exact(z h.y0).mono (by omega)
 |2=>exact d3.mono (by omega)
 |3=>exact d2.mono (by omega)
 |4=>exact(z h.cx).mono (by omega)
 |5=>exact(z h.cy).mono (by omega)
 |6=>exact(z (n:=r) ⟨by have:=h.r;omega,by have:=h.r;omega⟩).mono (by omega)
 |7=>exact Hz.zero
 |8=>exact Hz.one
 |9=>exact d3.sub hk
 |10=>exact d2.sub hk
 |n+11=>exact Hz.zero
theorem Np {a b:Int} (h:a<b):(a:Rat)<(b:Rat):=Rat.intCast_lt_intCast.2 h
theorem Nq (h:ShN x0 y0 sx sy cx cy r):Ue (Z6 x0 y0 sx sy cx cy r) bsT:=by
 have a1:((5999:Int):Rat)<sx:=Np (by have:=h.sx;omega);have a2:((5999:Int):Rat)<sy:=Np (by have:=h.sy;omega);have a3:((0:Int):Rat)<r:=Np (by have:=h.r;omega);have e1:(sx:Rat)/((3:Int):Rat)*3=sx:=by
  show(sx:Rat)/3*3=sx
  grind
 have e2:(sy:Rat)/((2:Int):Rat)*2=sy:=by
  show(sy:Rat)/2*2=sy
  grind
 have b1:(5999:Rat)<sx:=a1;have b2:(5999:Rat)<sy:=a2;intro i hi
 match i,hi with
 |0,h=>cases h
 |1,h=>cases h
 |2,_=>
  show 0<(sx:Rat)/((3:Int):Rat);generalize (sx:Rat)/((3:Int):Rat)=x at *
  grind
 |3,_=>
  show 0<(sy:Rat)/((2:Int):Rat);generalize (sy:Rat)/((2:Int):Rat)=x at *
  grind
 |4,h=>cases h
 |5,h=>cases h
 |6,_=>exact a3
 |7,h=>cases h
 |8,_=>show(0:Rat)<1;decide
 |9,_=>
  show 0<(sx:Rat)/((3:Int):Rat)-1000;generalize (sx:Rat)/((3:Int):Rat)=x at *
  grind
 |10,_=>
  show 0<(sy:Rat)/((2:Int):Rat)-1000;generalize (sy:Rat)/((2:Int):Rat)=x at *
  grind
 |n+11,h=>cases h
theorem Yy:evP (Z6 x0 y0 sx sy cx cy r) lX0=(x0:Rat):=evL _ 0
theorem Yz:evP (Z6 x0 y0 sx sy cx cy r) lY0=(y0:Rat):=evL _ 1
theorem Y0:evP (Z6 x0 y0 sx sy cx cy r) lX1=((x0+sx:Int):Rat):=by
 unfold lX1;rw[xT,zx,Yy,evK,evL,I0];show(x0:Rat)+((3:Int):Rat)*((sx:Rat)/((3:Int):Rat))=x0+sx;show(x0:Rat)+3*((sx:Rat)/3)=x0+sx
 grind
theorem Y1:evP (Z6 x0 y0 sx sy cx cy r) lY1=((y0+sy:Int):Rat):=by
 unfold lY1;rw[xT,zx,Yz,evK,evL,I0];show(y0:Rat)+2*((sy:Rat)/2)=y0+sy
 grind
theorem Ig:evP (Z6 x0 y0 sx sy cx cy r) lXm=((x0+sx-3000:Int):Rat):=by
 unfold lXm;rw[xT,Y0,evK,<-I0];rfl
theorem Ih:evP (Z6 x0 y0 sx sy cx cy r) lYm=((y0+sy-2000:Int):Rat):=by
 unfold lYm;rw[xT,Y1,evK,<-I0];rfl
theorem Ii:evP (Z6 x0 y0 sx sy cx cy r) (lt 4)=(cx:Rat):=evL _ 4
theorem Ij:evP (Z6 x0 y0 sx sy cx cy r) (lt 5)=(cy:Rat):=evL _ 5
theorem S5:evP (Z6 x0 y0 sx sy cx cy r) (lt 6)=(r:Rat):=evL _ 6
theorem S6 (h:ShN x0 y0 sx sy cx cy r):WhB (Z6 x0 y0 sx sy cx cy r):=by
 obtain⟨a1,a2,a3,a4,a5,a6,a7⟩:=h;refine⟨λp hp=>?_,r.toNat,by omega,by rw[S5,Int.toNat_of_nonneg (by omega)]⟩;simp only[whL,List.mem_cons,List.not_mem_nil,or_false]at hp;rcases hp with rfl|rfl|rfl|rfl|rfl|rfl|rfl|rfl|rfl|rfl|rfl|rfl|rfl
 .exact⟨_,Yy,by omega⟩
 .exact⟨_,Y0,by omega⟩
 .exact⟨_,Ig,by omega⟩
 .exact⟨_,Yz,by omega⟩
 .exact⟨_,Y1,by omega⟩
 .exact⟨_,Ih,by omega⟩
 .exact⟨_,Ii,by omega⟩
 .exact⟨_,Ij,by omega⟩
 .exact⟨_,S5,by omega⟩
 .exact⟨cx+r,by rw[xT,Ii,S5,<-I0],by omega⟩
 .exact⟨cx-r,by rw[zL,Ii,S5,<-I1],by omega⟩
 .exact⟨cy+r,by rw[xT,Ij,S5,<-I0],by omega⟩
 .exact⟨cy-r,by rw[zL,Ij,S5,<-I1],by omega⟩
theorem Ik {ρ:Nat->Rat} (hp:Ue ρ bsT) (ha:ρ 2=ρ 9+1000) (hb:ρ 3=ρ 10+1000):∀p s,sg0 p=some s->sr (evP ρ p)=s:=by
 refine λp s hs=>Si ρ hp ?_ p s hs
 intro j q h;unfold sgT at h;have k1:evP ρ (kP 1000)=1000:=evK ρ 1000
 match j,h with
 |0,h=>obtain rfl:=Hx h;exact evL ρ 0
 |1,h=>obtain rfl:=Hx h;exact evL ρ 1
 |2,h=>obtain rfl:=Hx h;rw[xT,evL,k1,ha]
 |3,h=>obtain rfl:=Hx h;rw[xT,evL,k1,hb]
 |4,h=>obtain rfl:=Hx h;exact evL ρ 4
 |5,h=>obtain rfl:=Hx h;exact evL ρ 5
 |6,h=>obtain rfl:=Hx h;exact evL ρ 6
 |7,h=>obtain rfl:=Hx h;exact evL ρ 7
 |8,h=>obtain rfl:=Hx h;exact evL ρ 8
 |9,h=>obtain rfl:=Hx h;exact evL ρ 9
 |10,h=>obtain rfl:=Hx h;exact evL ρ 10
 |n+11,h=>cases h
theorem Il:Z6 x0 y0 sx sy cx cy r 2=Z6 x0 y0 sx sy cx cy r 9+1000:=by
 show(sx:Rat)/((3:Int):Rat)=(sx:Rat)/((3:Int):Rat)-1000+1000
 grind
theorem Im:Z6 x0 y0 sx sy cx cy r 3=Z6 x0 y0 sx sy cx cy r 10+1000:=by
 show(sy:Rat)/((2:Int):Rat)=(sy:Rat)/((2:Int):Rat)-1000+1000
 grind
theorem wc (h:ShN x0 y0 sx sy cx cy r): @RunsT (jP (Z6 x0 y0 sx sy cx cy r)):=by
 letI:Env:=jP (Z6 x0 y0 sx sy cx cy r)
 haveI ht:xr:=dF (If h) (Nq h) Il Im (S6 h).wo
 haveI:BdOk:=bdOk (Ik (Nq h) Il Im) (S6 h) ht (Vz (C:=KT) (C':=CC) rfl rfl Tk.tabL_ok)
 exact dU
end
end Eng
end
section
namespace Eng
open Go Go.Proofs Rl
def esK:Nat->List (List D)
 |0=>[Dl,Dm,Dn,Do]
 |1=>[Ds,Dt,Du,Dv,Dw]
 |_=>[Dp,Dq,Dr]
def esD:List (List D):=[AJ,AK]
def esE:List (List D):=[AL,AM]
theorem GW (k:Nat):rgK k=[.ag [.sl (esK k)]]:=by
 match k with
 |0=>rfl
 |1=>rfl
 |n+2=>rfl
def plR (ρ:Nat->Rat) (es:List (List D)):List (List D):=es.map (List.map (evD (jP ρ)))
def tpR (es:List (List D)):Bool:=es.all λe=>e.all tp1
theorem GX (k:Nat):tpR (esK k)=true:=by
 match k with
 |0=>exact(show tpR [Dl,Dm,Dn,Do]=true by kernel_rfl)
 |1=>exact(show tpR [Ds,Dt,Du,Dv,Dw]=true by kernel_rfl)
 |n+2=>exact(show tpR [Dp,Dq,Dr]=true by kernel_rfl)
theorem In (k:Nat):tpR (lK k)=true:=by
 match k with
 |0=>exact(show tpR (lK 0)=true by kernel_rfl)
 |1=>exact(show tpR (lK 1)=true by kernel_rfl)
 |n+2=>exact(show tpR (lK 2)=true by kernel_rfl)
theorem b8:tpR esD=true:=by kernel_rfl
theorem tp_E:tpR esE=true:=by kernel_rfl
theorem D8 {es:List (List D)} (h:tpR es=true):tpA (.c (.sl es))=true:=by
 show tp2 (.sl es)=true;unfold tp2;exact h
theorem ZQ {es:List (List D)} (h:tpR es=true):tpA (.ag [.sl es])=true:=by
 show(tp2 (.sl es)&&true)=true;rw[show tp2 (.sl es)=true from D8 h];rfl
theorem Ul {a:A} (h:tpA a=true):[a].all tpA=true:=by simp[h]
theorem Nr {a b:A} (h:tpA a=true) (k:tpA b=true):[a,b].all tpA=true:=by simp[h,k]
abbrev rS:=Z6
def bxI (x0 y0 x1 y1:Int):List D:=rk (q4 (x0:Rat)) (rk (q4 (y0:Rat)) (rk (q4 (x1:Rat)) (rk (q4 (y1:Rat)) [])))
def ciI (x y q:Int):List D:=rk (q4 (x:Rat)) (rk (q4 (y:Rat)) (rk (q4 (q:Rat)) []))
section
variable {x0 y0 sx sy cx cy r:Int}
theorem D9 (ρ:Nat->Rat) (p:Pol) (l:List Pol):(tkR (p::l)).map (evX (jP ρ))=rk (q4 (evP ρ p)) ((tkR l).map (evX (jP ρ))):=rfl
theorem DA (ρ:Nat->Rat) (p q:Pol):(vcT p q).map (evD (jP ρ))=rk (q4 (evP ρ p)) (rk (q4 (evP ρ q)) []):=rfl
theorem Io (k:Nat) (hk:k<3):(b7 k).map (evA (jP (Z6 x0 y0 sx sy cx cy r)))=[.c (.sl (Dy x0 y0 (x0+sx) (y0+sy) k))]:=by
 match k,hk with
 |0,_=>show [A.c (.sl [(vcT lX0 lY0).map (evD _),(vcT lX1 lY0).map (evD _),(vcT lX1 lY1).map (evD _),(vcT lX0 lY1).map (evD _)])]=_;simp only[DA,Yy,Yz,Y0,Y1];rfl
 |1,_=>show [A.c (.sl [(vcT lX0 lY0).map (evD _),(vcT lX1 lY0).map (evD _),(vcT lX1 lYm).map (evD _),(vcT lXm lY1).map (evD _),(vcT lX0 lY1).map (evD _)])]=_;simp only[DA,Yy,Yz,Y0,Y1,Ig,Ih];rfl
 |2,_=>show [A.c (.sl [(vcT lX0 lY0).map (evD _),(vcT lX1 lY0).map (evD _),(vcT lX0 lY1).map (evD _)])]=_;simp only[DA,Yy,Yz,Y0,Y1];rfl
theorem dW:[A.ag bxK].map (evA (jP (Z6 x0 y0 sx sy cx cy r)))=[.ag (bxI x0 y0 (x0+sx) (y0+sy))]:=by
 show [A.ag ((tkR [lX0,lY0,lX1,lY1]).map (evX _))]=_;simp only[D9,Yy,Yz,Y0,Y1];rfl
theorem Ip:[A.ag bxK,tA].map (evA (jP (Z6 x0 y0 sx sy cx cy r)))=[.ag (bxI x0 y0 (x0+sx) (y0+sy)),tA]:=by
 show [A.ag ((tkR [lX0,lY0,lX1,lY1]).map (evX _)),tA]=_;simp only[D9,Yy,Yz,Y0,Y1];rfl
theorem S7:[A.ag dH].map (evA (jP (Z6 x0 y0 sx sy cx cy r)))=[.ag (ciI cx cy (r*r))]:=by
 show [A.ag ((tkR [lt 4,lt 5,ZA (lt 6) (lt 6)]).map (evX _))]=_;simp only[D9,zx,Ii,Ij,S5,<-Hy];rfl
end
section
variable {x0 y0 sx sy cx cy r:Int} (h:ShN x0 y0 sx sy cx cy r)
include h
theorem Iq (k:Nat) (hk:k<3) (E:Env): @Gives E CC 21 [.c (.sl (Dy x0 y0 (x0+sx) (y0+sy) k))] [.c (.sl (plR (rS x0 y0 sx sy cx cy r) (lK k)))]/\ @Gives E CC 20 [.c (.sl (plR (rS x0 y0 sx sy cx cy r) (lK k)))] [.ag [.sl (plR (rS x0 y0 sx sy cx cy r) (esK k))],okA]:=by
 obtain⟨g1,g2⟩:= @RunsT.pf (jP (rS x0 y0 sx sy cx cy r)) (wc h) k hk;rw[GW]at g2;have tpp:(b7 k).all tpA=true:=by
  match k,hk with
  |0,_=>exact(show pol0.all tpA=true by kernel_rfl)
  |1,_=>exact(show pol1.all tpA=true by kernel_rfl)
  |2,_=>exact(show pol2.all tpA=true by kernel_rfl)
 have e1:=xF g1 tpp (Ul (D8 (In k))) E;rw[Io k hk]at e1;exact⟨e1,xF g2 (Ul (D8 (In k))) (Nr (ZQ (GX k)) rfl) E⟩
theorem Rk (E:Env): @Gives E CC 25 [.ag (bxI x0 y0 (x0+sx) (y0+sy))] [.ag [.sl (plR (rS x0 y0 sx sy cx cy r) (esK 0))],okA]:=by
 have g:= @RunsT.rect (jP (rS x0 y0 sx sy cx cy r)) (wc h);rw[GW]at g;have e:=xF g (by kernel_rfl) (Nr (ZQ (GX 0)) rfl) E;rw[dW]at e;exact e
theorem Rm (E:Env): @Gives E CC 23 [.ag (ciI cx cy (r*r))] [.ag [.sl (plR (rS x0 y0 sx sy cx cy r) esD)],okA]:=by
 have g:= @RunsT.disc (jP (rS x0 y0 sx sy cx cy r)) (wc h);have e:=xF (rs:=[.ag [.sl esD],okA]) g (by kernel_rfl) (Nr (ZQ b8) rfl) E;rw[S7]at e;exact e
theorem Ns (E:Env): @Gives E CC 69 [.ag (ciI cx cy (r*r))] [.ag [.sl (plR (rS x0 y0 sx sy cx cy r) esE)],okA]:=by
 have g:= @RunsT.pdisc (jP (rS x0 y0 sx sy cx cy r)) (wc h);have e:=xF (rs:=[.ag [.sl esE],okA]) g (by kernel_rfl) (Nr (ZQ tp_E) rfl) E;rw[S7]at e;exact e
theorem DB (E:Env): @Gives E CC 70 [.ag [.sl (plR (rS x0 y0 sx sy cx cy r) esD)],.ag [.sl (plR (rS x0 y0 sx sy cx cy r) esE)]] [tA]:=
 xF (al:=[.ag [.sl esD],.ag [.sl esE]]) (@RunsT.peq (jP (rS x0 y0 sx sy cx cy r)) (wc h)) (Nr (ZQ b8) (ZQ tp_E)) rfl E
theorem Nt (k:Nat) (hk:k<3) (E:Env): @Gives E CC 149 [.ag [.sl (plR (rS x0 y0 sx sy cx cy r) (esK k))]] [tA]:=by
 have g:= @RunsT.val (jP (rS x0 y0 sx sy cx cy r)) (wc h) k hk;rw[GW]at g;exact xF g (Ul (ZQ (GX k))) rfl E
theorem DC (k:Nat) (hk:k<3) (E:Env): @Gives E CC 32 [.ag [.sl (plR (rS x0 y0 sx sy cx cy r) (esK k))]] [.ag (bxI x0 y0 (x0+sx) (y0+sy)),tA]:=by
 have g:= @RunsT.bnd (jP (rS x0 y0 sx sy cx cy r)) (wc h) k hk;rw[GW]at g;have e:=xF g (Ul (ZQ (GX k))) (by kernel_rfl) E;rw[Ip]at e;exact e
theorem Rn (E:Env): @Gives E CC 149 [.ag [.sl (plR (rS x0 y0 sx sy cx cy r) esD)]] [tA]:=xF (al:=[.ag [.sl esD]]) (@RunsT.valD (jP (rS x0 y0 sx sy cx cy r)) (wc h)) (Ul (ZQ b8)) rfl E
theorem DD (E:Env): @Gives E CC 150 [.ag [.sl (plR (rS x0 y0 sx sy cx cy r) esD)]] [tA]:=xF (al:=[.ag [.sl esD]]) (@RunsT.rnd (jP (rS x0 y0 sx sy cx cy r)) (wc h)) (Ul (ZQ b8)) rfl E
end
theorem KK (a b:Int):Vi a b=sr ((a:Rat)-(b:Rat)):=by
 rw[<-MZ];unfold Vi kd;by_cases h:a<b
 .rw[decide_eq_true h,if_pos h]
 .rw[decide_eq_false h,if_neg h];by_cases e:a=b
  .rw[decide_eq_true e,if_neg (by omega)]
  .rw[decide_eq_false e,if_pos (by omega)]
section
variable [Env]
omit [Env] in
theorem S8 {n:Int} (h:n.natAbs<=1000000000):Sr (n:Rat):=(Hz.int (k:=20) (by rw[show(10:Nat)^20=100000000000000000000 by decide];omega)).sr (by omega)
theorem Ir {k:Ids} (hk:NumOk k) {bF:Nat} {g:GF} {x0 y0 x1 y1:Int} (hb:Gives CC bF [.ag [.sl g.es]] [.ag (bxI x0 y0 x1 y1),tA]) (b0:x0.natAbs<=1000000) (b1:y0.natAbs<=1000000) (b2:x1.natAbs<=1000000) (b3:y1.natAbs<=1000000) (ex:g.wx=x1-x0) (ey:g.wy=y1-y0):BoxOk bF k.sub k.int k.cmp g:=by
 have s1:=hk.sub _ _ (S8 (n:=x1) (by omega)) (S8 (n:=x0) (by omega));have s2:=hk.sub _ _ (S8 (n:=y1) (by omega)) (S8 (n:=y0) (by omega));rw[<-I1,<-ex]at s1;rw[<-I1,<-ey]at s2;have cm:∀a b:Int,a.natAbs<=1000000000->b.natAbs<=1000000000->Gives CC k.cmp [xv (a:Rat),xv (b:Rat)] [.c (.int .i64 (Vi a b))]:=λa b ha hb=>by have:=hk.cmp _ _ (S8 ha) (S8 hb);rw[<-KK]at this;exact this
 refine⟨q4 (x0:Rat),q4 (y0:Rat),q4 (x1:Rat),q4 (y1:Rat),q4 (g.wx:Rat),q4 (g.wy:Rat),hb,s1,s2,cm _ _ (by omega) (by omega),λn n1 n2=>⟨q4 (n:Rat),hk.int n (by omega) (by omega),cm _ _ (by omega) (by omega),cm _ _ (by omega) (by omega)⟩⟩
theorem dX (m:Int) (h0:0<=m) (h1:m<=100000000):∃r:R4,Gives CC 72 [.c (.int .i64 m)] [.ag (rk r [])]/\Aa r m:=by
 refine⟨q4 (m:Rat),numK_G.int m (by omega) (by omega),λn n1 n2=>⟨q4 (n:Rat),numK_G.int n (by omega) (by omega),?_⟩⟩;have:=numK_G.cmp _ _ (S8 (n:=n) (by omega)) (S8 (n:=m) (by omega));rw[<-KK]at this;exact this
end
end Eng
end
section
namespace Eng
open Go Go.Proofs Rl
def nmP:List UInt8:=[112,111,99,107,101,116]
def nmH:List UInt8:=[104,111,108,101]
def nmO:List UInt8:=[111,117,116,108,105,110,101]
section
variable [Env]
theorem dY {f:Nat} {al rs:List A} (h:wv RX CC 1000 40 f al=some rs):Gives CC f al rs:=z9 (C:=CC) (tab:=RX) (lim:=1000) mixedT (λf al rs h=>K0 f al rs h) 40 _ _ _ h
theorem dZ:Gives CC 148 [.c (.str nmP)] [.c (.bool true)]:=dY (by kernel_rfl)
theorem ee:Gives CC 148 [.c (.str nmH)] [.c (.bool true)]:=dY (by kernel_rfl)
theorem ef:Gives CC 148 [.c (.str nmO)] [.c (.bool true)]:=dY (by kernel_rfl)
end
def gfP (es:List (List D)) (d sx sy:Int):GF:=⟨⟨nmP,1,d,es⟩,sx,sy,0⟩
def gfH (es:List (List D)) (d r:Int):GF:=⟨⟨nmH,3,d,es⟩,2*r,2*r,r⟩
def gfO (es:List (List D)) (s:Int):GF:=⟨⟨nmO,4,6000,es⟩,s,s,0⟩
theorem Nu (ρ:Nat->Rat) (es:List (List D)):(plR ρ es).length=es.length:=by simp[plR]
theorem DE [Env] {R:Int} (hR:1<=R/\R<=30000) {t:TL} (ht:t.Ok) (hk:t.k=1\/t.k=2):Gives CC 89 [.ag (tlD t),.ag (rk (q4 ((R*R:Int):Rat)) [])] [.c (.bool (Gz R t))]:=by
 have hr:=ht.r;unfold lnI at hr;have z:∀{n:Int},n.natAbs<=10000000->Hz 7 (n:Rat):=λh=>Hz.int (by rw[show(10:Nat)^7=10000000 by decide];exact h)
 have zr:=z (n:=t.r) (by omega);have zR:=z (n:=R) (by omega);have z4:=z (n:=4) (by omega);have g1:=numK_G.int t.r (by omega) (by omega);have g2:=numK_G.mul _ _ (zr.sr (by omega)) (zr.sr (by omega));rw[<-Hy]at g2;have a0:Hz 14 ((t.r*t.r:Int):Rat):=by rw[Hy];exact zr.mul zr
 have a1:Hz 14 ((R*R:Int):Rat):=by rw[Hy];exact zR.mul zR
 have g3:=numK_G.cmp _ _ (a0.sr (by omega)) (a1.sr (by omega));have g4:=numK_G.int 4 (by omega) (by omega);have g5:=numK_G.mul _ _ (z4.sr (by omega)) (a0.sr (by omega));rw[<-Hy]at g5;have z4r:Hz 21 ((4*(t.r*t.r):Int):Rat):=by rw[Hy];exact z4.mul a0
 have g6:=numK_G.cmp _ _ (a1.sr (by omega)) (z4r.sr (by omega));rw[<-KK]at g3 g6;have m1:t.r*t.r<R*R↔t.r<R:=by
  constructor
  .intro q;rcases F0 t.r R with w|w
   .exact w
   .have:=Bx w w (by omega) (by omega);omega
  .intro q;have:=Dd q (show t.r<=R by omega) (by omega) (by omega);exact this
 have m2:t.r*t.r=R*R↔t.r=R:=by
  constructor
  .intro q;rcases Int.lt_trichotomy t.r R with w|w|w
   .have:=m1.2 w;omega
   .exact w
   .have:=Dd w (show R<=t.r by omega) (by omega) (by omega);omega
  .intro q;rw[q]
 have m3:R*R<=4*(t.r*t.r)↔R<=2*t.r:=by
  have e:4*(t.r*t.r)=(2*t.r)*(2*t.r):=by grind
  rw[e];constructor
  .intro q;rcases F0 (2*t.r) R with w|w
   .have:=Dd w (show 2*t.r<=R by omega) (by omega) (by omega);omega
   .exact w
  .intro q;exact Bx q q (by omega) (by omega)
 unfold tlD;refine qm (C:=CC) (anns:=an0) mixedT Tryz.func89 ?_;rw[Px];refine⟨q4 (t.r:Rat),g1,q4 ((t.r*t.r:Int):Rat),g2,_,g3,?_⟩;unfold Gz;have c0:(Vi (t.r*t.r) (R*R)==0)=(t.r==R):=by
  rw[Bool.eq_iff_iff,beq_iff_eq,beq_iff_eq,<-m2];unfold Vi;by_cases q:t.r*t.r<R*R
  .rw[decide_eq_true q];constructor
   .intro w;cases w
   .intro w;omega
  .rw[decide_eq_false q];by_cases q2:t.r*t.r=R*R
   .rw[decide_eq_true q2];exact⟨λ_=>q2,λ_=>rfl⟩
   .rw[decide_eq_false q2];exact⟨λw=>(by cases w),λw=>absurd w q2⟩
 rcases hk with e|e<;>rw[e]
 .refine brb (λw=>by cases w) λ_=>brb (λw=>by cases w) λ_=>?_
  rw[Mc,decide_eq_decide.2 m1];refine brb (λw=>⟨q4 ((4:Int):Rat),g4,q4 ((4*(t.r*t.r):Int):Rat),g5,_,g6,?_⟩) λw=>?_
  .rw[Cm,decide_eq_decide.2 m3,w];rfl
  .rw[w];rfl
 .refine brb (λ_=>?_) λw=>by cases w
  rw[c0];rfl
theorem Z7 [Env] {n:Int} (hn:n.natAbs<=1000000):Gives CC 67 [.ag (rk (q4 (n:Rat)) [])] [.c (.int .i64 n),.c (.bool true)]:=by
 have z:Hz 6 (n:Rat):=Hz.int (by rw[show(10:Nat)^6=1000000 by decide];exact hn);have sm:Sm n:=by have:=(z.sr (by omega)).1.sm;rwa [I2]at this
 have g1:=EF sm;have i1:Vt n=(n,true):=if_pos (by omega);rw[i1,qX]at g1;have g2:=numK_G.int n (by omega) (by omega);have g3:=numK_G.cmp _ _ (z.sr (by omega)) (z.sr (by omega));rw[<-KK]at g3;have c3:Vi n n=0:=by unfold Vi;rw[decide_eq_false (by omega),decide_eq_true rfl]
 rw[c3]at g3;have g4:Gives CC 124 [.c (.int .i64 n)] [.c (.bool true)]:=by
  refine qm (C:=CC) (anns:=an0) mixedT Tryz.func124 ?_;rw[FZ];refine brd (λ_=>?_) λw=>by omega
  rw[decide_eq_true (by omega)]
 have eb:R4.b (q4 (n:Rat))=decide (n<0):=by show decide ((n:Rat).num<0)=_;rw[I2]
 have el:R4.l (q4 (n:Rat))=raw (lim n.natAbs):=by show raw (lim (n:Rat).num.natAbs)=_;rw[I2]
 refine qm (C:=CC) (anns:=an0) mixedT Tryz.func67 ?_;rw[Mb,eb,el];exact⟨_,_,g1,Qd (λ_=>⟨q4 (n:Rat),g2,_,g3,brb (λ_=>⟨_,g4,rfl⟩) λw=>by cases w⟩) λw=>by cases w⟩
section
variable {x0 y0 sx sy cx cy r:Int} (h:ShN x0 y0 sx sy cx cy r)
include h
theorem eh [E:Env] {k:Nat} (hk:k<3) {d:Int} (hd:1<=d/\d<=6000):GOk (gfP (plR (rS x0 y0 sx sy cx cy r) (esK k)) d sx sy):=by
 obtain⟨a1,a2,a3,a4,a5,a6,a7⟩:=h;have h:ShN x0 y0 sx sy cx cy r:=⟨a1,a2,a3,a4,a5,a6,a7⟩;refine⟨⟨dZ,Nt h k hk E,?_,hd,.inl rfl⟩,λ_=>?_,λe=>(by cases e)⟩
 .show 0<(plR _ (esK k)).length;rw[Nu]
  match k,hk with
  |0,_=>exact(show 0<4 by omega)
  |1,_=>exact(show 0<5 by omega)
  |2,_=>exact(show 0<3 by omega)
 .exact Ir numK_G (DC h k hk E) (by omega) (by omega) (by omega) (by omega) (by show sx=_;omega) (by show sy=_;omega)
theorem ej [E:Env] (_:sx=sy):GOk (gfO (plR (rS x0 y0 sx sy cx cy r) (esK 0)) sx):=by
 obtain⟨a1,a2,a3,a4,a5,a6,a7⟩:=h;have h:ShN x0 y0 sx sy cx cy r:=⟨a1,a2,a3,a4,a5,a6,a7⟩;refine⟨⟨ef,Nt h 0 (by omega) E,?_,⟨by show(1:Int)<=6000;omega,by show(6000:Int)<=6000;omega⟩,.inr (.inr ⟨rfl,rfl⟩)⟩,λe=>(by cases e),λe=>(by cases e)⟩
 .show 0<(plR _ (esK 0)).length;rw[Nu];exact(show 0<4 by omega)
theorem ek [E:Env] {d:Int} (hd:1<=d/\d<=6000):GOk (gfH (plR (rS x0 y0 sx sy cx cy r) esD) d r):=by
 obtain⟨a1,a2,a3,a4,a5,a6,a7⟩:=h;have h:ShN x0 y0 sx sy cx cy r:=⟨a1,a2,a3,a4,a5,a6,a7⟩;have eq:evP (rS x0 y0 sx sy cx cy r) (ZA (lt 6) (lt 6))=((r*r:Int):Rat):=by rw[zx,S5,<-Hy]
 have row:cut (nth [] (plR (rS x0 y0 sx sy cx cy r) esD) 0) 13 12 (ciI cx cy (r*r)):=by
  have e:ciI cx cy (r*r)=rk (q4 (evP (rS x0 y0 sx sy cx cy r) (lt 4))) (rk (q4 (evP (rS x0 y0 sx sy cx cy r) (lt 5))) (rk (q4 (evP (rS x0 y0 sx sy cx cy r) (ZA (lt 6) (lt 6)))) [])):=by rw[Ii,Ij,eq];rfl
  rw[e];exact⟨rfl,by show 13+12<=66;omega⟩
 have a0:cut (nth [] (plR (rS x0 y0 sx sy cx cy r) esD) 0) 21 4 (rk (q4 ((r*r:Int):Rat)) []):=by rw[<-eq];exact⟨rfl,by show 21+4<=66;omega⟩
 have r2:r*r<=900000000:=by have:=Bx a7.2 a7.2 (by omega) (by omega);omega
 have g1:=Z7 (n:=cx) (by omega);have g2:=Z7 (n:=cy) (by omega);have g4:=Z7 (n:=r) (by omega);have z:Hz 6 (r:Rat):=Hz.int (by rw[show(10:Nat)^6=1000000 by decide];omega);have g3:=GH z (by omega) (by rw[show(0:Rat)=((0:Int):Rat)from rfl,Rat.intCast_le_intCast];omega);rw[<-Hy]at g3;refine⟨⟨ee,Rn h E,(by show 0<2;omega),hd,.inr (.inl ⟨rfl,DD h E⟩)⟩,λe=>(by cases e),λ_=>⟨⟨_,rfl,a0,λt ht hk=>DE a7 ht hk⟩,⟨cx,cy,?_⟩,⟨by show 1<=r;omega,by show r<=_;omega⟩⟩⟩
 .refine qm (C:=CC) (anns:=an0) mixedT Tryz.func28 ?_;unfold ftD gfH;rw[HW];refine brb (λw=>by cases w) λ_=>brb (λw=>by cases w) λ_=>⟨⟨by omega,by show(0:Int)<2;omega,rfl⟩,true,⟨rfl,by show 0+1<=66;omega⟩,brb (λw=>by cases w) λ_=>⟨⟨by omega,by show(0:Int)<2;omega,rfl⟩,_,_,_,row,_,_,g1,_,_,g2,_,_,g3,?_⟩⟩
  refine brb (λw=>by cases w) λ_=>brb (λw=>by cases w) λ_=>brb (λw=>by cases w) λ_=>⟨_,_,g4,_,_,Ns h E,?_⟩
  exact brb (λw=>by cases w) λ_=>brd (λw=>by omega) λ_=>brb (λw=>by cases w) λ_=>⟨_,DB h E,brb (λw=>by cases w) λ_=>rfl⟩
end
end Eng
end
section
namespace Eng
open Go Go.Proofs Rl
structure ShI (a0 a1 a2 a3 co h0 h1 h2 fr d0 d1 c0 c1 c2 m0 m1 m2 dr:Int):Prop where
 p:0<=a0/\0<=a1/\0<=a2/\0<=a3
 co:0<=co
 h:0<=h0/\0<=h1/\0<=h2
 fr:0<=fr
 d:0<=d0/\0<=d1
 c:0<=c0/\0<=c1/\0<=c2
 m:0<=m0/\0<=m1/\0<=m2
 dr:0<=dr
def cxI (h:Int):Int:=1000*Aw h 30
def rI (h:Int):Int:=1000*(1+Aw h 5)
def frI (f:Int):Int:=500*Aw f 12
def dpI (d:Int):Int:=500*(1+Aw d 12)
theorem S9 (co:Int):kOf co<3:=by
 unfold kOf;split
 .omega
 .split<;>omega
section
variable {a0 a1 a2 a3 co h0 h1 h2 fr d0 d1 c0 c1 c2 m0 m1 m2 dr:Int} (h:ShI a0 a1 a2 a3 co h0 h1 h2 fr d0 d1 c0 c1 c2 m0 m1 m2 dr)
include h
theorem Is:ShN (loI a0) (loI a1) (siI a2) (siI a3) (cxI h0) (cxI h1) (rI h2):=by
 have b0:=xt (b:=12) h.p.1 (by omega);have b1:=xt (b:=12) h.p.2.1 (by omega);have b2:=xt (b:=5) h.p.2.2.1 (by omega);have b3:=xt (b:=5) h.p.2.2.2 (by omega);have b4:=xt (b:=30) h.h.1 (by omega);have b5:=xt (b:=30) h.h.2.1 (by omega);have b6:=xt (b:=5) h.h.2.2 (by omega);unfold loI siI cxI rI;exact⟨by omega,by omega,by omega,by omega,by omega,by omega,by omega⟩
theorem It:ShN (frI fr) (frI fr) (30000-2*frI fr) (30000-2*frI fr) 0 0 1:=by
 have b0:=xt (b:=12) h.fr (by omega);unfold frI;exact⟨by omega,by omega,by omega,by omega,by omega,by omega,by omega⟩
end
def fP (a0 a1 a2 a3 co h0 h1 h2 d0:Int):GF:=gfP (plR (rS (loI a0) (loI a1) (siI a2) (siI a3) (cxI h0) (cxI h1) (rI h2)) (esK (kOf co))) (dpI d0) (siI a2) (siI a3)
def fH (a0 a1 a2 a3 h0 h1 h2 d1:Int):GF:=gfH (plR (rS (loI a0) (loI a1) (siI a2) (siI a3) (cxI h0) (cxI h1) (rI h2)) esD) (dpI d1) (rI h2)
def fO (fr:Int):GF:=gfO (plR (rS (frI fr) (frI fr) (30000-2*frI fr) (30000-2*frI fr) 0 0 1) (esK 0)) (30000-2*frI fr)
theorem Iu {fs:List FT} (h:(fs.map FT.nm).Nodup):∀i j (hi:i<fs.length) (hj:j<fs.length),fs[i].nm=fs[j].nm->i=j:=λi j hi hj e=>by
 have hp:=List.pairwise_iff_getElem.1 h;rcases Nat.lt_trichotomy i j with q|q|q
 .exact absurd (by rw[Hv,Hv];exact e) (hp i j (by simpa using hi) (by simpa using hj) q)
 .exact q
 .exact absurd (by rw[Hv,Hv];exact e.symm) (hp j i (by simpa using hj) (by simpa using hi) q)
theorem Y2 (n:List UInt8) (k d:Int) (es:List (List D)):lens 4 [[D.str n,.int .i64 k,.int .i64 d,.sl es]]:=by intro x hx;simp at hx;subst hx;rfl
theorem DF [Env] {f:Nat} {fn:Func} {anns:Nat->Ann} {args res:List A} {P:Prop} (hf:Tryz.prog.funcs[f]? =some fn) (e:wpF (CX []) (Gives (CX [])) anns fn args (λr=>r=res)=P) (h:P):Gives CC f args res:=by
 subst e
 haveI:EffOk (CX []):=xd (zK trivial)
 exact xP (C:=CX []) (C':=CC) rfl rfl (qm (C:=CX []) mixedT hf h)
section
variable [E:Env]
theorem wZ {n:Int} (h1:0<=n) (h2:n<=1000000000):Gives CC 24 [.c (.int .i64 n)] [.ag (rk (q4 (n:Rat)) [])]:=by
 refine qm (C:=CC) (anns:=an0) mixedT Tryz.func24 ?_;rw[Mo];exact⟨_,zJ (by omega) (by omega),rfl⟩
theorem Ro (a0 a1 a2 a3 co h0 h1 h2 fr ha d0 d1 c0 c1 c2 m0 m1 m2 dr to:Int) (h:ShI a0 a1 a2 a3 co h0 h1 h2 fr d0 d1 c0 c1 c2 m0 m1 m2 dr):
 ∃b1 b2 b3:Bool,Gives CC 5 [.ag (.int .u8 a0:: .int .u8 a1:: .int .u8 a2:: .int .u8 a3:: .int .u8 co:: .int .u8 h0:: .int .u8 h1:: .int .u8 h2:: .int .u8 fr:: .int .u8 ha:: .int .u8 d0:: .int .u8 d1:: .int .u8 c0:: .int .u8 c1:: .int .u8 c2:: .int .u8 m0:: .int .u8 m1:: .int .u8 m2:: .int .u8 dr:: .int .u8 to::[])] [.ag [.int .i64 6000,.sl (J0 (gsF (gsS b1 b2 b3 (fP a0 a1 a2 a3 co h0 h1 h2 d0) (fH a0 a1 a2 a3 h0 h1 h2 d1) (fO fr))))]]:=by
 refine⟨decide (Uj ha 1>0),decide (Uj ha 2>0),decide (Uj ha 4>0),?_⟩;generalize hR:[A.ag [D.int .i64 6000,.sl (J0 (gsF (gsS (decide (Uj ha 1>0)) (decide (Uj ha 2>0)) (decide (Uj ha 4>0)) (fP a0 a1 a2 a3 co h0 h1 h2 d0) (fH a0 a1 a2 a3 h0 h1 h2 d1) (fO fr))))]]=R;refine DF Tryz.func5 (Rg (Gives (CX [])) a0 a1 a2 a3 co h0 h1 h2 fr ha d0 d1 c0 c1 c2 m0 m1 m2 dr to (· =R)) ?_;have up:∀{f:Nat} {al rs:List A},Gives CC f al rs->Gives (CX []) f al rs:=λq=>xP (C:=CC) (C':=CX []) rfl rfl q
 have n1:=Is h;have nf:=It h;have b0:=xt (b:=12) h.d.1 (by omega);have b1:=xt (b:=12) h.d.2 (by omega);have b2:=xt (b:=30) h.h.1 (by omega);have b3:=xt (b:=30) h.h.2.1 (by omega);have b4:=xt (b:=5) h.h.2.2 (by omega);have b5:=xt (b:=12) h.fr (by omega);have w:∀n:Int,0<=n->n<=1000000000->IntKind.wrap .i64 n=n:=λn p q=>xb (by omega) (by omega)
 have eq:1000000*(1+Aw h2 5)*(1+Aw h2 5)=rI h2*rI h2:=by unfold rI;grind
 have r2:rI h2*rI h2<=30000*30000:=by have:=n1.r;exact Bx this.2 this.2 (by omega) (by omega)
 have r0:0<=rI h2*rI h2:=Int.mul_nonneg (by have:=n1.r;omega) (by have:=n1.r;omega);rw[w (Aw d0 12) (by omega) (by omega),w (1+Aw d0 12) (by omega) (by omega),w (500*(1+Aw d0 12)) (by omega) (by omega),w (Aw d1 12) (by omega) (by omega),w (1+Aw d1 12) (by omega) (by omega),w (500*(1+Aw d1 12)) (by omega) (by omega),
  w (Aw h0 30) (by omega) (by omega),w (1000*Aw h0 30) (by omega) (by omega),w (Aw h1 30) (by omega) (by omega),w (1000*Aw h1 30) (by omega) (by omega),w (Aw h2 5) (by omega) (by omega),w (1+Aw h2 5) (by omega) (by omega),w (1000000*(1+Aw h2 5)) (by omega) (by omega),eq,w (rI h2*rI h2) r0 (by omega),
  w (Aw fr 12) (by omega) (by omega),w (500*Aw fr 12) (by omega) (by omega),w (30000-500*Aw fr 12) (by omega) (by omega)]
 have gp:=Rf a0 a1 a2 a3 co h0 h1 h2 fr ha d0 d1 c0 c1 c2 m0 m1 m2 dr to h.p.1 h.p.2.1 h.p.2.2.1 h.p.2.2.2;obtain⟨pf1,pf2⟩:=Iq n1 (kOf co) (S9 co) E;have gx:=wZ (n:=cxI h0) n1.cx.1 (by have:=n1.cx;omega);have gy:=wZ (n:=cxI h1) n1.cy.1 (by have:=n1.cy;omega);have gq:=wZ (n:=rI h2*rI h2) r0 (by omega);have gd:=Rm n1 E;have gn:=wZ (n:=frI fr) nf.x0.1 (by have:=nf.x0;omega);have e3:30000-frI fr=frI fr+(30000-2*frI fr):=by omega
 have gm:=wZ (n:=30000-frI fr) (by have:=nf.sx;omega) (by have:=nf.x0;omega);have gr:=Rk nf E;rw[<-e3]at gr;have rf:∀n,n<=1000->QK n:=λn hn=>by unfold QK;omega
 exact brd (λt1=>⟨_,up gp,_,up pf1,_,_,up pf2,by omega,⟨rf _ (by omega),Y2 _ _ _ _⟩,brd (λt2=>⟨by omega,_,up gx,by omega,_,up gy,by omega,by omega,_,up gq,_,_,up gd,by omega,⟨rf _ (by omega),Y2 _ _ _ _⟩,brd (λt4=>⟨by omega,_,up gn,_,up gn,_,up gm,_,up gm,_,_,up gr,⟨rf _ (by omega),Y2 _ _ _ _⟩,(by rw[<-hR,decide_eq_true t1,decide_eq_true t2,decide_eq_true t4];rfl)⟩) (λf4=>(by rw[<-hR,decide_eq_true t1,decide_eq_true t2,decide_eq_false f4];rfl))⟩) (λf2=>brd (λt4=>⟨by omega,_,up gn,_,up gn,_,up gm,_,up gm,_,_,up gr,⟨rf _ (by omega),Y2 _ _ _ _⟩,(by rw[<-hR,decide_eq_true t1,decide_eq_false f2,decide_eq_true t4];rfl)⟩) (λf4=>(by rw[<-hR,decide_eq_true t1,decide_eq_false f2,decide_eq_false f4];rfl)))⟩) (λf1=>brd (λt2=>⟨by omega,_,up gx,by omega,_,up gy,by omega,by omega,_,up gq,_,_,up gd,by omega,⟨rf _ (by omega),Y2 _ _ _ _⟩,brd (λt4=>⟨by omega,_,up gn,_,up gn,_,up gm,_,up gm,_,_,up gr,⟨rf _ (by omega),Y2 _ _ _ _⟩,(by rw[<-hR,decide_eq_false f1,decide_eq_true t2,decide_eq_true t4];rfl)⟩) (λf4=>(by rw[<-hR,decide_eq_false f1,decide_eq_true t2,decide_eq_false f4];rfl))⟩) (λf2=>brd (λt4=>⟨by omega,_,up gn,_,up gn,_,up gm,_,up gm,_,_,up gr,⟨rf _ (by omega),Y2 _ _ _ _⟩,(by rw[<-hR,decide_eq_false f1,decide_eq_false f2,decide_eq_true t4];rfl)⟩) (λf4=>(by rw[<-hR,decide_eq_false f1,decide_eq_false f2,decide_eq_false f4];rfl))))
theorem shOk (a0 a1 a2 a3 co h0 h1 h2 fr ha d0 d1 c0 c1 c2 m0 m1 m2 dr to:Int) (h:ShI a0 a1 a2 a3 co h0 h1 h2 fr d0 d1 c0 c1 c2 m0 m1 m2 dr) (hA:Gives (CN []) 4 [] [.c (.bool true)]) {b1 b2 b3:Bool}
 (hp:Gives CC 5 [.ag (.int .u8 a0:: .int .u8 a1:: .int .u8 a2:: .int .u8 a3:: .int .u8 co:: .int .u8 h0:: .int .u8 h1:: .int .u8 h2:: .int .u8 fr:: .int .u8 ha:: .int .u8 d0:: .int .u8 d1:: .int .u8 c0:: .int .u8 c1:: .int .u8 c2:: .int .u8 m0:: .int .u8 m1:: .int .u8 m2:: .int .u8 dr:: .int .u8 to::[])] [.ag [.int .i64 6000,.sl (J0 (gsF (gsS b1 b2 b3 (fP a0 a1 a2 a3 co h0 h1 h2 d0) (fH a0 a1 a2 a3 h0 h1 h2 d1) (fO fr))))]]):
 ShOk (.int .u8 a0:: .int .u8 a1:: .int .u8 a2:: .int .u8 a3:: .int .u8 co:: .int .u8 h0:: .int .u8 h1:: .int .u8 h2:: .int .u8 fr:: .int .u8 ha:: .int .u8 d0:: .int .u8 d1:: .int .u8 c0:: .int .u8 c1:: .int .u8 c2:: .int .u8 m0:: .int .u8 m1:: .int .u8 m2:: .int .u8 dr:: .int .u8 to::[]) (gsS b1 b2 b3 (fP a0 a1 a2 a3 co h0 h1 h2 d0) (fH a0 a1 a2 a3 h0 h1 h2 d1) (fO fr)) (t0S m0) (t1S m1) (t2S m2) (t3S dr) t4S (clA c0 c1 c2):=by
 have n1:=Is h;have nf:=It h;have b0:=xt (b:=12) h.d.1 (by omega);have b1':=xt (b:=12) h.d.2 (by omega);have kP:GOk (fP a0 a1 a2 a3 co h0 h1 h2 d0):=eh n1 (S9 co) (by unfold dpI;omega);have kH:GOk (fH a0 a1 a2 a3 h0 h1 h2 d1):=ek n1 (by unfold dpI;omega);have kO:GOk (fO fr):=ej nf rfl;have hg:∀g∈gsS b1 b2 b3 (fP a0 a1 a2 a3 co h0 h1 h2 d0) (fH a0 a1 a2 a3 h0 h1 h2 d1) (fO fr),GOk g:=λg hg=>by
  have:g=fP a0 a1 a2 a3 co h0 h1 h2 d0\/g=fH a0 a1 a2 a3 h0 h1 h2 d1\/g=fO fr:=by unfold gsS ED at hg;cases b1<;>cases b2<;>cases b3<;>simp at hg<;>grind
  rcases this with rfl|rfl|rfl
  .exact kP
  .exact kH
  .exact kO
 have hcl:=Af h.c.1 h.c.2.1 h.c.2.2;have hc1:(clA c0 c1 c2).length<=50:=by unfold clA;split<;>simp
 refine⟨⟨⟨λf hf=>?_,?_,?_,?_⟩,hg,dJ h.m.1 h.m.2.1 h.m.2.2 h.dr,hcl,hc1,dX⟩,dK,hA,upN hp,upN (Mp a0 a1 a2 a3 co h0 h1 h2 fr ha d0 d1 c0 c1 c2 m0 m1 m2 dr to h.c.1 h.c.2.1 h.c.2.2),upN (Ni a0 a1 a2 a3 co h0 h1 h2 fr ha d0 d1 c0 c1 c2 m0 m1 m2 dr to h.m.1 h.m.2.1 h.m.2.2 h.dr)⟩
 .obtain⟨g,hg',rfl⟩:=Gv.1 hf;exact(hg g hg').f
 .unfold gsS ED gsF;cases b1<;>cases b2<;>cases b3<;>simp
 .cases b1<;>cases b2<;>cases b3<;>simp[gsF,gsS,ED,fP,fH,fO,gfP,gfH,gfO,pfN]
 .refine Iu ?_;cases b1<;>cases b2<;>cases b3
  .exact(show([]:List (List UInt8)).Nodup by decide)
  .exact(show [nmO].Nodup by decide)
  .exact(show [nmH].Nodup by decide)
  .exact(show [nmH,nmO].Nodup by decide)
  .exact(show [nmP].Nodup by decide)
  .exact(show [nmP,nmO].Nodup by decide)
  .exact(show [nmP,nmH].Nodup by decide)
  .exact(show [nmP,nmH,nmO].Nodup by decide)
end
end Eng
end
section
namespace Eng
open Go Go.Proofs Go.RowKit
section
variable [Env]
theorem DG (a0 a1 a2 a3 co h0 h1 h2 fr ha d0 d1 c0 c1 c2 m0 m1 m2 dr to:Int) (h:ShI a0 a1 a2 a3 co h0 h1 h2 fr d0 d1 c0 c1 c2 m0 m1 m2 dr) (hA:Gives (CN []) 4 [] [.c (.bool true)]):Gives (CN []) 3 [.ag (.int .u8 a0:: .int .u8 a1:: .int .u8 a2:: .int .u8 a3:: .int .u8 co:: .int .u8 h0:: .int .u8 h1:: .int .u8 h2:: .int .u8 fr:: .int .u8 ha:: .int .u8 d0:: .int .u8 d1:: .int .u8 c0:: .int .u8 c1:: .int .u8 c2:: .int .u8 m0:: .int .u8 m1:: .int .u8 m2:: .int .u8 dr:: .int .u8 to::[])] [.c (.bool true)]:=by
 obtain⟨b1,b2,b3,hp⟩:=Ro a0 a1 a2 a3 co h0 h1 h2 fr ha d0 d1 c0 c1 c2 m0 m1 m2 dr to h;have hs:=shOk a0 a1 a2 a3 co h0 h1 h2 fr ha d0 d1 c0 c1 c2 m0 m1 m2 dr to h hA hp;refine dm hs λhok=>?_
 exact D2 hs.p hs.s (Mu hs.p.m.ok (dk hs.p.g) hok) (AW rfl rfl rfl b1 b2 b3 _ (AX _ _))
end
end Eng
end
