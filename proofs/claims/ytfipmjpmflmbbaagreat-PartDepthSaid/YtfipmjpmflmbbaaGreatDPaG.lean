/- A table of known results with the document's numbers too. -/
import Derived.Test.YtfipmjpmflmbbaaGreatDPaF
import Derived.Test.YtfipmjpmflmbbaaGreatDPaC
import Derived.Test.YtfipmjpmflmbbaaGreatDPaB
import Derived.Test.YtfipmjpmflmbbaaGreatDEngE
import Derived.Shelf.Lays2
import Derived.Shelf.RegionOpenPlain
import Derived.WalkKit
import Derived.Deep.LoopGhost
import Derived.Deep.RegionLaw
import Derived.Lib.Walk
import Derived.Lib.SliceRun
open Nat renaming eq_of_beq_eq_true→Aw, beq→Bx
open Option.some renaming injEq→Dd
open Rat renaming num_divInt_den→F0, divInt→F2, divInt_add_divInt→Gv, neg_num→Hu
set_option maxRecDepth 1000000
section
namespace Eng
open Go Go.Proofs
theorem tmul (x y:Rat):DQ (x.num*y.num) (x.den*y.den)=jC (x*y):=by
 rw[Z6 (Int.mul_pos (den_pos x) (den_pos y))];have e:x*y=F2 (x.num*y.num) (x.den*y.den):=by rw[←Rat.divInt_mul_divInt,F0,F0]
 rw[←e]
theorem tadd (x y:Rat):DQ (x.num*y.den+y.num*x.den) (x.den*y.den)=jC (x+y):=by
 have px:=den_pos x;have py:=den_pos y;rw[Z6 (Int.mul_pos px py)];have e:x+y=F2 (x.num*y.den+y.num*x.den) (x.den*y.den):=by rw[←Gv _ _ (by omega) (by omega),F0,F0]
 rw[←e]
theorem tsub (x y:Rat):DQ (x.num*y.den+(-y.num)*x.den) (x.den*y.den)=jC (x-y):=by
 have px:=den_pos x;have py:=den_pos y;rw[Z6 (Int.mul_pos px py)];have e:x-y=F2 (x.num*y.den+(-y.num)*x.den) (x.den*y.den):=by
  rw[Rat.sub_eq_add_neg,←Gv _ _ (by omega) (by omega),F0];have:F2 (-y.num) y.den= -y:=by rw[←Hu];exact F0 (-y)
  rw[this]
 rw[←e]
theorem tneg (x:Rat):A.ag (cI (-x.num)++cI x.den)=jC (-x):=by
 unfold jC cR;rw[Hu];rfl
def sgZ (a:Int):Int:=match decide (a<0)with|true=> -1|false=>match decide (0<a)with|true=>1|false=>0
theorem CZ (a:Int):sgZ a=sgn a:=by
 unfold sgZ sgn;by_cases h:a<0
 ·rw[decide_eq_true h,if_pos h]
 ·rw[decide_eq_false h,if_neg h];by_cases h2:0<a
  ·rw[decide_eq_true h2];simp;omega
  ·rw[decide_eq_false h2];simp;omega
def fc (al:List A):Option Rat:=match al with
 |[a]=>rdR a
 |_=>none
theorem G1 {al:List A} {x:Rat} (h:fc al=some x):al=[jC x]∧Sr x:=by
 unfold fc at h;split at h
 ·rw[(VP h).1];exact⟨rfl,(VP h).2⟩
 ·simp at h
def tV (al:List A):Option Int:=match al with
 |[a]=>rdI a
 |_=>none
theorem dF {al:List A} {x:Int} (h:tV al=some x):al=[qS x]:=by
 unfold tV at h;split at h
 ·rw[CY h]
 ·simp at h
def tW (f:Nat) (al:List A):Option (List A):=
 match f with
 |189=>match DP al with|some (x,y)=>some [DQ (x.num*y.num) (x.den*y.den)]|none=>none
 |190=>match DP al with|some (x,y)=>some [DQ (x.num*y.den+y.num*x.den) (x.den*y.den)]|none=>none
 |191=>match DP al with|some (x,y)=>some [DQ (x.num*y.den+(-y.num)*x.den) (x.den*y.den)]|none=>none
 |83=>match DP al with|some (x,y)=>some [.c (.int .i64 (fa (x.num*y.den) (y.num*x.den)))]|none=>none
 |192=>match fc al with|some x=>some [.ag (cI (-x.num)++cI x.den)]|none=>none
 |234=>match fc al with|some x=>some [.ag (cI (-x.num)++cI x.den)]|none=>none
 |72=>match fc al with|some x=>some [.c (.int .i64 (sgZ x.num))]|none=>none
 |118=>match fc al with|some x=>some [.c (.int .i64 (sgZ x.num))]|none=>none
 |21=>match al with
  |[.c (.int .i64 n)]=>match decide (-9223372036854775808≤n)&&decide (n<9223372036854775808)with
   |true=>some [.ag (cI n++cI 1)]
   |false=>none
  |_=>none
 |145=>match O5 al with|some (x,y)=>some [qS (x*y)]|none=>none
 |168=>match O5 al with|some (x,y)=>some [qS (x+y)]|none=>none
 |167=>match O5 al with|some (x,y)=>some [qS (x-y)]|none=>none
 |144=>match O5 al with|some (x,y)=>some [.c (.int .i64 (fa x y))]|none=>none
 |109=>match O5 al with|some (x,y)=>some [qS (Nat.gcd x.natAbs y.natAbs:Nat)]|none=>none
 |110=>match O5 al with
  |some (x,y)=>match decide (0<y)with
   |true=>some [qS (x/y),qS (x%y),.c (.int .i64 0)]
   |false=>none
  |none=>none
 |329=>match O5 al with
  |some (x,y)=>match decide (0<y)with
   |true=>some [qS (x/y),qS (x%y),.c (.int .i64 0)]
   |false=>none
  |none=>none
 |107=>match tV al with|some x=>some [.c (.int .i64 (sgZ x))]|none=>none
 |44=>match al with|[]=>some [qS 1]|_=>none
 |43=>match al with
  |[.c (.int .i64 n)]=>match decide (-9223372036854775808≤n)&&decide (n<9223372036854775808)with
   |true=>some [qS n]
   |false=>none
  |_=>none
 |_=>tT f al
theorem dG (f:Nat) (al rs:List A) (h:tW f al=some rs):qc CC f al rs:=by
 unfold tW at h;split at h
 ·split at h
  ·rename_i x y h1;obtain⟨rfl,hx,hy⟩:=yG h1;simp only[Dd]at h;subst h;rw[tmul];exact Bf jF hx hy
  ·simp at h
 ·split at h
  ·rename_i x y h1;obtain⟨rfl,hx,hy⟩:=yG h1;simp only[Dd]at h;subst h;rw[tadd];exact TZ jF hx hy
  ·simp at h
 ·split at h
  ·rename_i x y h1;obtain⟨rfl,hx,hy⟩:=yG h1;simp only[Dd]at h;subst h;rw[tsub];exact Bc jF hx hy
  ·simp at h
 ·split at h
  ·rename_i x y h1;obtain⟨rfl,hx,hy⟩:=yG h1;simp only[Dd]at h;subst h;rw[G0,←K2];exact Be hx hy
  ·simp at h
 ·split at h
  ·rename_i x h1;obtain⟨rfl,hx⟩:=G1 h1;simp only[Dd]at h;subst h;rw[tneg];exact TY hx
  ·simp at h
 ·split at h
  ·rename_i x h1;obtain⟨rfl,hx⟩:=G1 h1;simp only[Dd]at h;subst h;rw[tneg];exact TS hx
  ·simp at h
 ·split at h
  ·rename_i x h1;obtain⟨rfl,hx⟩:=G1 h1;simp only[Dd]at h;subst h;rw[CZ];exact Nw x
  ·simp at h
 ·split at h
  ·rename_i x h1;obtain⟨rfl,hx⟩:=G1 h1;simp only[Dd]at h;subst h;rw[CZ];exact Jh x
  ·simp at h
 ·split at h
  ·split at h
   ·rename_i hb;simp only[Dd]at h;subst h;simp only[Bool.and_eq_true,decide_eq_true_eq]at hb;have g:=Xu hb.1 hb.2;unfold jC cR at g;rw[Rat.num_intCast,Rat.den_intCast]at g;exact g
   ·simp at h
  ·simp at h
 ·split at h
  ·rename_i x y h1;obtain⟨rfl,hx,hy⟩:=jX h1;simp only[Dd]at h;subst h;exact jD hx hy
  ·simp at h
 ·split at h
  ·rename_i x y h1;obtain⟨rfl,hx,hy⟩:=jX h1;simp only[Dd]at h;subst h;exact K3 hx hy
  ·simp at h
 ·split at h
  ·rename_i x y h1;obtain⟨rfl,hx,hy⟩:=jX h1;simp only[Dd]at h;subst h;exact Bb hx hy
  ·simp at h
 ·split at h
  ·rename_i x y h1;obtain⟨rfl,hx,hy⟩:=jX h1;simp only[Dd]at h;subst h;rw[G0];exact TV hx hy
  ·simp at h
 ·split at h
  ·rename_i x y h1;obtain⟨rfl,hx,hy⟩:=jX h1;simp only[Dd]at h;subst h;exact TX jF hx hy
  ·simp at h
 ·split at h
  ·rename_i x y h1;obtain⟨rfl,hx,hy⟩:=jX h1;split at h
   ·rename_i h2;simp only[Dd]at h;subst h;exact wU jF hx hy (of_decide_eq_true h2)
   ·simp at h
  ·simp at h
 ·split at h
  ·rename_i x y h1;obtain⟨rfl,hx,hy⟩:=jX h1;split at h
   ·rename_i h2;simp only[Dd]at h;subst h;exact wT Wp hx hy (of_decide_eq_true h2)
   ·simp at h
  ·simp at h
 ·split at h
  ·rename_i x h1;obtain rfl:=dF h1;simp only[Dd]at h;subst h;rw[CZ];exact Xs x
  ·simp at h
 ·split at h
  ·simp only[Dd]at h;subst h;exact YA
  ·simp at h
 ·split at h
  ·split at h
   ·rename_i hb;simp only[Dd]at h;subst h;simp only[Bool.and_eq_true,decide_eq_true_eq]at hb;exact zg hb.1 hb.2
   ·simp at h
  ·simp at h
 ·exact dD f al rs h
end Eng
end
section
namespace Eng
open Go Go.Proofs
set_option maxRecDepth 100000
abbrev ZY:=Option Nat→List V→List Obj→R
def tX (t:TypeId) (d:Option Nat):Bool:=iO t d||match d with
 |some d=>(Bx t 32&&(Bx d 28||(Bx d 56||Bx d 59)))||((Bx t 302&&Bx d 34)||((Bx t 224&&Bx d 46)||(Bx t 172&&(Bx d 38||(Bx d 31||(Bx d 61||Bx d 64))))))
 |none=>false
def Da (f:Nat):List (Nat×ZY)→Option ZY
 |[]=>none
 |(g,e)::r=>match Bx f g with
  |true=>some e
  |false=>Da f r
def tY (ex:List (Nat×ZY)) (f:Nat):Option ZY:=
 match Da f ex with
 |some e=>some e
 |none=>iP zQ kE f
noncomputable def CX (ex:List (Nat×ZY)):Cx:=⟨Tryz.prog,fun _=>none,fun _=>false,tY ex,tX,fun _=>false⟩
def tZ (C:Cx):List (Nat×ZY)→Prop
 |[]=>True
 |(f,e)::r=>EffAt C f e∧tZ C r
theorem O6 {C:Cx} {f:Nat} {e:ZY}:∀{ex:List (Nat×ZY)},tZ C ex→Da f ex=some e→EffAt C f e
 |[],_,h=>by simp[Da]at h
 |(g,e0)::r,ha,h=>by
  obtain⟨h1,h2⟩:=ha;unfold Da at h;split at h
  ·rename_i hb;obtain rfl:=Aw hb;simp only[Dd]at h;subst h;exact h1
  ·exact O6 h2 h
theorem kY {ex:List (Nat×ZY)} (ha:tZ (CX ex) ex) (f:Nat) (e:ZY) (h:(CX ex).eff f=some e):EffAt (CX ex) f e:=by
 replace h:tY ex f=some e:=h;unfold tY at h;split at h
 ·rename_i e' he;simp only[Dd]at h;subst h;exact O6 ha he
 unfold iP at h;split at h
 ·rename_i hb;obtain rfl:=Aw hb;simp only[Dd]at h;subst h;exact Ho (C:=CX ex) oj
 ·split at h
  ·rename_i hb;obtain rfl:=Aw hb;simp only[Dd]at h;subst h;exact Hp (C:=CX ex) oj
  ·split at h
   ·rename_i hb;obtain rfl:=Aw hb;simp only[Dd]at h;subst h;exact Vr (C:=CX ex) Tryz.func274 (by simp[Tryz.f274]) (by decide) fun al hc=>Kv (C:=C0) (C':=CX ex) rfl rfl (HG al hc)
   ·simp at h
theorem upX {ex:List (Nat×ZY)} {f:Nat} {al rs:List A} (h:qc CC f al rs):qc (CX ex) f al rs:=wl rfl rfl h
noncomputable def CB:Cx:=CX []
instance:EffOk CB:=xV (kY trivial)
end Eng
end
section
namespace Eng
open Go Go.Proofs Go.RowKit Go.Lib Go.Shelf
def ptZ:List Value:=[.bool false,.slice none 0 0,.bool false,.slice none 0 0,.bool false,.slice none 0 0,.bool false,.slice none 0 0,.bool false,.slice none 0 0,.bool false,.slice none 0 0,.bool false,.slice none 0 0,.bool false,.slice none 0 0,.bool false,.slice none 0 0,.bool false,.slice none 0 0]
theorem dH:jt Tryz.prog 83=some ptZ:=by kernel_rfl
theorem O7:Tryz.prog.underlying 172=some (.slice 83):=by kernel_rfl
set_option maxHeartbeats 4000000 in
theorem Db (c:Nat) (w:World):Calls Tryz.prog 353 #[.slice none 0 c] w fun e w'=>e= .returned (.slice none 0 0)∧w'=w:=by
 have a3:Tryz.prog.follows .mixedOrders=true:=by kernel_rfl
 have tPts:=O7;have he:∀w,(binOp .eql 172 (.slice none 0 c) (.slice none 0 0)).run Tryz.prog w= .ok (.bool true) w:=fun w=>by have:=run_eql_slice_nil (P:=Tryz.prog) w 172 83 none 0 c 0 0 O7;simpa using this
 go_enter Tryz.func353,Tryz.ntmps353
 go_wp2
 all_goals (go_ret;exact⟨rfl,rfl⟩)
set_option maxHeartbeats 4000000 in
theorem Dc (a:Addr) (c:Nat) (w:World):Calls Tryz.prog 353 #[.slice (some a) 0 c] w fun e w'=>∃b,e= .returned (.slice (some b) 0 0)∧w'=w.alloc (.cells #[] 83):=by
 have a3:Tryz.prog.follows .mixedOrders=true:=by kernel_rfl
 have tPts:=O7;have he:∀w,(binOp .eql 172 (.slice (some a) 0 c) (.slice none 0 0)).run Tryz.prog w= .ok (.bool false) w:=fun w=>by have:=run_eql_slice_nil (P:=Tryz.prog) w 172 83 (some a) 0 c 0 0 O7;simpa using this
 have zPt:∀w,(Go.sizeOf 83).run Tryz.prog w= .ok 20 w:=fun w=>xi dH w
 go_enter Tryz.func353,Tryz.ntmps353
 go_wp2
 go_ret
 exact⟨_,rfl,rfl⟩
theorem De:qc CC 353 [.c (.sl [])] [.c (.sl [])]:=by
 intro w F vs _ _ ha
 match vs,ha with
 |[v],⟨h,_⟩=>
  obtain⟨ad,c,rfl,_⟩:=CD.slice_inv (show CD w F (.sl []) v from h);have hP:CC.P=Tryz.prog:=rfl;rw[hP];cases ad with
  |none=>refine(Db c w).mono ?_;rintro e w' ⟨rfl,rfl⟩;exact⟨Below.refl _ _,_,rfl,CD.nil _ _⟩
  |some a=>refine(Dc a c w).mono ?_;rintro e w' ⟨b,rfl,rfl⟩;exact⟨(Below.refl _ _).alloc (Nat.le_refl _) _,_,rfl,CD.nil _ _⟩
def jc (f:Nat) (al:List A):Option (List A):=
 match Bx f 353 with
 |false=>tW f al
 |true=>match al with
  |[.c (.sl [])]=>some [.c (.sl [])]
  |_=>none
theorem dJ (f:Nat) (al rs:List A) (h:jc f al=some rs):qc CC f al rs:=by
 unfold jc at h;split at h
 ·exact dG f al rs h
 ·rename_i hf;obtain rfl:=Aw hf;split at h
  ·simp only[Dd]at h;subst h;exact De
  ·simp at h
theorem qq {ex:List (Nat×ZY)} (f:Nat) (al rs:List A) (h:jc f al=some rs):qc (CX ex) f al rs:=upX (dJ f al rs h)
end Eng
end
section
namespace Eng
open Go Go.Proofs
set_option maxRecDepth 100000
noncomputable def fe:List (Nat×ZY):=[(364,xO jc CB 364 22),
 (370,xO jc CB 370 66),
 (407,xO jc CB 407 20),
 (92,xO jc CB 92 1),
 (351,H7 jc CB 351)]
noncomputable def CS1:Cx:=CX fe
instance:EffOk CS1:=xV (kY ⟨qz (C:=CB) (C':=CX fe) mixedT qq rfl rfl Tryz.func364 (by simp[Tryz.f364]) (by decide),
 qz (C:=CB) (C':=CX fe) mixedT qq rfl rfl Tryz.func370 (by simp[Tryz.f370]) (by decide),
 qz (C:=CB) (C':=CX fe) mixedT qq rfl rfl Tryz.func407 (by simp[Tryz.f407]) (by decide),
 qz (C:=CB) (C':=CX fe) mixedT qq rfl rfl Tryz.func92 (by simp[Tryz.f92]) (by decide),
 v6 (C:=CB) (C':=CX fe) mixedT qq rfl rfl Tryz.func351 (by simp[Tryz.f351]) (by decide),trivial⟩)
noncomputable def ff:List (Nat×ZY):=[(343,xO jc CS1 343 22),
 (348,xO jc CS1 348 66),
 (388,xO jc CS1 388 20),
 (350,xO jc CS1 350 66),
 (52,xO jc CS1 52 1)]
noncomputable def CS2:Cx:=CX ff
instance:EffOk CS2:=xV (kY ⟨qz (C:=CS1) (C':=CX ff) mixedT qq rfl rfl Tryz.func343 (by simp[Tryz.f343]) (by decide),
 qz (C:=CS1) (C':=CX ff) mixedT qq rfl rfl Tryz.func348 (by simp[Tryz.f348]) (by decide),
 qz (C:=CS1) (C':=CX ff) mixedT qq rfl rfl Tryz.func388 (by simp[Tryz.f388]) (by decide),
 qz (C:=CS1) (C':=CX ff) mixedT qq rfl rfl Tryz.func350 (by simp[Tryz.f350]) (by decide),
 qz (C:=CS1) (C':=CX ff) mixedT qq rfl rfl Tryz.func52 (by simp[Tryz.f52]) (by decide),trivial⟩)
noncomputable def Mv:List (Nat×ZY):=[(311,xO jc CS2 311 22),
 (317,xO jc CS2 317 66),
 (366,kb (wy jc CB CB 366) (xO jc CS2 366 20)),
 (320,xO jc CS2 320 66),
 (27,xO jc CS2 27 1),
 (353,kb (wy jc CB CB 353) (ZJ jc CS2 353 20)),
 (369,kb (wy jc CB CB 369) (wS jc CS2 369 20)),
 (313,kb (wy jc CB CB 313) (Pr jc CS2 313 20)),
 (28,wS jc CS2 28 1),
 (351,H7 jc CB 351)]
noncomputable def CS3:Cx:=CX Mv
instance:EffOk CS3:=xV (kY ⟨qz (C:=CS2) (C':=CX Mv) mixedT qq rfl rfl Tryz.func311 (by simp[Tryz.f311]) (by decide),
 qz (C:=CS2) (C':=CX Mv) mixedT qq rfl rfl Tryz.func317 (by simp[Tryz.f317]) (by decide),
 xu (xv (C:=CB) (C':=CX Mv) mixedT qq rfl rfl) (qz (C:=CS2) (C':=CX Mv) mixedT qq rfl rfl Tryz.func366 (by simp[Tryz.f366]) (by decide)),
 qz (C:=CS2) (C':=CX Mv) mixedT qq rfl rfl Tryz.func320 (by simp[Tryz.f320]) (by decide),
 qz (C:=CS2) (C':=CX Mv) mixedT qq rfl rfl Tryz.func27 (by simp[Tryz.f27]) (by decide),
 xu (xv (C:=CB) (C':=CX Mv) mixedT qq rfl rfl) (kA (C:=CS2) (C':=CX Mv) mixedT qq rfl rfl Tryz.func353 (by simp[Tryz.f353]) (by decide)),
 xu (xv (C:=CB) (C':=CX Mv) mixedT qq rfl rfl) (zk (C:=CS2) (C':=CX Mv) mixedT qq rfl rfl Tryz.func369 (by simp[Tryz.f369]) (by decide)),
 xu (xv (C:=CB) (C':=CX Mv) mixedT qq rfl rfl) (Xk (C:=CS2) (C':=CX Mv) mixedT qq rfl rfl Tryz.func313 (by simp[Tryz.f313]) (by decide)),
 zk (C:=CS2) (C':=CX Mv) mixedT qq rfl rfl Tryz.func28 (by simp[Tryz.f28]) (by decide),
 v6 (C:=CB) (C':=CX Mv) mixedT qq rfl rfl Tryz.func351 (by simp[Tryz.f351]) (by decide),trivial⟩)
noncomputable def Tm:List (Nat×ZY):=[(311,xO jc CS2 311 22),
 (317,xO jc CS2 317 66),
 (366,kb (wy jc CB CB 366) (xO jc CS2 366 20)),
 (320,xO jc CS2 320 66),
 (27,xO jc CS2 27 1),
 (353,kb (wy jc CB CB 353) (ZJ jc CS2 353 20)),
 (369,kb (wy jc CB CB 369) (wS jc CS2 369 20)),
 (313,kb (wy jc CB CB 313) (Pr jc CS2 313 20)),
 (28,wS jc CS2 28 1),
 (351,H7 jc CB 351),
 (315,EL jc CS3 315)]
noncomputable def CS4:Cx:=CX Tm
instance:EffOk CS4:=xV (kY ⟨qz (C:=CS2) (C':=CX Tm) mixedT qq rfl rfl Tryz.func311 (by simp[Tryz.f311]) (by decide),
 qz (C:=CS2) (C':=CX Tm) mixedT qq rfl rfl Tryz.func317 (by simp[Tryz.f317]) (by decide),
 xu (xv (C:=CB) (C':=CX Tm) mixedT qq rfl rfl) (qz (C:=CS2) (C':=CX Tm) mixedT qq rfl rfl Tryz.func366 (by simp[Tryz.f366]) (by decide)),
 qz (C:=CS2) (C':=CX Tm) mixedT qq rfl rfl Tryz.func320 (by simp[Tryz.f320]) (by decide),
 qz (C:=CS2) (C':=CX Tm) mixedT qq rfl rfl Tryz.func27 (by simp[Tryz.f27]) (by decide),
 xu (xv (C:=CB) (C':=CX Tm) mixedT qq rfl rfl) (kA (C:=CS2) (C':=CX Tm) mixedT qq rfl rfl Tryz.func353 (by simp[Tryz.f353]) (by decide)),
 xu (xv (C:=CB) (C':=CX Tm) mixedT qq rfl rfl) (zk (C:=CS2) (C':=CX Tm) mixedT qq rfl rfl Tryz.func369 (by simp[Tryz.f369]) (by decide)),
 xu (xv (C:=CB) (C':=CX Tm) mixedT qq rfl rfl) (Xk (C:=CS2) (C':=CX Tm) mixedT qq rfl rfl Tryz.func313 (by simp[Tryz.f313]) (by decide)),
 zk (C:=CS2) (C':=CX Tm) mixedT qq rfl rfl Tryz.func28 (by simp[Tryz.f28]) (by decide),
 v6 (C:=CB) (C':=CX Tm) mixedT qq rfl rfl Tryz.func351 (by simp[Tryz.f351]) (by decide),
 Yy (C:=CS3) (C':=CX Tm) mixedT qq rfl rfl Tryz.func315 (by simp[Tryz.f315]) (by decide),trivial⟩)
noncomputable def K5L:List (Nat×ZY):=[(311,xO jc CS2 311 22),
 (317,xO jc CS2 317 66),
 (366,kb (wy jc CB CB 366) (xO jc CS2 366 20)),
 (320,xO jc CS2 320 66),
 (27,xO jc CS2 27 1),
 (353,kb (wy jc CB CB 353) (ZJ jc CS2 353 20)),
 (369,kb (wy jc CB CB 369) (wS jc CS2 369 20)),
 (313,kb (wy jc CB CB 313) (Pr jc CS2 313 20)),
 (28,wS jc CS2 28 1),
 (351,H7 jc CB 351),
 (315,EL jc CS3 315),
 (271,ZJ jc CS4 271 66),
 (270,wS jc CS4 270 66)]
noncomputable def K5:Cx:=CX K5L
instance:EffOk K5:=xV (kY ⟨qz (C:=CS2) (C':=CX K5L) mixedT qq rfl rfl Tryz.func311 (by simp[Tryz.f311]) (by decide),
 qz (C:=CS2) (C':=CX K5L) mixedT qq rfl rfl Tryz.func317 (by simp[Tryz.f317]) (by decide),
 xu (xv (C:=CB) (C':=CX K5L) mixedT qq rfl rfl) (qz (C:=CS2) (C':=CX K5L) mixedT qq rfl rfl Tryz.func366 (by simp[Tryz.f366]) (by decide)),
 qz (C:=CS2) (C':=CX K5L) mixedT qq rfl rfl Tryz.func320 (by simp[Tryz.f320]) (by decide),
 qz (C:=CS2) (C':=CX K5L) mixedT qq rfl rfl Tryz.func27 (by simp[Tryz.f27]) (by decide),
 xu (xv (C:=CB) (C':=CX K5L) mixedT qq rfl rfl) (kA (C:=CS2) (C':=CX K5L) mixedT qq rfl rfl Tryz.func353 (by simp[Tryz.f353]) (by decide)),
 xu (xv (C:=CB) (C':=CX K5L) mixedT qq rfl rfl) (zk (C:=CS2) (C':=CX K5L) mixedT qq rfl rfl Tryz.func369 (by simp[Tryz.f369]) (by decide)),
 xu (xv (C:=CB) (C':=CX K5L) mixedT qq rfl rfl) (Xk (C:=CS2) (C':=CX K5L) mixedT qq rfl rfl Tryz.func313 (by simp[Tryz.f313]) (by decide)),
 zk (C:=CS2) (C':=CX K5L) mixedT qq rfl rfl Tryz.func28 (by simp[Tryz.f28]) (by decide),
 v6 (C:=CB) (C':=CX K5L) mixedT qq rfl rfl Tryz.func351 (by simp[Tryz.f351]) (by decide),
 Yy (C:=CS3) (C':=CX K5L) mixedT qq rfl rfl Tryz.func315 (by simp[Tryz.f315]) (by decide),
 kA (C:=CS4) (C':=CX K5L) mixedT qq rfl rfl Tryz.func271 (by simp[Tryz.f271]) (by decide),
 zk (C:=CS4) (C':=CX K5L) mixedT qq rfl rfl Tryz.func270 (by simp[Tryz.f270]) (by decide),trivial⟩)
end Eng
end
