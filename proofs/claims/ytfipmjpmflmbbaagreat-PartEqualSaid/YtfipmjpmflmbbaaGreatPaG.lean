/- Tables of known results, found by a number of the arguments. -/
import Derived.Test.YtfipmjpmflmbbaaGreatPaF
import Derived.Test.YtfipmjpmflmbbaaGreatPaC
import Derived.Test.YtfipmjpmflmbbaaGreatPaB
import Derived.Test.YtfipmjpmflmbbaaGreatEngE
import Derived.Shelf.Lays2
import Derived.Shelf.RegionOpenPlain
import Derived.WalkKit
import Derived.Deep.LoopGhost
import Derived.Deep.RegionLaw
import Derived.Lib.Walk
import Derived.Lib.SliceRun
open Nat renaming eq_of_beq_eq_true→Aw, beq→Bx
open Option.some renaming injEq→Dd
open Rat renaming num_divInt_den→F0, divInt→F2, divInt_add_divInt→Gv, neg_num→Hu
section
namespace Eng
open Go Go.Proofs
def W (acc w:Nat):Nat:=acc*4722366482869645213696+w
def tY:IntKind→Nat
 | .u8=>0| .u16=>1| .u32=>2| .u64=>3| .i8=>4| .i16=>5| .i32=>6| .i64=>7
def mh (acc:Nat):Int→Nat
 | .ofNat n=>W (W acc 0) n
 | .negSucc n=>W (W acc 1) n
def dm {α:Type} (e:Nat→α→Nat) (acc:Nat) (l:List α):Nat:=l.foldl e (W acc l.length)
def mi:Nat→Nat→D→Nat
 |0,acc,_=>W acc 99
 |_+1,acc,.undef=>W acc 0
 |_+1,acc,.bool b=>W (W acc 1) (match b with|true=>1|false=>0)
 |_+1,acc,.int k n=>mh (W (W acc 2) (tY k)) n
 |_+1,acc,.str s=>dm (fun a (b:UInt8)=>W a b.toNat) (W acc 3) s
 |n+1,acc,.sl es=>dm (dm (mi n)) (W acc 4) es
 |_+1,acc,.ifc b=>W (W acc 5) (match b with|true=>1|false=>0)
 |_+1,acc,.nilP=>W acc 6
 |_+1,acc,.fn f=>W (W acc 7) f
 |n+1,acc,.ptr cs=>dm (mi n) (W acc 8) cs
 |n+1,acc,.clo f ps=>dm (mi n) (W (W acc 9) f) ps
def encA (acc:Nat):A→Nat
 | .c d=>mi 20 (W acc 0) d
 | .ag cs=>dm (mi 20) (W acc 1) cs
def keyA (al:List A):Nat:=dm encA (W 1 2) al%2305843009213693951
abbrev qm:=Nat×Nat×List A×List A
def Mj (f key:Nat) (al:List A):List qm→Option (List A)
 |[]=>none
 |(f0,k0,al0,rs0)::r=>match Bx f f0 with
  |true=>match Bx key k0 with
   |true=>match eqL eqA al al0 with
    |true=>some rs0
    |false=>Mj f key al r
   |false=>Mj f key al r
  |false=>Mj f key al r
def Rv (C:Cx):List qm→Prop
 |[]=>True
 |(f0,_,al0,rs0)::r=>qe C f0 al0 rs0∧Rv C r
def hasF (f:Nat):List qm→Bool
 |[]=>false
 |(f0,_)::r=>match Bx f f0 with
  |true=>true
  |false=>hasF f r
def eY (ents:List qm) (tab:Nat→List A→Option (List A)) (f:Nat) (al:List A):Option (List A):=
 match hasF f ents with
 |true=>match keyA al with
  |0=>tab f al
  |k+1=>match Mj f (k+1) al ents with
   |some rs=>some rs
   |none=>tab f al
 |false=>tab f al
theorem Jx {C:Cx} {f key:Nat} {al rs:List A}:∀{ents:List qm},Rv C ents→Mj f key al ents=some rs→qe C f al rs
 |[],_,h=>by simp[Mj]at h
 |(f0,k0,al0,rs0)::r,hg,h=>by
  obtain⟨h1,h2⟩:=hg;unfold Mj at h;split at h
  ·rename_i hf;split at h
   ·split at h
    ·rename_i ha;obtain rfl:=Aw hf;obtain rfl:=ZU mg ha;simp only[Dd]at h;subst h;exact h1
    ·exact Jx h2 h
   ·exact Jx h2 h
  ·exact Jx h2 h
theorem Mk {C:Cx} {ents:List qm} {tab:Nat→List A→Option (List A)} (h0:Rv C ents) (h:∀f al rs,tab f al=some rs→qe C f al rs) (f:Nat) (al rs:List A) (hh:eY ents tab f al=some rs):qe C f al rs:=by
 unfold eY at hh;split at hh
 ·split at hh
  ·exact h _ _ _ hh
  ·split at hh
   ·rename_i rs' hf;simp only[Dd]at hh;subst hh;exact Jx h0 hf
   ·exact h _ _ _ hh
 ·exact h _ _ _ hh
end Eng
end
section
namespace Eng
open Go Go.Proofs
set_option maxRecDepth 100000
theorem tmul (x y:Rat):DB (x.num*y.num) (x.den*y.den)=jz (x*y):=by
 rw[Zx (Int.mul_pos (den_pos x) (den_pos y))];have e:x*y=F2 (x.num*y.num) (x.den*y.den):=by rw[←Rat.divInt_mul_divInt,F0,F0]
 rw[←e]
theorem tadd (x y:Rat):DB (x.num*y.den+y.num*x.den) (x.den*y.den)=jz (x+y):=by
 have px:=den_pos x;have py:=den_pos y;rw[Zx (Int.mul_pos px py)];have e:x+y=F2 (x.num*y.den+y.num*x.den) (x.den*y.den):=by rw[←Gv _ _ (by omega) (by omega),F0,F0]
 rw[←e]
theorem tsub (x y:Rat):DB (x.num*y.den+(-y.num)*x.den) (x.den*y.den)=jz (x-y):=by
 have px:=den_pos x;have py:=den_pos y;rw[Zx (Int.mul_pos px py)];have e:x-y=F2 (x.num*y.den+(-y.num)*x.den) (x.den*y.den):=by
  rw[Rat.sub_eq_add_neg,←Gv _ _ (by omega) (by omega),F0];have:F2 (-y.num) y.den= -y:=by rw[←Hu];exact F0 (-y)
  rw[this]
 rw[←e]
theorem tneg (x:Rat):A.ag (cI (-x.num)++cI x.den)=jz (-x):=by
 unfold jz cR;rw[Hu];rfl
def sgZ (a:Int):Int:=match decide (a<0)with|true=> -1|false=>match decide (0<a)with|true=>1|false=>0
theorem CG (a:Int):sgZ a=sgn a:=by
 unfold sgZ sgn;by_cases h:a<0
 ·rw[decide_eq_true h,if_pos h]
 ·rw[decide_eq_false h,if_neg h];by_cases h2:0<a
  ·rw[decide_eq_true h2];simp;omega
  ·rw[decide_eq_false h2];simp;omega
def eZ (al:List A):Option Rat:=match al with
 |[a]=>rdR a
 |_=>none
theorem Gz {al:List A} {x:Rat} (h:eZ al=some x):al=[jz x]∧Sr x:=by
 unfold eZ at h;split at h
 ·rw[(VL h).1];exact⟨rfl,(VL h).2⟩
 ·simp at h
def tZ (al:List A):Option Int:=match al with
 |[a]=>rdI a
 |_=>none
theorem dq {al:List A} {x:Int} (h:tZ al=some x):al=[qS x]:=by
 unfold tZ at h;split at h
 ·rw[CF h]
 ·simp at h
def uc (f:Nat) (al:List A):Option (List A):=
 match f with
 |189=>match DA al with|some (x,y)=>some [DB (x.num*y.num) (x.den*y.den)]|none=>none
 |190=>match DA al with|some (x,y)=>some [DB (x.num*y.den+y.num*x.den) (x.den*y.den)]|none=>none
 |191=>match DA al with|some (x,y)=>some [DB (x.num*y.den+(-y.num)*x.den) (x.den*y.den)]|none=>none
 |83=>match DA al with|some (x,y)=>some [.c (.int .i64 (eX (x.num*y.den) (y.num*x.den)))]|none=>none
 |192=>match eZ al with|some x=>some [.ag (cI (-x.num)++cI x.den)]|none=>none
 |234=>match eZ al with|some x=>some [.ag (cI (-x.num)++cI x.den)]|none=>none
 |72=>match eZ al with|some x=>some [.c (.int .i64 (sgZ x.num))]|none=>none
 |118=>match eZ al with|some x=>some [.c (.int .i64 (sgZ x.num))]|none=>none
 |21=>match al with
  |[.c (.int .i64 n)]=>match decide (-9223372036854775808≤n)&&decide (n<9223372036854775808)with
   |true=>some [.ag (cI n++cI 1)]
   |false=>none
  |_=>none
 |145=>match Ou al with|some (x,y)=>some [qS (x*y)]|none=>none
 |168=>match Ou al with|some (x,y)=>some [qS (x+y)]|none=>none
 |167=>match Ou al with|some (x,y)=>some [qS (x-y)]|none=>none
 |144=>match Ou al with|some (x,y)=>some [.c (.int .i64 (eX x y))]|none=>none
 |109=>match Ou al with|some (x,y)=>some [qS (Nat.gcd x.natAbs y.natAbs:Nat)]|none=>none
 |110=>match Ou al with
  |some (x,y)=>match decide (0<y)with
   |true=>some [qS (x/y),qS (x%y),.c (.int .i64 0)]
   |false=>none
  |none=>none
 |329=>match Ou al with
  |some (x,y)=>match decide (0<y)with
   |true=>some [qS (x/y),qS (x%y),.c (.int .i64 0)]
   |false=>none
  |none=>none
 |107=>match tZ al with|some x=>some [.c (.int .i64 (sgZ x))]|none=>none
 |44=>match al with|[]=>some [qS 1]|_=>none
 |43=>match al with
  |[.c (.int .i64 n)]=>match decide (-9223372036854775808≤n)&&decide (n<9223372036854775808)with
   |true=>some [qS n]
   |false=>none
  |_=>none
 |_=>tX f al
theorem dr (f:Nat) (al rs:List A) (h:uc f al=some rs):qe CC f al rs:=by
 unfold uc at h;split at h
 ·split at h
  ·rename_i x y h1;obtain⟨rfl,hx,hy⟩:=yD h1;simp only[Dd]at h;subst h;rw[tmul];exact SR j8 hx hy
  ·simp at h
 ·split at h
  ·rename_i x y h1;obtain⟨rfl,hx,hy⟩:=yD h1;simp only[Dd]at h;subst h;rw[tadd];exact TV j8 hx hy
  ·simp at h
 ·split at h
  ·rename_i x y h1;obtain⟨rfl,hx,hy⟩:=yD h1;simp only[Dd]at h;subst h;rw[tsub];exact SP j8 hx hy
  ·simp at h
 ·split at h
  ·rename_i x y h1;obtain⟨rfl,hx,hy⟩:=yD h1;simp only[Dd]at h;subst h;rw[Gy,←Kz];exact SQ hx hy
  ·simp at h
 ·split at h
  ·rename_i x h1;obtain⟨rfl,hx⟩:=Gz h1;simp only[Dd]at h;subst h;rw[tneg];exact TU hx
  ·simp at h
 ·split at h
  ·rename_i x h1;obtain⟨rfl,hx⟩:=Gz h1;simp only[Dd]at h;subst h;rw[tneg];exact TO hx
  ·simp at h
 ·split at h
  ·rename_i x h1;obtain⟨rfl,hx⟩:=Gz h1;simp only[Dd]at h;subst h;rw[CG];exact Ni x
  ·simp at h
 ·split at h
  ·rename_i x h1;obtain⟨rfl,hx⟩:=Gz h1;simp only[Dd]at h;subst h;rw[CG];exact Jh x
  ·simp at h
 ·split at h
  ·split at h
   ·rename_i hb;simp only[Dd]at h;subst h;simp only[Bool.and_eq_true,decide_eq_true_eq]at hb;have g:=Xr hb.1 hb.2;unfold jz cR at g;rw[Rat.num_intCast,Rat.den_intCast]at g;exact g
   ·simp at h
  ·simp at h
 ·split at h
  ·rename_i x y h1;obtain⟨rfl,hx,hy⟩:=jQ h1;simp only[Dd]at h;subst h;exact j6 hx hy
  ·simp at h
 ·split at h
  ·rename_i x y h1;obtain⟨rfl,hx,hy⟩:=jQ h1;simp only[Dd]at h;subst h;exact K0 hx hy
  ·simp at h
 ·split at h
  ·rename_i x y h1;obtain⟨rfl,hx,hy⟩:=jQ h1;simp only[Dd]at h;subst h;exact SO hx hy
  ·simp at h
 ·split at h
  ·rename_i x y h1;obtain⟨rfl,hx,hy⟩:=jQ h1;simp only[Dd]at h;subst h;rw[Gy];exact TR hx hy
  ·simp at h
 ·split at h
  ·rename_i x y h1;obtain⟨rfl,hx,hy⟩:=jQ h1;simp only[Dd]at h;subst h;exact TT j8 hx hy
  ·simp at h
 ·split at h
  ·rename_i x y h1;obtain⟨rfl,hx,hy⟩:=jQ h1;split at h
   ·rename_i h2;simp only[Dd]at h;subst h;exact wO j8 hx hy (of_decide_eq_true h2)
   ·simp at h
  ·simp at h
 ·split at h
  ·rename_i x y h1;obtain⟨rfl,hx,hy⟩:=jQ h1;split at h
   ·rename_i h2;simp only[Dd]at h;subst h;exact wL Wk hx hy (of_decide_eq_true h2)
   ·simp at h
  ·simp at h
 ·split at h
  ·rename_i x h1;obtain rfl:=dq h1;simp only[Dd]at h;subst h;rw[CG];exact Xp x
  ·simp at h
 ·split at h
  ·simp only[Dd]at h;subst h;exact Y7
  ·simp at h
 ·split at h
  ·split at h
   ·rename_i hb;simp only[Dd]at h;subst h;simp only[Bool.and_eq_true,decide_eq_true_eq]at hb;exact zc hb.1 hb.2
   ·simp at h
  ·simp at h
 ·exact dj f al rs h
end Eng
end
section
namespace Eng
open Go Go.Proofs
set_option maxRecDepth 100000
abbrev ZV:=Option Nat→List V→List Obj→R
def ud (t:TypeId) (d:Option Nat):Bool:=iH t d||match d with
 |some d=>(Bx t 32&&(Bx d 28||(Bx d 56||Bx d 59)))||((Bx t 302&&Bx d 34)||((Bx t 224&&Bx d 46)||(Bx t 172&&(Bx d 38||(Bx d 31||(Bx d 61||Bx d 64))))))
 |none=>false
def CH (f:Nat):List (Nat×ZV)→Option ZV
 |[]=>none
 |(g,e)::r=>match Bx f g with
  |true=>some e
  |false=>CH f r
def ue (ex:List (Nat×ZV)) (f:Nat):Option ZV:=
 match CH f ex with
 |some e=>some e
 |none=>iI zR kx f
noncomputable def CX (ex:List (Nat×ZV)):Cx:=⟨Tryz.prog,fun _=>none,fun _=>false,ue ex,ud,fun _=>false⟩
def uf (C:Cx):List (Nat×ZV)→Prop
 |[]=>True
 |(f,e)::r=>EffAt C f e∧uf C r
theorem Ov {C:Cx} {f:Nat} {e:ZV}:∀{ex:List (Nat×ZV)},uf C ex→CH f ex=some e→EffAt C f e
 |[],_,h=>by simp[CH]at h
 |(g,e0)::r,ha,h=>by
  obtain⟨h1,h2⟩:=ha;unfold CH at h;split at h
  ·rename_i hb;obtain rfl:=Aw hb;simp only[Dd]at h;subst h;exact h1
  ·exact Ov h2 h
theorem jR {ex:List (Nat×ZV)} (ha:uf (CX ex) ex) (f:Nat) (e:ZV) (h:(CX ex).eff f=some e):EffAt (CX ex) f e:=by
 replace h:ue ex f=some e:=h;unfold ue at h;split at h
 ·rename_i e' he;simp only[Dd]at h;subst h;exact Ov ha he
 unfold iI at h;split at h
 ·rename_i hb;obtain rfl:=Aw hb;simp only[Dd]at h;subst h;exact Hk (C:=CX ex) oi
 ·split at h
  ·rename_i hb;obtain rfl:=Aw hb;simp only[Dd]at h;subst h;exact Hl (C:=CX ex) oi
  ·split at h
   ·rename_i hb;obtain rfl:=Aw hb;simp only[Dd]at h;subst h;exact Vl (C:=CX ex) Tryz.func274 (by simp[Tryz.f274]) (by decide) fun al hc=>Kr (C:=C0) (C':=CX ex) rfl rfl (HA al hc)
   ·simp at h
theorem upX {ex:List (Nat×ZV)} {f:Nat} {al rs:List A} (h:qe CC f al rs):qe (CX ex) f al rs:=jT rfl rfl h
def ug {α:Type}:List α→Bool
 |[]=>false
 |_=>true
noncomputable def CB:Cx:=CX []
instance:EffOk CB:=xI (jR trivial)
end Eng
end
section
namespace Eng
open Go Go.Proofs Go.RowKit Go.Lib Go.Shelf
set_option maxRecDepth 1000000
def ptZ:List Value:=[.bool false,.slice none 0 0,.bool false,.slice none 0 0,.bool false,.slice none 0 0,.bool false,.slice none 0 0,.bool false,.slice none 0 0,.bool false,.slice none 0 0,.bool false,.slice none 0 0,.bool false,.slice none 0 0,.bool false,.slice none 0 0,.bool false,.slice none 0 0]
theorem du:jo Tryz.prog 83=some ptZ:=by kernel_rfl
theorem Ow:Tryz.prog.underlying 172=some (.slice 83):=by kernel_rfl
set_option maxHeartbeats 4000000 in
theorem CI (c:Nat) (w:World):Calls Tryz.prog 353 #[.slice none 0 c] w fun e w'=>e= .returned (.slice none 0 0)∧w'=w:=by
 have a3:Tryz.prog.follows .mixedOrders=true:=by kernel_rfl
 have tPts:=Ow;have he:∀w,(binOp .eql 172 (.slice none 0 c) (.slice none 0 0)).run Tryz.prog w= .ok (.bool true) w:=fun w=>by have:=run_eql_slice_nil (P:=Tryz.prog) w 172 83 none 0 c 0 0 Ow;simpa using this
 go_enter Tryz.func353,Tryz.ntmps353
 go_wp2
 all_goals (go_ret;exact⟨rfl,rfl⟩)
set_option maxHeartbeats 4000000 in
theorem CJ (a:Addr) (c:Nat) (w:World):Calls Tryz.prog 353 #[.slice (some a) 0 c] w fun e w'=>∃b,e= .returned (.slice (some b) 0 0)∧w'=w.alloc (.cells #[] 83):=by
 have a3:Tryz.prog.follows .mixedOrders=true:=by kernel_rfl
 have tPts:=Ow;have he:∀w,(binOp .eql 172 (.slice (some a) 0 c) (.slice none 0 0)).run Tryz.prog w= .ok (.bool false) w:=fun w=>by have:=run_eql_slice_nil (P:=Tryz.prog) w 172 83 (some a) 0 c 0 0 Ow;simpa using this
 have zPt:∀w,(Go.sizeOf 83).run Tryz.prog w= .ok 20 w:=fun w=>xg du w
 go_enter Tryz.func353,Tryz.ntmps353
 go_wp2
 go_ret
 exact⟨_,rfl,rfl⟩
theorem CK:qe CC 353 [.c (.sl [])] [.c (.sl [])]:=by
 intro w F vs _ _ ha
 match vs,ha with
 |[v],⟨h,_⟩=>
  obtain⟨ad,c,rfl,_⟩:=CD.slice_inv (show CD w F (.sl []) v from h);have hP:CC.P=Tryz.prog:=rfl;rw[hP];cases ad with
  |none=>refine(CI c w).mono ?_;rintro e w' ⟨rfl,rfl⟩;exact⟨Below.refl _ _,_,rfl,CD.nil _ _⟩
  |some a=>refine(CJ a c w).mono ?_;rintro e w' ⟨b,rfl,rfl⟩;exact⟨(Below.refl _ _).alloc (Nat.le_refl _) _,_,rfl,CD.nil _ _⟩
def jb (f:Nat) (al:List A):Option (List A):=
 match Bx f 353 with
 |false=>uc f al
 |true=>match al with
  |[.c (.sl [])]=>some [.c (.sl [])]
  |_=>none
theorem dw (f:Nat) (al rs:List A) (h:jb f al=some rs):qe CC f al rs:=by
 unfold jb at h;split at h
 ·exact dr f al rs h
 ·rename_i hf;obtain rfl:=Aw hf;split at h
  ·simp only[Dd]at h;subst h;exact CK
  ·simp at h
theorem qq {ex:List (Nat×ZV)} (f:Nat) (al rs:List A) (h:jb f al=some rs):qe (CX ex) f al rs:=upX (dw f al rs h)
end Eng
end
section
namespace Eng
open Go Go.Proofs
set_option maxRecDepth 100000
noncomputable def fa:List (Nat×ZV):=[(364,xL jb CB 364 22),
 (370,xL jb CB 370 66),
 (407,xL jb CB 407 20),
 (92,xL jb CB 92 1),
 (351,H2 jb CB 351)]
noncomputable def CS1:Cx:=CX fa
instance:EffOk CS1:=xI (jR ⟨qz (C:=CB) (C':=CX fa) mixedT qq rfl rfl Tryz.func364 (by simp[Tryz.f364]) (by decide),
 qz (C:=CB) (C':=CX fa) mixedT qq rfl rfl Tryz.func370 (by simp[Tryz.f370]) (by decide),
 qz (C:=CB) (C':=CX fa) mixedT qq rfl rfl Tryz.func407 (by simp[Tryz.f407]) (by decide),
 qz (C:=CB) (C':=CX fa) mixedT qq rfl rfl Tryz.func92 (by simp[Tryz.f92]) (by decide),
 vt (C:=CB) (C':=CX fa) mixedT qq rfl rfl Tryz.func351 (by simp[Tryz.f351]) (by decide),trivial⟩)
noncomputable def fb:List (Nat×ZV):=[(343,xL jb CS1 343 22),
 (348,xL jb CS1 348 66),
 (388,xL jb CS1 388 20),
 (350,xL jb CS1 350 66),
 (52,xL jb CS1 52 1)]
noncomputable def CS2:Cx:=CX fb
instance:EffOk CS2:=xI (jR ⟨qz (C:=CS1) (C':=CX fb) mixedT qq rfl rfl Tryz.func343 (by simp[Tryz.f343]) (by decide),
 qz (C:=CS1) (C':=CX fb) mixedT qq rfl rfl Tryz.func348 (by simp[Tryz.f348]) (by decide),
 qz (C:=CS1) (C':=CX fb) mixedT qq rfl rfl Tryz.func388 (by simp[Tryz.f388]) (by decide),
 qz (C:=CS1) (C':=CX fb) mixedT qq rfl rfl Tryz.func350 (by simp[Tryz.f350]) (by decide),
 qz (C:=CS1) (C':=CX fb) mixedT qq rfl rfl Tryz.func52 (by simp[Tryz.f52]) (by decide),trivial⟩)
noncomputable def Ml:List (Nat×ZV):=[(311,xL jb CS2 311 22),
 (317,xL jb CS2 317 66),
 (366,jU (wl jb CB CB 366) (xL jb CS2 366 20)),
 (320,xL jb CS2 320 66),
 (27,xL jb CS2 27 1),
 (353,jU (wl jb CB CB 353) (ZC jb CS2 353 20)),
 (369,jU (wl jb CB CB 369) (wK jb CS2 369 20)),
 (313,jU (wl jb CB CB 313) (Pb jb CS2 313 20)),
 (28,wK jb CS2 28 1),
 (351,H2 jb CB 351)]
noncomputable def CS3:Cx:=CX Ml
instance:EffOk CS3:=xI (jR ⟨qz (C:=CS2) (C':=CX Ml) mixedT qq rfl rfl Tryz.func311 (by simp[Tryz.f311]) (by decide),
 qz (C:=CS2) (C':=CX Ml) mixedT qq rfl rfl Tryz.func317 (by simp[Tryz.f317]) (by decide),
 xt (xu (C:=CB) (C':=CX Ml) mixedT qq rfl rfl) (qz (C:=CS2) (C':=CX Ml) mixedT qq rfl rfl Tryz.func366 (by simp[Tryz.f366]) (by decide)),
 qz (C:=CS2) (C':=CX Ml) mixedT qq rfl rfl Tryz.func320 (by simp[Tryz.f320]) (by decide),
 qz (C:=CS2) (C':=CX Ml) mixedT qq rfl rfl Tryz.func27 (by simp[Tryz.f27]) (by decide),
 xt (xu (C:=CB) (C':=CX Ml) mixedT qq rfl rfl) (ku (C:=CS2) (C':=CX Ml) mixedT qq rfl rfl Tryz.func353 (by simp[Tryz.f353]) (by decide)),
 xt (xu (C:=CB) (C':=CX Ml) mixedT qq rfl rfl) (zg (C:=CS2) (C':=CX Ml) mixedT qq rfl rfl Tryz.func369 (by simp[Tryz.f369]) (by decide)),
 xt (xu (C:=CB) (C':=CX Ml) mixedT qq rfl rfl) (Xh (C:=CS2) (C':=CX Ml) mixedT qq rfl rfl Tryz.func313 (by simp[Tryz.f313]) (by decide)),
 zg (C:=CS2) (C':=CX Ml) mixedT qq rfl rfl Tryz.func28 (by simp[Tryz.f28]) (by decide),
 vt (C:=CB) (C':=CX Ml) mixedT qq rfl rfl Tryz.func351 (by simp[Tryz.f351]) (by decide),trivial⟩)
noncomputable def Tg:List (Nat×ZV):=[(311,xL jb CS2 311 22),
 (317,xL jb CS2 317 66),
 (366,jU (wl jb CB CB 366) (xL jb CS2 366 20)),
 (320,xL jb CS2 320 66),
 (27,xL jb CS2 27 1),
 (353,jU (wl jb CB CB 353) (ZC jb CS2 353 20)),
 (369,jU (wl jb CB CB 369) (wK jb CS2 369 20)),
 (313,jU (wl jb CB CB 313) (Pb jb CS2 313 20)),
 (28,wK jb CS2 28 1),
 (351,H2 jb CB 351),
 (315,E2 jb CS3 315)]
noncomputable def CS4:Cx:=CX Tg
instance:EffOk CS4:=xI (jR ⟨qz (C:=CS2) (C':=CX Tg) mixedT qq rfl rfl Tryz.func311 (by simp[Tryz.f311]) (by decide),
 qz (C:=CS2) (C':=CX Tg) mixedT qq rfl rfl Tryz.func317 (by simp[Tryz.f317]) (by decide),
 xt (xu (C:=CB) (C':=CX Tg) mixedT qq rfl rfl) (qz (C:=CS2) (C':=CX Tg) mixedT qq rfl rfl Tryz.func366 (by simp[Tryz.f366]) (by decide)),
 qz (C:=CS2) (C':=CX Tg) mixedT qq rfl rfl Tryz.func320 (by simp[Tryz.f320]) (by decide),
 qz (C:=CS2) (C':=CX Tg) mixedT qq rfl rfl Tryz.func27 (by simp[Tryz.f27]) (by decide),
 xt (xu (C:=CB) (C':=CX Tg) mixedT qq rfl rfl) (ku (C:=CS2) (C':=CX Tg) mixedT qq rfl rfl Tryz.func353 (by simp[Tryz.f353]) (by decide)),
 xt (xu (C:=CB) (C':=CX Tg) mixedT qq rfl rfl) (zg (C:=CS2) (C':=CX Tg) mixedT qq rfl rfl Tryz.func369 (by simp[Tryz.f369]) (by decide)),
 xt (xu (C:=CB) (C':=CX Tg) mixedT qq rfl rfl) (Xh (C:=CS2) (C':=CX Tg) mixedT qq rfl rfl Tryz.func313 (by simp[Tryz.f313]) (by decide)),
 zg (C:=CS2) (C':=CX Tg) mixedT qq rfl rfl Tryz.func28 (by simp[Tryz.f28]) (by decide),
 vt (C:=CB) (C':=CX Tg) mixedT qq rfl rfl Tryz.func351 (by simp[Tryz.f351]) (by decide),
 Yv (C:=CS3) (C':=CX Tg) mixedT qq rfl rfl Tryz.func315 (by simp[Tryz.f315]) (by decide),trivial⟩)
noncomputable def K5L:List (Nat×ZV):=[(311,xL jb CS2 311 22),
 (317,xL jb CS2 317 66),
 (366,jU (wl jb CB CB 366) (xL jb CS2 366 20)),
 (320,xL jb CS2 320 66),
 (27,xL jb CS2 27 1),
 (353,jU (wl jb CB CB 353) (ZC jb CS2 353 20)),
 (369,jU (wl jb CB CB 369) (wK jb CS2 369 20)),
 (313,jU (wl jb CB CB 313) (Pb jb CS2 313 20)),
 (28,wK jb CS2 28 1),
 (351,H2 jb CB 351),
 (315,E2 jb CS3 315),
 (271,ZC jb CS4 271 66),
 (270,wK jb CS4 270 66)]
noncomputable def K5:Cx:=CX K5L
instance:EffOk K5:=xI (jR ⟨qz (C:=CS2) (C':=CX K5L) mixedT qq rfl rfl Tryz.func311 (by simp[Tryz.f311]) (by decide),
 qz (C:=CS2) (C':=CX K5L) mixedT qq rfl rfl Tryz.func317 (by simp[Tryz.f317]) (by decide),
 xt (xu (C:=CB) (C':=CX K5L) mixedT qq rfl rfl) (qz (C:=CS2) (C':=CX K5L) mixedT qq rfl rfl Tryz.func366 (by simp[Tryz.f366]) (by decide)),
 qz (C:=CS2) (C':=CX K5L) mixedT qq rfl rfl Tryz.func320 (by simp[Tryz.f320]) (by decide),
 qz (C:=CS2) (C':=CX K5L) mixedT qq rfl rfl Tryz.func27 (by simp[Tryz.f27]) (by decide),
 xt (xu (C:=CB) (C':=CX K5L) mixedT qq rfl rfl) (ku (C:=CS2) (C':=CX K5L) mixedT qq rfl rfl Tryz.func353 (by simp[Tryz.f353]) (by decide)),
 xt (xu (C:=CB) (C':=CX K5L) mixedT qq rfl rfl) (zg (C:=CS2) (C':=CX K5L) mixedT qq rfl rfl Tryz.func369 (by simp[Tryz.f369]) (by decide)),
 xt (xu (C:=CB) (C':=CX K5L) mixedT qq rfl rfl) (Xh (C:=CS2) (C':=CX K5L) mixedT qq rfl rfl Tryz.func313 (by simp[Tryz.f313]) (by decide)),
 zg (C:=CS2) (C':=CX K5L) mixedT qq rfl rfl Tryz.func28 (by simp[Tryz.f28]) (by decide),
 vt (C:=CB) (C':=CX K5L) mixedT qq rfl rfl Tryz.func351 (by simp[Tryz.f351]) (by decide),
 Yv (C:=CS3) (C':=CX K5L) mixedT qq rfl rfl Tryz.func315 (by simp[Tryz.f315]) (by decide),
 ku (C:=CS4) (C':=CX K5L) mixedT qq rfl rfl Tryz.func271 (by simp[Tryz.f271]) (by decide),
 zg (C:=CS4) (C':=CX K5L) mixedT qq rfl rfl Tryz.func270 (by simp[Tryz.f270]) (by decide),trivial⟩)
end Eng
end
