/- Clone of no points. -/
import Derived.Test.YtbehlcfelmbmlaaGreatDoorTabB
import Derived.Shelf.Lays2
import Derived.Shelf.RegionOpenPlain
import Derived.WalkKit
import Derived.Deep.LoopGhost
import Derived.Deep.RegionLaw
import Derived.Lib.Walk
import Derived.Lib.SliceRun
import Derived.KernelRfl
open Option.some renaming injEq→Aa
section
namespace Eng
open Go Go.Lib Go.Proofs Go.RowKit Go.Shelf
set_option maxRecDepth 1000000
def ptZ:List Value:=[.bool false,.slice none 0 0,.bool false,.slice none 0 0,.bool false,.slice none 0 0,.bool false,.slice none 0 0,.bool false,.slice none 0 0,.bool false,.slice none 0 0,.bool false,.slice none 0 0,.bool false,.slice none 0 0,.bool false,.slice none 0 0,.bool false,.slice none 0 0]
theorem OH:zC Tryz.prog 53=some ptZ:=by kernel_rfl
theorem Vs:Tryz.prog.underlying 242=some (.slice 53):=by kernel_rfl
set_option maxHeartbeats 4000000 in
theorem Uc (c:Nat) (w:World):Calls Tryz.prog 349 #[.slice none 0 c] w fun e w'=>e= .returned (.slice none 0 0)∧w'=w:=by
 have a0:Tryz.prog.follows .mixedOrders=true:=by kernel_rfl
 have t242:=Vs;have he:∀w,(binOp .eql 242 (.slice none 0 c) (.slice none 0 0)).run Tryz.prog w= .ok (.bool true) w:=fun w=>by have:=run_eql_slice_nil (P:=Tryz.prog) w 242 53 none 0 c 0 0 Vs;simpa using this
 go_enter Tryz.func349,Tryz.ntmps349
 go_wp2
 all_goals (go_ret;exact⟨rfl,rfl⟩)
set_option maxHeartbeats 4000000 in
theorem Ud (a:Addr) (c:Nat) (w:World):Calls Tryz.prog 349 #[.slice (some a) 0 c] w fun e w'=>∃b,e= .returned (.slice (some b) 0 0)∧w'=w.alloc (.cells #[] 53):=by
 have a0:Tryz.prog.follows .mixedOrders=true:=by kernel_rfl
 have t242:=Vs;have he:∀w,(binOp .eql 242 (.slice (some a) 0 c) (.slice none 0 0)).run Tryz.prog w= .ok (.bool false) w:=fun w=>by have:=run_eql_slice_nil (P:=Tryz.prog) w 242 53 (some a) 0 c 0 0 Vs;simpa using this
 have z53:∀w,(Go.sizeOf 53).run Tryz.prog w= .ok 20 w:=fun w=>xp OH w
 go_enter Tryz.func349,Tryz.ntmps349
 go_wp2
 go_ret
 exact⟨_,rfl,rfl⟩
theorem Ue:qe CC 349 [.c (.sl [])] [.c (.sl [])]:=by
 intro w F vs _ _ ha
 match vs,ha with
 |[v],⟨h,_⟩=>
  obtain⟨ad,c,rfl,_⟩:=CD.slice_inv (show CD w F (.sl []) v from h);have hP:CC.P=Tryz.prog:=rfl;rw[hP];cases ad with
  |none=>refine(Uc c w).mono ?_;rintro e w' ⟨rfl,rfl⟩;exact⟨Below.refl _ _,_,rfl,CD.nil _ _⟩
  |some a=>refine(Ud a c w).mono ?_;rintro e w' ⟨b,rfl,rfl⟩;exact⟨(Below.refl _ _).alloc (Nat.le_refl _) _,_,rfl,CD.nil _ _⟩
def Zj (f:Nat) (al:List A):Option (List A):=
 match Nat.beq f 349 with
 |false=>BJ f al
 |true=>match al with
  |[.c (.sl [])]=>some [.c (.sl [])]
  |_=>none
theorem Uf (f:Nat) (al rs:List A) (h:Zj f al=some rs):qe CC f al rs:=by
 unfold Zj at h;split at h
 ·exact PI f al rs h
 ·rename_i hf;obtain rfl:=Nat.eq_of_beq_eq_true hf;split at h
  ·simp only[Aa]at h;subst h;exact Ue
  ·simp at h
theorem x8 {ex:List (Nat×ZA)} (f:Nat) (al rs:List A) (h:Zj f al=some rs):qe (CX ex) f al rs:=upX (Uf f al rs h)
theorem Qz {α:Type} {o:Option α} (h:S6 o=true):∃x,o=some x:=by cases o with|none=>simp[S6]at h|some x=>exact⟨x,rfl⟩
end Eng
end

section
namespace Eng
open Go Go.Proofs
set_option maxRecDepth 100000
abbrev Rf:=List (List D)×List A×List A
def KN (es:List (List D)) (al:List A):List Rf→Option (List A)
 |[]=>none
 |(es0,al0,rs0)::r=>match eqL (eqL (eqD 20)) es es0 with
  |true=>match eqL eqA al al0 with
   |true=>some rs0
   |false=>KN es al r
  |false=>KN es al r
def OI (s:Nat) (T:List Rf):ZA:=HZ s (fun es al=>S6 (KN es al T)) (fun es al=>match KN es al T with|some r=>r|none=>[])
def SN (C:Cx) (f s:Nat):List Rf→Prop
 |[]=>True
 |(es0,al0,rs0)::r=>Qy C f s es0 al0 rs0∧SN C f s r
theorem Zk {C:Cx} {f s:Nat} {es:List (List D)} {al rs:List A}:∀{T:List Rf},SN C f s T→KN es al T=some rs→Qy C f s es al rs
 |[],_,h=>by simp[KN]at h
 |(es0,al0,rs0)::r,ha,h=>by
  obtain⟨h1,h2⟩:=ha;unfold KN at h;split at h
  ·rename_i he;split at h
   ·rename_i ha';obtain rfl:=zF (fun a b hh=>zF (Kc 20) hh) he;obtain rfl:=zF Yb ha';simp only[Aa]at h;subst h;exact h1
   ·exact Zk h2 h
  ·exact Zk h2 h
theorem Vt {C C':Cx} (hP:C'.P=C.P) (hG:C'.G=C.G) {f s:Nat} {fn:Func} {T:List Rf} (hf:C'.P.funcs[f]? =some fn) (hb:fn.body≠none) (hn:fn.name≠ "runtime.NumGoroutine") (hT:SN C f s T):EffAt C' f (OI s T):=
 L8 hf hb hn fun es al hc=>by obtain⟨x,hx⟩:=Qz hc;simp only[hx];exact Ub hP hG (Zk hT hx)
abbrev Rg:=List A×Nat×List (List D)×List A
def YN (al:List A):List Rg→Option (Nat×List (List D)×List A)
 |[]=>none
 |(al0,x)::r=>match eqL eqA al al0 with
  |true=>some x
  |false=>YN al r
def OJ (T:List Rg):ZA:=HY (fun al=>S6 (YN al T)) (fun al=>match YN al T with|some r=>r|none=>(0,[],[]))
def SO (C:Cx) (f:Nat):List Rg→Prop
 |[]=>True
 |(al0,s,es,a2)::r=>Qx C f al0 s es a2∧SO C f r
theorem Vu {C:Cx} {f s:Nat} {al:List A} {es:List (List D)} {a2:List A}:∀{T:List Rg},SO C f T→YN al T=some (s,es,a2)→Qx C f al s es a2
 |[],_,h=>by simp[YN]at h
 |(al0,s0,es0,as0)::r,ha,h=>by
  obtain⟨h1,h2⟩:=ha;unfold YN at h;split at h
  ·rename_i ha';obtain rfl:=zF Yb ha';simp only[Aa,Prod.mk.injEq]at h;obtain⟨rfl,rfl,rfl⟩:=h;exact h1
  ·exact Vu h2 h
theorem Vv {C C':Cx} (hP:C'.P=C.P) (hG:C'.G=C.G) {f:Nat} {fn:Func} {T:List Rg} (hf:C'.P.funcs[f]? =some fn) (hb:fn.body≠none) (hn:fn.name≠ "runtime.NumGoroutine") (hT:SO C f T):EffAt C' f (OJ T):=
 L7 hf hb hn fun al hc=>by obtain⟨⟨s,es,a2⟩,hx⟩:=Qz hc;simp only[hx];exact Ua hP hG (Vu hT hx)
abbrev OK:=List (List D)×List (List D)×List A×List (List D)×List (List D)
def KO (xs ys:List (List D)) (al:List A):List OK→Option (List (List D)×List (List D))
 |[]=>none
 |(xs0,ys0,al0,xs1,ys1)::r=>match eqL (eqL (eqD 20)) xs xs0&&eqL (eqL (eqD 20)) ys ys0 with
  |true=>match eqL eqA al al0 with
   |true=>some (xs1,ys1)
   |false=>KO xs ys al r
  |false=>KO xs ys al r
def OL (s:Nat) (T:List OK):ZA:=HX s (fun xs ys al=>S6 (KO xs ys al T)) (fun xs ys al=>match KO xs ys al T with|some r=>r|none=>([],[]))
def RK (C:Cx) (f s:Nat):List OK→Prop
 |[]=>True
 |(xs0,ys0,al0,xs1,ys1)::r=>Xu C f s xs0 ys0 al0 xs1 ys1∧RK C f s r
theorem Zl {C:Cx} {f s:Nat} {xs ys xs' ys':List (List D)} {al:List A}:∀{T:List OK},RK C f s T→KO xs ys al T=some (xs',ys')→Xu C f s xs ys al xs' ys'
 |[],_,h=>by simp[KO]at h
 |(xs0,ys0,al0,xs1,ys1)::r,ha,h=>by
  obtain⟨h1,h2⟩:=ha;unfold KO at h;split at h
  ·rename_i he;simp only[Bool.and_eq_true]at he;split at h
   ·rename_i ha';obtain rfl:=zF (fun a b hh=>zF (Kc 20) hh) he.1;obtain rfl:=zF (fun a b hh=>zF (Kc 20) hh) he.2;obtain rfl:=zF Yb ha';simp only[Aa,Prod.mk.injEq]at h;obtain⟨rfl,rfl⟩:=h;exact h1
   ·exact Zl h2 h
  ·exact Zl h2 h
theorem Vw {C C':Cx} (hP:C'.P=C.P) (hG:C'.G=C.G) {f s:Nat} {fn:Func} {T:List OK} (hf:C'.P.funcs[f]? =some fn) (hb:fn.body≠none) (hn:fn.name≠ "runtime.NumGoroutine") (hw:C'.wd f=true) (hT:RK C f s T):EffAt C' f (OL s T):=
 L2 hf hb hn hw fun xs ys al hc=>by obtain⟨⟨x1,y1⟩,hx⟩:=Qz hc;simp only[hx];exact HU hP hG (Zl hT hx)
end Eng
end

section
namespace Eng
open Go Go.Proofs
set_option maxRecDepth 1000000
def exA:List D:=[.bool false,.sl [[.int .u32 4000]],.bool false,.sl [[.int .u32 1]],.bool false,.sl [],.bool false,.sl [[.int .u32 1]],.bool false,.sl [[.int .u32 5000]],.bool false,.sl [[.int .u32 1]],.bool false,.sl [],.bool false,.sl [[.int .u32 1]],.bool false,.sl [],.bool false,.sl [[.int .u32 1]]]
def exB:List D:=[.bool false,.sl [[.int .u32 6000]],.bool false,.sl [[.int .u32 1]],.bool false,.sl [],.bool false,.sl [[.int .u32 1]],.bool false,.sl [[.int .u32 5000]],.bool false,.sl [[.int .u32 1]],.bool false,.sl [],.bool false,.sl [[.int .u32 1]],.bool false,.sl [],.bool false,.sl [[.int .u32 1]]]
def exH:List D:=[.bool true,.bool false,.sl [],.bool false,.sl [[.int .u32 1]],.bool false,.sl [],.bool false,.sl [[.int .u32 1]],.bool false,.sl [],.bool false,.sl [[.int .u32 1]],.bool false,.sl [[.int .u32 5000]],.bool false,.sl [[.int .u32 1]],.bool false,.sl [[.int .u32 5000]],.bool false,.sl [[.int .u32 1]],.bool false,.sl [[.int .u32 1000000]],.bool false,.sl [[.int .u32 1]],.bool false]++(exA++exB)
def exK:List D:=[.bool true,.bool false,.sl [],.bool false,.sl [[.int .u32 1]],.bool false,.sl [],.bool false,.sl [[.int .u32 1]],.bool false,.sl [],.bool false,.sl [[.int .u32 1]],.bool false,.sl [[.int .u32 5000]],.bool false,.sl [[.int .u32 1]],.bool false,.sl [[.int .u32 5000]],.bool false,.sl [[.int .u32 1]],.bool false,.sl [[.int .u32 1000000]],.bool false,.sl [[.int .u32 1]],.bool false]++(exB++exA)
theorem B3:L4 Zj CB 1000 40 209 20 [exA,exB] [.c (.clo 210 [.ptr exH])]=some [.c (.sl [])]:=by kernel_rfl
theorem B5:L3 Zj CB 1000 40 212 [.ag exH,.c (.sl [])]=some (66,[exH],[.c (.int .i64 0)]):=by kernel_rfl
theorem B6:L4 Zj CB 1000 40 209 20 [exA,exB] [.c (.clo 210 [.ptr exK])]=some [.c (.sl [])]:=by kernel_rfl
theorem B7:L3 Zj CB 1000 40 212 [.ag exK,.c (.sl [])]=some (66,[exK],[.c (.int .i64 0)]):=by kernel_rfl
end Eng
end

section
namespace Eng
open Go Go.Proofs
def TD:List Rf:=[([exA,exB],[.c (.clo 210 [.ptr exH])],[.c (.sl [])]),([exA,exB],[.c (.clo 210 [.ptr exK])],[.c (.sl [])])]
theorem RL:SN CB 209 20 TD:=⟨Vr (C:=CB) mixedT x8 B3,Vr (C:=CB) mixedT x8 B6,trivial⟩
def TT:List Rg:=[([.ag exH,.c (.sl [])],66,[exH],[.c (.int .i64 0)]),([.ag exK,.c (.sl [])],66,[exK],[.c (.int .i64 0)])]
theorem RM:SO CB 212 TT:=⟨Vq (C:=CB) mixedT x8 B5,Vq (C:=CB) mixedT x8 B7,trivial⟩
noncomputable def K1L:List (Nat×ZA):=[(209,OI 20 TD),(212,OJ TT)]
noncomputable def K1:Cx:=CX K1L
instance:EffOk K1:=j7 (ZB ⟨Vt (C':=CX K1L) rfl rfl Tryz.func209 (by simp[Tryz.f209]) (by decide) RL,Vv (C':=CX K1L) rfl rfl Tryz.func212 (by simp[Tryz.f212]) (by decide) RM,trivial⟩)
end Eng
end

section
namespace Eng
open Go Go.Proofs
set_option maxRecDepth 1000000
def exL:List D:=[.bool false,.bool true,.sl [[.int .u32 500]],.bool false,.sl [[.int .u32 1]],.bool false,.sl [[.int .u32 10000]],.bool false,.sl [[.int .u32 1]],.bool false,.sl [],.bool false,.sl [[.int .u32 1]],.bool false,.sl [],.bool false,.sl [[.int .u32 1]],.bool false,.sl [],.bool false,.sl [[.int .u32 1]],.bool false,.sl [],.bool false,.sl [[.int .u32 1]],.bool false,.bool false,.sl [],.bool false,.sl [[.int .u32 1]],.bool false,.sl [],.bool false,.sl [[.int .u32 1]],.bool false,.sl [],.bool false,.sl [[.int .u32 1]],.bool false,.sl [],.bool false,.sl [[.int .u32 1]],.bool false,.sl [],.bool false,.sl [[.int .u32 1]],.bool false,.sl [[.int .u32 10000]],.bool false,.sl [[.int .u32 1]],.bool false,.sl [],.bool false,.sl [[.int .u32 1]],.bool false,.sl [[.int .u32 500]],.bool false,.sl [[.int .u32 1]],.bool false,.sl [],.bool false,.sl [[.int .u32 1]],.bool false,.sl [],.bool false,.sl [[.int .u32 1]]]
def z4:List D:=[.bool false,.sl [],.bool false,.sl [[.int .u32 1]]]
def rtN (n:Int):List D:=[.bool false,.sl [[.int .u32 n]],.bool false,.sl [[.int .u32 1]]]++(z4++z4)
def rtZ:List D:=z4++(z4++z4)
def xs0:List (List D):=[]
def xs1:List (List D):=[rtZ]
def xs2:List (List D):=[rtZ,rtN 10000]
def xs3:List (List D):=[rtZ,rtN 10000,rtN 4000]
def xs4:List (List D):=[rtZ,rtN 10000,rtN 4000,rtN 6000]
def xs5:List (List D):=[rtZ,rtN 10000,rtN 4000,rtN 6000,rtN 5000]
def xs6:List (List D):=[rtZ,rtN 10000,rtN 4000,rtN 6000,rtN 5000,rtN 4000]
def xs7:List (List D):=[rtZ,rtN 10000,rtN 4000,rtN 6000,rtN 5000,rtN 4000,rtN 6000]
def xs8:List (List D):=[rtZ,rtN 10000,rtN 4000,rtN 6000,rtN 5000,rtN 4000,rtN 6000,rtN 5000]
def ys0:List (List D):=[]
def ys1:List (List D):=[rtZ]
def ys2:List (List D):=[rtZ,rtN 500]
def ys3:List (List D):=[rtZ,rtN 500,rtN 5000]
def ys4:List (List D):=[rtZ,rtN 500,rtN 5000,rtN 5000]
def ys5:List (List D):=[rtZ,rtN 500,rtN 5000,rtN 5000,rtN 4000]
def ys6:List (List D):=[rtZ,rtN 500,rtN 5000,rtN 5000,rtN 4000,rtN 5000]
def ys7:List (List D):=[rtZ,rtN 500,rtN 5000,rtN 5000,rtN 4000,rtN 5000,rtN 5000]
def ys8:List (List D):=[rtZ,rtN 500,rtN 5000,rtN 5000,rtN 4000,rtN 5000,rtN 5000,rtN 6000]
theorem add0 (g:Nat):vD Zj CB 1000 40 64 12 xs0 ys0 [.ag (rtZ),.ag (rtZ)] g=some (xs1,ys1,12,12,g):=by kernel_rfl
theorem add1 (g:Nat):vD Zj CB 1000 40 64 12 xs1 ys1 [.ag (rtN 10000),.ag (rtN 500)] g=some (xs2,ys2,12,12,g):=by kernel_rfl
theorem add2 (g:Nat):vD Zj CB 1000 40 64 12 xs2 ys2 [.ag (rtN 4000),.ag (rtN 5000)] g=some (xs3,ys3,12,12,g):=by kernel_rfl
theorem add3 (g:Nat):vD Zj CB 1000 40 64 12 xs3 ys3 [.ag (rtN 6000),.ag (rtN 5000)] g=some (xs4,ys4,12,12,g):=by kernel_rfl
theorem add4 (g:Nat):vD Zj CB 1000 40 64 12 xs4 ys4 [.ag (rtN 5000),.ag (rtN 4000)] g=some (xs5,ys5,12,12,g):=by kernel_rfl
theorem add5 (g:Nat):vD Zj CB 1000 40 64 12 xs5 ys5 [.ag (rtN 4000),.ag (rtN 5000)] g=some (xs6,ys6,12,12,g):=by kernel_rfl
theorem add6 (g:Nat):vD Zj CB 1000 40 64 12 xs6 ys6 [.ag (rtN 6000),.ag (rtN 5000)] g=some (xs7,ys7,12,12,g):=by kernel_rfl
theorem add7 (g:Nat):vD Zj CB 1000 40 64 12 xs7 ys7 [.ag (rtN 5000),.ag (rtN 6000)] g=some (xs8,ys8,12,12,g):=by kernel_rfl
def TA:List OK:=[(xs0,ys0,[.ag (rtZ),.ag (rtZ)],xs1,ys1),(xs1,ys1,[.ag (rtN 10000),.ag (rtN 500)],xs2,ys2),(xs2,ys2,[.ag (rtN 4000),.ag (rtN 5000)],xs3,ys3),(xs3,ys3,[.ag (rtN 6000),.ag (rtN 5000)],xs4,ys4),(xs4,ys4,[.ag (rtN 5000),.ag (rtN 4000)],xs5,ys5),(xs5,ys5,[.ag (rtN 4000),.ag (rtN 5000)],xs6,ys6),(xs6,ys6,[.ag (rtN 6000),.ag (rtN 5000)],xs7,ys7),(xs7,ys7,[.ag (rtN 5000),.ag (rtN 6000)],xs8,ys8)]
theorem B8:RK CB 64 12 TA:=⟨zh (C:=CB) mixedT x8 add0,zh (C:=CB) mixedT x8 add1,zh (C:=CB) mixedT x8 add2,zh (C:=CB) mixedT x8 add3,zh (C:=CB) mixedT x8 add4,zh (C:=CB) mixedT x8 add5,zh (C:=CB) mixedT x8 add6,zh (C:=CB) mixedT x8 add7,trivial⟩
noncomputable def K2L:List (Nat×ZA):=[(209,OI 20 TD),(212,OJ TT),(64,OL 12 TA)]
noncomputable def K2:Cx:=CX K2L
instance:EffOk K2:=j7 (ZB ⟨Vt (C':=CX K2L) rfl rfl Tryz.func209 (by simp[Tryz.f209]) (by decide) RL,Vv (C':=CX K2L) rfl rfl Tryz.func212 (by simp[Tryz.f212]) (by decide) RM,Vw (C':=CX K2L) rfl rfl Tryz.func64 (by simp[Tryz.f64]) (by decide) rfl B8,trivial⟩)
end Eng
end

section
namespace Eng
open Go Go.Proofs
set_option maxRecDepth 1000000
theorem crv0 (g:Nat):vD Zj K2 1000 40 63 12 xs0 ys0 [.ag exL] g=some (xs2,ys2,12,12,g):=by kernel_rfl
theorem crv1 (g:Nat):vD Zj K2 1000 40 63 12 xs2 ys2 [.ag exH] g=some (xs5,ys5,12,12,g):=by kernel_rfl
theorem crv2 (g:Nat):vD Zj K2 1000 40 63 12 xs5 ys5 [.ag exK] g=some (xs8,ys8,12,12,g):=by kernel_rfl
def TC:List OK:=[(xs0,ys0,[.ag exL],xs2,ys2),(xs2,ys2,[.ag exH],xs5,ys5),(xs5,ys5,[.ag exK],xs8,ys8)]
theorem B9:RK K2 63 12 TC:=⟨zh (C:=K2) mixedT x8 crv0,zh (C:=K2) mixedT x8 crv1,zh (C:=K2) mixedT x8 crv2,trivial⟩
noncomputable def K3L:List (Nat×ZA):=[(63,OL 12 TC)]
noncomputable def K3:Cx:=CX K3L
instance:EffOk K3:=j7 (ZB ⟨Vw (C:=K2) (C':=CX K3L) rfl rfl Tryz.func63 (by simp[Tryz.f63]) (by decide) rfl B9,trivial⟩)
end Eng
end
