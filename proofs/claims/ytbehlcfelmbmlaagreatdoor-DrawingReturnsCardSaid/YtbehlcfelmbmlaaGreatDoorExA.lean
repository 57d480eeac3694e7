/- Clone of no points. -/
import Derived.Test.YtbehlcfelmbmlaaGreatDoorTabB
import Derived.Shelf.Lays2
import Derived.Shelf.RegionOpenPlain
import Derived.WalkKit
import Derived.Deep.LoopGhost
import Derived.Deep.RegionLaw
import Derived.Lib.Walk
import Derived.Lib.SliceRun
import Derived.KernelRfl
open Option.some renaming injEq→Aw
section
namespace Eng
open Go Go.Lib Go.Proofs Go.RowKit Go.Shelf
set_option maxRecDepth 1000000
def ptZ:List Value:=[.bool false,.slice none 0 0,.bool false,.slice none 0 0,.bool false,.slice none 0 0,.bool false,.slice none 0 0,.bool false,.slice none 0 0,.bool false,.slice none 0 0,.bool false,.slice none 0 0,.bool false,.slice none 0 0,.bool false,.slice none 0 0,.bool false,.slice none 0 0]
theorem Ed:jf Tryz.prog 53=some ptZ:=by kernel_rfl
theorem UG:Tryz.prog.underlying 242=some (.slice 53):=by kernel_rfl
set_option maxHeartbeats 4000000 in
theorem OR (c:Nat) (w:World):Calls Tryz.prog 349 #[.slice none 0 c] w fun e w'=>e= .returned (.slice none 0 0)∧w'=w:=by
 have a0:Tryz.prog.follows .mixedOrders=true:=by kernel_rfl
 have t242:=UG;have he:∀w,(binOp .eql 242 (.slice none 0 c) (.slice none 0 0)).run Tryz.prog w= .ok (.bool true) w:=fun w=>by have:=run_eql_slice_nil (P:=Tryz.prog) w 242 53 none 0 c 0 0 UG;simpa using this
 go_enter Tryz.func349,Tryz.ntmps349
 go_wp2
 all_goals (go_ret;exact⟨rfl,rfl⟩)
set_option maxHeartbeats 4000000 in
theorem OS (a:Addr) (c:Nat) (w:World):Calls Tryz.prog 349 #[.slice (some a) 0 c] w fun e w'=>∃b,e= .returned (.slice (some b) 0 0)∧w'=w.alloc (.cells #[] 53):=by
 have a0:Tryz.prog.follows .mixedOrders=true:=by kernel_rfl
 have t242:=UG;have he:∀w,(binOp .eql 242 (.slice (some a) 0 c) (.slice none 0 0)).run Tryz.prog w= .ok (.bool false) w:=fun w=>by have:=run_eql_slice_nil (P:=Tryz.prog) w 242 53 (some a) 0 c 0 0 UG;simpa using this
 have z53:∀w,(Go.sizeOf 53).run Tryz.prog w= .ok 20 w:=fun w=>xA Ed w
 go_enter Tryz.func349,Tryz.ntmps349
 go_wp2
 go_ret
 exact⟨_,rfl,rfl⟩
theorem OT:qf CC 349 [.c (.sl [])] [.c (.sl [])]:=by
 intro w F vs _ _ ha
 match vs,ha with
 |[v],⟨h,_⟩=>
  obtain⟨ad,c,rfl,_⟩:=CD.slice_inv (show CD w F (.sl []) v from h);have hP:CC.P=Tryz.prog:=rfl;rw[hP];cases ad with
  |none=>refine(OR c w).mono ?_;rintro e w' ⟨rfl,rfl⟩;exact⟨Below.refl _ _,_,rfl,CD.nil _ _⟩
  |some a=>refine(OS a c w).mono ?_;rintro e w' ⟨b,rfl,rfl⟩;exact⟨(Below.refl _ _).alloc (Nat.le_refl _) _,_,rfl,CD.nil _ _⟩
def WO (f:Nat) (al:List A):Option (List A):=
 match Nat.beq f 349 with
 |false=>IX f al
 |true=>match al with
  |[.c (.sl [])]=>some [.c (.sl [])]
  |_=>none
theorem OU (f:Nat) (al rs:List A) (h:WO f al=some rs):qf CC f al rs:=by
 unfold WO at h;split at h
 ·exact PR f al rs h
 ·rename_i hf;obtain rfl:=Nat.eq_of_beq_eq_true hf;split at h
  ·simp only[Aw]at h;subst h;exact OT
  ·simp at h
theorem xP {ex:List (Nat×Vq)} (f:Nat) (al rs:List A) (h:WO f al=some rs):qf (CX ex) f al rs:=upX (OU f al rs h)
theorem Jn {α:Type} {o:Option α} (h:AK o=true):∃x,o=some x:=by cases o with|none=>simp[AK]at h|some x=>exact⟨x,rfl⟩
end Eng
end

section
namespace Eng
open Go Go.Proofs
set_option maxRecDepth 100000
abbrev F4:=List (List D)×List A×List A
def Hr (es:List (List D)) (al:List A):List F4→Option (List A)
 |[]=>none
 |(es0,al0,rs0)::r=>match eqL (eqL (eqD 20)) es es0 with
  |true=>match eqL eqA al al0 with
   |true=>some rs0
   |false=>Hr es al r
  |false=>Hr es al r
def Ee (s:Nat) (T:List F4):Vq:=OO s (fun es al=>AK (Hr es al T)) (fun es al=>match Hr es al T with|some r=>r|none=>[])
def Ik (C:Cx) (f s:Nat):List F4→Prop
 |[]=>True
 |(es0,al0,rs0)::r=>Jm C f s es0 al0 rs0∧Ik C f s r
theorem WP {C:Cx} {f s:Nat} {es:List (List D)} {al rs:List A}:∀{T:List F4},Ik C f s T→Hr es al T=some rs→Jm C f s es al rs
 |[],_,h=>by simp[Hr]at h
 |(es0,al0,rs0)::r,ha,h=>by
  obtain⟨h1,h2⟩:=ha;unfold Hr at h;split at h
  ·rename_i he;split at h
   ·rename_i ha';obtain rfl:=jl (fun a b hh=>jl (Ge 20) hh) he;obtain rfl:=jl Th ha';simp only[Aw]at h;subst h;exact h1
   ·exact WP h2 h
  ·exact WP h2 h
theorem UH {C C':Cx} (hP:C'.P=C.P) (hG:C'.G=C.G) {f s:Nat} {fn:Func} {T:List F4} (hf:C'.P.funcs[f]? =some fn) (hb:fn.body≠none) (hn:fn.name≠ "runtime.NumGoroutine") (hT:Ik C f s T):EffAt C' f (Ee s T):=
 SJ hf hb hn fun es al hc=>by obtain⟨x,hx⟩:=Jn hc;simp only[hx];exact OQ hP hG (WP hT hx)
abbrev F5:=List A×Nat×List (List D)×List A
def Mf (al:List A):List F5→Option (Nat×List (List D)×List A)
 |[]=>none
 |(al0,x)::r=>match eqL eqA al al0 with
  |true=>some x
  |false=>Mf al r
def Ef (T:List F5):Vq:=ON (fun al=>AK (Mf al T)) (fun al=>match Mf al T with|some r=>r|none=>(0,[],[]))
def Il (C:Cx) (f:Nat):List F5→Prop
 |[]=>True
 |(al0,s,es,a2)::r=>Jl C f al0 s es a2∧Il C f r
theorem UI {C:Cx} {f s:Nat} {al:List A} {es:List (List D)} {a2:List A}:∀{T:List F5},Il C f T→Mf al T=some (s,es,a2)→Jl C f al s es a2
 |[],_,h=>by simp[Mf]at h
 |(al0,s0,es0,as0)::r,ha,h=>by
  obtain⟨h1,h2⟩:=ha;unfold Mf at h;split at h
  ·rename_i ha';obtain rfl:=jl Th ha';simp only[Aw,Prod.mk.injEq]at h;obtain⟨rfl,rfl,rfl⟩:=h;exact h1
  ·exact UI h2 h
theorem UJ {C C':Cx} (hP:C'.P=C.P) (hG:C'.G=C.G) {f:Nat} {fn:Func} {T:List F5} (hf:C'.P.funcs[f]? =some fn) (hb:fn.body≠none) (hn:fn.name≠ "runtime.NumGoroutine") (hT:Il C f T):EffAt C' f (Ef T):=
 SI hf hb hn fun al hc=>by obtain⟨⟨s,es,a2⟩,hx⟩:=Jn hc;simp only[hx];exact OP hP hG (UI hT hx)
abbrev Eg:=List (List D)×List (List D)×List A×List (List D)×List (List D)
def Hs (xs ys:List (List D)) (al:List A):List Eg→Option (List (List D)×List (List D))
 |[]=>none
 |(xs0,ys0,al0,xs1,ys1)::r=>match eqL (eqL (eqD 20)) xs xs0&&eqL (eqL (eqD 20)) ys ys0 with
  |true=>match eqL eqA al al0 with
   |true=>some (xs1,ys1)
   |false=>Hs xs ys al r
  |false=>Hs xs ys al r
def Eh (s:Nat) (T:List Eg):Vq:=OM s (fun xs ys al=>AK (Hs xs ys al T)) (fun xs ys al=>match Hs xs ys al T with|some r=>r|none=>([],[]))
def Ao (C:Cx) (f s:Nat):List Eg→Prop
 |[]=>True
 |(xs0,ys0,al0,xs1,ys1)::r=>KL C f s xs0 ys0 al0 xs1 ys1∧Ao C f s r
theorem WQ {C:Cx} {f s:Nat} {xs ys xs' ys':List (List D)} {al:List A}:∀{T:List Eg},Ao C f s T→Hs xs ys al T=some (xs',ys')→KL C f s xs ys al xs' ys'
 |[],_,h=>by simp[Hs]at h
 |(xs0,ys0,al0,xs1,ys1)::r,ha,h=>by
  obtain⟨h1,h2⟩:=ha;unfold Hs at h;split at h
  ·rename_i he;simp only[Bool.and_eq_true]at he;split at h
   ·rename_i ha';obtain rfl:=jl (fun a b hh=>jl (Ge 20) hh) he.1;obtain rfl:=jl (fun a b hh=>jl (Ge 20) hh) he.2;obtain rfl:=jl Th ha';simp only[Aw,Prod.mk.injEq]at h;obtain⟨rfl,rfl⟩:=h;exact h1
   ·exact WQ h2 h
  ·exact WQ h2 h
theorem UK {C C':Cx} (hP:C'.P=C.P) (hG:C'.G=C.G) {f s:Nat} {fn:Func} {T:List Eg} (hf:C'.P.funcs[f]? =some fn) (hb:fn.body≠none) (hn:fn.name≠ "runtime.NumGoroutine") (hw:C'.wd f=true) (hT:Ao C f s T):EffAt C' f (Eh s T):=
 SD hf hb hn hw fun xs ys al hc=>by obtain⟨⟨x1,y1⟩,hx⟩:=Jn hc;simp only[hx];exact OJ hP hG (WQ hT hx)
end Eng
end

section
namespace Eng
open Go Go.Proofs
set_option maxRecDepth 1000000
def exA:List D:=[.bool false,.sl [[.int .u32 4000]],.bool false,.sl [[.int .u32 1]],.bool false,.sl [],.bool false,.sl [[.int .u32 1]],.bool false,.sl [[.int .u32 5000]],.bool false,.sl [[.int .u32 1]],.bool false,.sl [],.bool false,.sl [[.int .u32 1]],.bool false,.sl [],.bool false,.sl [[.int .u32 1]]]
def exB:List D:=[.bool false,.sl [[.int .u32 6000]],.bool false,.sl [[.int .u32 1]],.bool false,.sl [],.bool false,.sl [[.int .u32 1]],.bool false,.sl [[.int .u32 5000]],.bool false,.sl [[.int .u32 1]],.bool false,.sl [],.bool false,.sl [[.int .u32 1]],.bool false,.sl [],.bool false,.sl [[.int .u32 1]]]
def exH:List D:=[.bool true,.bool false,.sl [],.bool false,.sl [[.int .u32 1]],.bool false,.sl [],.bool false,.sl [[.int .u32 1]],.bool false,.sl [],.bool false,.sl [[.int .u32 1]],.bool false,.sl [[.int .u32 5000]],.bool false,.sl [[.int .u32 1]],.bool false,.sl [[.int .u32 5000]],.bool false,.sl [[.int .u32 1]],.bool false,.sl [[.int .u32 1000000]],.bool false,.sl [[.int .u32 1]],.bool false]++(exA++exB)
def exK:List D:=[.bool true,.bool false,.sl [],.bool false,.sl [[.int .u32 1]],.bool false,.sl [],.bool false,.sl [[.int .u32 1]],.bool false,.sl [],.bool false,.sl [[.int .u32 1]],.bool false,.sl [[.int .u32 5000]],.bool false,.sl [[.int .u32 1]],.bool false,.sl [[.int .u32 5000]],.bool false,.sl [[.int .u32 1]],.bool false,.sl [[.int .u32 1000000]],.bool false,.sl [[.int .u32 1]],.bool false]++(exB++exA)
theorem IK:SF WO CB 1000 40 209 20 [exA,exB] [.c (.clo 210 [.ptr exH])]=some [.c (.sl [])]:=by kernel_rfl
theorem IL:SE WO CB 1000 40 212 [.ag exH,.c (.sl [])]=some (66,[exH],[.c (.int .i64 0)]):=by kernel_rfl
theorem IM:SF WO CB 1000 40 209 20 [exA,exB] [.c (.clo 210 [.ptr exK])]=some [.c (.sl [])]:=by kernel_rfl
theorem IN:SE WO CB 1000 40 212 [.ag exK,.c (.sl [])]=some (66,[exK],[.c (.int .i64 0)]):=by kernel_rfl
end Eng
end

section
namespace Eng
open Go Go.Proofs
def TD:List F4:=[([exA,exB],[.c (.clo 210 [.ptr exH])],[.c (.sl [])]),([exA,exB],[.c (.clo 210 [.ptr exK])],[.c (.sl [])])]
theorem Ap:Ik CB 209 20 TD:=⟨UF (C:=CB) mixedT xP IK,UF (C:=CB) mixedT xP IM,trivial⟩
def TT:List F5:=[([.ag exH,.c (.sl [])],66,[exH],[.c (.int .i64 0)]),([.ag exK,.c (.sl [])],66,[exK],[.c (.int .i64 0)])]
theorem Aq:Il CB 212 TT:=⟨UE (C:=CB) mixedT xP IL,UE (C:=CB) mixedT xP IN,trivial⟩
noncomputable def K1L:List (Nat×Vq):=[(209,Ee 20 TD),(212,Ef TT)]
noncomputable def K1:Cx:=CX K1L
instance:EffOk K1:=jL (JE ⟨UH (C':=CX K1L) rfl rfl Tryz.func209 (by simp[Tryz.f209]) (by decide) Ap,UJ (C':=CX K1L) rfl rfl Tryz.func212 (by simp[Tryz.f212]) (by decide) Aq,trivial⟩)
end Eng
end

section
namespace Eng
open Go Go.Proofs
set_option maxRecDepth 1000000
def exL:List D:=[.bool false,.bool true,.sl [[.int .u32 500]],.bool false,.sl [[.int .u32 1]],.bool false,.sl [[.int .u32 10000]],.bool false,.sl [[.int .u32 1]],.bool false,.sl [],.bool false,.sl [[.int .u32 1]],.bool false,.sl [],.bool false,.sl [[.int .u32 1]],.bool false,.sl [],.bool false,.sl [[.int .u32 1]],.bool false,.sl [],.bool false,.sl [[.int .u32 1]],.bool false,.bool false,.sl [],.bool false,.sl [[.int .u32 1]],.bool false,.sl [],.bool false,.sl [[.int .u32 1]],.bool false,.sl [],.bool false,.sl [[.int .u32 1]],.bool false,.sl [],.bool false,.sl [[.int .u32 1]],.bool false,.sl [],.bool false,.sl [[.int .u32 1]],.bool false,.sl [[.int .u32 10000]],.bool false,.sl [[.int .u32 1]],.bool false,.sl [],.bool false,.sl [[.int .u32 1]],.bool false,.sl [[.int .u32 500]],.bool false,.sl [[.int .u32 1]],.bool false,.sl [],.bool false,.sl [[.int .u32 1]],.bool false,.sl [],.bool false,.sl [[.int .u32 1]]]
def z4:List D:=[.bool false,.sl [],.bool false,.sl [[.int .u32 1]]]
def rtN (n:Int):List D:=[.bool false,.sl [[.int .u32 n]],.bool false,.sl [[.int .u32 1]]]++(z4++z4)
def rtZ:List D:=z4++(z4++z4)
def xs0:List (List D):=[]
def xs1:List (List D):=[rtZ]
def xs2:List (List D):=[rtZ,rtN 10000]
def xs3:List (List D):=[rtZ,rtN 10000,rtN 4000]
def xs4:List (List D):=[rtZ,rtN 10000,rtN 4000,rtN 6000]
def xs5:List (List D):=[rtZ,rtN 10000,rtN 4000,rtN 6000,rtN 5000]
def xs6:List (List D):=[rtZ,rtN 10000,rtN 4000,rtN 6000,rtN 5000,rtN 4000]
def xs7:List (List D):=[rtZ,rtN 10000,rtN 4000,rtN 6000,rtN 5000,rtN 4000,rtN 6000]
def xs8:List (List D):=[rtZ,rtN 10000,rtN 4000,rtN 6000,rtN 5000,rtN 4000,rtN 6000,rtN 5000]
def ys0:List (List D):=[]
def ys1:List (List D):=[rtZ]
def ys2:List (List D):=[rtZ,rtN 500]
def ys3:List (List D):=[rtZ,rtN 500,rtN 5000]
def ys4:List (List D):=[rtZ,rtN 500,rtN 5000,rtN 5000]
def ys5:List (List D):=[rtZ,rtN 500,rtN 5000,rtN 5000,rtN 4000]
def ys6:List (List D):=[rtZ,rtN 500,rtN 5000,rtN 5000,rtN 4000,rtN 5000]
def ys7:List (List D):=[rtZ,rtN 500,rtN 5000,rtN 5000,rtN 4000,rtN 5000,rtN 5000]
def ys8:List (List D):=[rtZ,rtN 500,rtN 5000,rtN 5000,rtN 4000,rtN 5000,rtN 5000,rtN 6000]
theorem add0 (g:Nat):Xe WO CB 1000 40 64 12 xs0 ys0 [.ag (rtZ),.ag (rtZ)] g=some (xs1,ys1,12,12,g):=by kernel_rfl
theorem add1 (g:Nat):Xe WO CB 1000 40 64 12 xs1 ys1 [.ag (rtN 10000),.ag (rtN 500)] g=some (xs2,ys2,12,12,g):=by kernel_rfl
theorem add2 (g:Nat):Xe WO CB 1000 40 64 12 xs2 ys2 [.ag (rtN 4000),.ag (rtN 5000)] g=some (xs3,ys3,12,12,g):=by kernel_rfl
theorem add3 (g:Nat):Xe WO CB 1000 40 64 12 xs3 ys3 [.ag (rtN 6000),.ag (rtN 5000)] g=some (xs4,ys4,12,12,g):=by kernel_rfl
theorem add4 (g:Nat):Xe WO CB 1000 40 64 12 xs4 ys4 [.ag (rtN 5000),.ag (rtN 4000)] g=some (xs5,ys5,12,12,g):=by kernel_rfl
theorem add5 (g:Nat):Xe WO CB 1000 40 64 12 xs5 ys5 [.ag (rtN 4000),.ag (rtN 5000)] g=some (xs6,ys6,12,12,g):=by kernel_rfl
theorem add6 (g:Nat):Xe WO CB 1000 40 64 12 xs6 ys6 [.ag (rtN 6000),.ag (rtN 5000)] g=some (xs7,ys7,12,12,g):=by kernel_rfl
theorem add7 (g:Nat):Xe WO CB 1000 40 64 12 xs7 ys7 [.ag (rtN 5000),.ag (rtN 6000)] g=some (xs8,ys8,12,12,g):=by kernel_rfl
def TA:List Eg:=[(xs0,ys0,[.ag (rtZ),.ag (rtZ)],xs1,ys1),(xs1,ys1,[.ag (rtN 10000),.ag (rtN 500)],xs2,ys2),(xs2,ys2,[.ag (rtN 4000),.ag (rtN 5000)],xs3,ys3),(xs3,ys3,[.ag (rtN 6000),.ag (rtN 5000)],xs4,ys4),(xs4,ys4,[.ag (rtN 5000),.ag (rtN 4000)],xs5,ys5),(xs5,ys5,[.ag (rtN 4000),.ag (rtN 5000)],xs6,ys6),(xs6,ys6,[.ag (rtN 6000),.ag (rtN 5000)],xs7,ys7),(xs7,ys7,[.ag (rtN 5000),.ag (rtN 6000)],xs8,ys8)]
theorem IO:Ao CB 64 12 TA:=⟨zI (C:=CB) mixedT xP add0,zI (C:=CB) mixedT xP add1,zI (C:=CB) mixedT xP add2,zI (C:=CB) mixedT xP add3,zI (C:=CB) mixedT xP add4,zI (C:=CB) mixedT xP add5,zI (C:=CB) mixedT xP add6,zI (C:=CB) mixedT xP add7,trivial⟩
noncomputable def K2L:List (Nat×Vq):=[(209,Ee 20 TD),(212,Ef TT),(64,Eh 12 TA)]
noncomputable def K2:Cx:=CX K2L
instance:EffOk K2:=jL (JE ⟨UH (C':=CX K2L) rfl rfl Tryz.func209 (by simp[Tryz.f209]) (by decide) Ap,UJ (C':=CX K2L) rfl rfl Tryz.func212 (by simp[Tryz.f212]) (by decide) Aq,UK (C':=CX K2L) rfl rfl Tryz.func64 (by simp[Tryz.f64]) (by decide) rfl IO,trivial⟩)
end Eng
end

section
namespace Eng
open Go Go.Proofs
set_option maxRecDepth 1000000
theorem crv0 (g:Nat):Xe WO K2 1000 40 63 12 xs0 ys0 [.ag exL] g=some (xs2,ys2,12,12,g):=by kernel_rfl
theorem crv1 (g:Nat):Xe WO K2 1000 40 63 12 xs2 ys2 [.ag exH] g=some (xs5,ys5,12,12,g):=by kernel_rfl
theorem crv2 (g:Nat):Xe WO K2 1000 40 63 12 xs5 ys5 [.ag exK] g=some (xs8,ys8,12,12,g):=by kernel_rfl
def TC:List Eg:=[(xs0,ys0,[.ag exL],xs2,ys2),(xs2,ys2,[.ag exH],xs5,ys5),(xs5,ys5,[.ag exK],xs8,ys8)]
theorem IP:Ao K2 63 12 TC:=⟨zI (C:=K2) mixedT xP crv0,zI (C:=K2) mixedT xP crv1,zI (C:=K2) mixedT xP crv2,trivial⟩
noncomputable def K3L:List (Nat×Vq):=[(63,Eh 12 TC)]
noncomputable def K3:Cx:=CX K3L
instance:EffOk K3:=jL (JE ⟨UK (C:=K2) (C':=CX K3L) rfl rfl Tryz.func63 (by simp[Tryz.f63]) (by decide) rfl IP,trivial⟩)
end Eng
end
