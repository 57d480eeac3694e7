import Derived.Test.YthpplhmhgcenkaaGreatDoorTkTab
set_option maxRecDepth 1000000
section
namespace Eng
open Go Go.Proofs
def SQ (p q:Pol):Option (Pol×Pol):=match sg0 (jD q (vZ p))with
 |some (.ofNat _)=>some (p,q)
 |some (.negSucc _)=>some (q,p)
 |none=>none
def AT (lx hx ly hy:Pol):List D:=[.tok lx 4,.tok hx 4,.tok ly 4,.tok hy 4,.bool true]
def z3C:List D:=[.bool false,.sl [],.bool false,.sl [],.bool false,.sl [],.bool false,.sl [],.bool false,.sl [],.bool false,.sl []]
def ptsT (fx fy tx ty:Pol):List D:=tkR [fx,[],fy,[],[],tx,[],ty,[],[]]
def cvS (a b c fx fy tx ty:Pol):List D:= .bool false::(tkR [a,b,c]++(z3C++ .bool false::ptsT fx fy tx ty))
def zLn:Bool->List D
 |true=>tkR [[],[],[]]
 |false=>z3C
def cvA (z:Bool) (x y q:Pol) (cw:Bool) (fx fy tx ty:Pol):List D:= .bool true::(zLn z++(tkR [x,y,q]++ .bool cw::ptsT fx fy tx ty))
def dV (l:List D):Option (Pol×Pol×Pol×Pol):=match LZ 10 l with
 |some [fx,[],fy,[],[],tx,[],ty,[],[]]=>match jh fx&&(jh fy&&(jh tx&&jh ty))with
  |true=>some (fx,fy,tx,ty)
  |false=>none
 |_=>none
def gj (x:List D):Option (List D):=
 match LZ 3 ((x.drop 1).take 12),dV (x.drop 26)with
 |some [a,b,c],some (fx,fy,tx,ty)=>match eqL (eqD 20) x (cvS a b c fx fy tx ty),SQ fx tx,SQ fy ty with
  |true,some (lx,hx),some (ly,hy)=>some (AT lx hx ly hy)
  |_,_,_=>none
 |_,_=>none
def dW (z:Bool) (x:List D):Option (List D):=
 match LZ 3 ((x.drop 13).take 12),dV (x.drop 26)with
 |some [cx,cy,q],some (fx,fy,tx,ty)=>match PX sg0 q,SQ fx tx,SQ fy ty with
  |some r,some (lx,hx),some (ly,hy)=>match PV r (lt 6)&&(jh cy&&(jh (jD cy r)&&jh (jD cy (vZ r))))with
   |true=>match eqL (eqD 20) x (cvA z cx cy q true fx fy tx ty),SQ hy (jD cy r)with
    |true,some (_,h)=>some (AT lx hx ly h)
    |_,_=>match eqL (eqD 20) x (cvA z cx cy q false fx fy tx ty),SQ ly (jD cy (vZ r))with
     |true,some (l,_)=>some (AT lx hx l hy)
     |_,_=>none
   |false=>none
  |_,_,_=>none
 |_,_=>none
def dX:List D->Option (Pol×Pol×Pol×Pol)
 |[.tok a 4,.tok b 4,.tok c 4,.tok d 4,.bool true]=>match jh a&&(jh b&&(jh c&&jh d))with
  |true=>some (a,b,c,d)
  |false=>none
 |_=>none
def ltT (p q:Pol):Option Bool:=match sg0 (jD q (vZ p))with
 |some (.ofNat (_+1))=>some true
 |some _=>some false
 |none=>none
def orT:List (Option Bool)->Option Bool
 |[]=>some false
 |some true::_=>some true
 |some false::r=>orT r
 |none::r=>match orT r with
  |some true=>some true
  |_=>none
def apT (x y:List D):Option Bool:=
 match dX x,dX y with
 |some (a0,a1,a2,a3),some (b0,b1,b2,b3)=>orT [ltT a1 b0,ltT b1 a0,ltT a3 b2,ltT b3 a2]
 |_,_=>none
def gt (f:Nat) (al:List A):Option (List A):=
 match al with
 |[.ag x]=>match Nat.beq f 378 with
  |true=>match gj x with
   |some r=>some [.ag r]
   |none=>match dW false x with
    |some r=>some [.ag r]
    |none=>match dW true x with
     |some r=>some [.ag r]
     |none=>none
  |false=>none
 |[.ag x,.ag y]=>match Nat.beq f 379 with
  |true=>match apT x y with
   |some r=>some [.c (.bool r)]
   |none=>none
  |false=>none
 |_=>none
def zx (f:Nat) (al:List A):Option (List A):=
 match gt f al with
 |some r=>some r
 |none=>Bt Tk.tabL jS f al
class BdOk [Env]:Prop where
 ok:∀f al rs,zx f al=some rs->Gives CC f al rs
theorem qo [Env] [BdOk] {ex:List (Nat×k9)} (f:Nat) (al rs:List A) (h:zx f al=some rs):Gives (CX ex) f al rs:=upX (BdOk.ok f al rs h)
end Eng
end
section
namespace Eng
open Go Go.Proofs
variable [Env] [xx]
noncomputable def F1L:List (Nat×k9):=[(436,xG zx CB 436 22),
 (442,xG zx CB 442 66),
 (488,xG zx CB 488 20)]
noncomputable def F1:Cx:=CX (F1L)
instance [BdOk]:EffOk F1:=qV (zh ⟨qx (C:=CB) (C':=CX (F1L)) mixedT qo rfl rfl Tryz.func436 (by simp[Tryz.f436]) (by decide),
 qx (C:=CB) (C':=CX (F1L)) mixedT qo rfl rfl Tryz.func442 (by simp[Tryz.f442]) (by decide),
 qx (C:=CB) (C':=CX (F1L)) mixedT qo rfl rfl Tryz.func488 (by simp[Tryz.f488]) (by decide),trivial⟩)
noncomputable def F2L:List (Nat×k9):=[(410,xG zx F1 410 22),
 (415,xG zx F1 415 66),
 (464,xG zx F1 464 20),
 (417,xG zx F1 417 66)]
noncomputable def F2:Cx:=CX (F2L)
instance [BdOk]:EffOk F2:=qV (zh ⟨qx (C:=F1) (C':=CX (F2L)) mixedT qo rfl rfl Tryz.func410 (by simp[Tryz.f410]) (by decide),
 qx (C:=F1) (C':=CX (F2L)) mixedT qo rfl rfl Tryz.func415 (by simp[Tryz.f415]) (by decide),
 qx (C:=F1) (C':=CX (F2L)) mixedT qo rfl rfl Tryz.func464 (by simp[Tryz.f464]) (by decide),
 qx (C:=F1) (C':=CX (F2L)) mixedT qo rfl rfl Tryz.func417 (by simp[Tryz.f417]) (by decide),trivial⟩)
noncomputable def F3L:List (Nat×k9):=[(368,xG zx F2 368 22),
 (374,xG zx F2 374 66),
 (438,zp (zH zx CB CB 438) (xG zx F2 438 20)),
 (377,xG zx F2 377 66),
 (422,zp (zH zx CB CB 422) (vX zx F2 422 20)),
 (441,zp (zH zx CB CB 441) (wV zx F2 441 20)),
 (370,zp (zH zx CB CB 370) (WZ zx F2 370 20))]
noncomputable def F3:Cx:=CX (F3L)
instance [BdOk]:EffOk F3:=qV (zh ⟨qx (C:=F2) (C':=CX (F3L)) mixedT qo rfl rfl Tryz.func368 (by simp[Tryz.f368]) (by decide),
 qx (C:=F2) (C':=CX (F3L)) mixedT qo rfl rfl Tryz.func374 (by simp[Tryz.f374]) (by decide),
 qP (qQ (C:=CB) (C':=CX (F3L)) mixedT qo rfl rfl) (qx (C:=F2) (C':=CX (F3L)) mixedT qo rfl rfl Tryz.func438 (by simp[Tryz.f438]) (by decide)),
 qx (C:=F2) (C':=CX (F3L)) mixedT qo rfl rfl Tryz.func377 (by simp[Tryz.f377]) (by decide),
 qP (qQ (C:=CB) (C':=CX (F3L)) mixedT qo rfl rfl) (zI (C:=F2) (C':=CX (F3L)) mixedT qo rfl rfl Tryz.func422 (by simp[Tryz.f422]) (by decide)),
 qP (qQ (C:=CB) (C':=CX (F3L)) mixedT qo rfl rfl) (zq (C:=F2) (C':=CX (F3L)) mixedT qo rfl rfl Tryz.func441 (by simp[Tryz.f441]) (by decide)),
 qP (qQ (C:=CB) (C':=CX (F3L)) mixedT qo rfl rfl) (kW (C:=F2) (C':=CX (F3L)) mixedT qo rfl rfl Tryz.func370 (by simp[Tryz.f370]) (by decide)),trivial⟩)
noncomputable def F4L:List (Nat×k9):=[(368,xG zx F2 368 22),
 (374,xG zx F2 374 66),
 (438,zp (zH zx CB CB 438) (xG zx F2 438 20)),
 (377,xG zx F2 377 66),
 (422,zp (zH zx CB CB 422) (vX zx F2 422 20)),
 (441,zp (zH zx CB CB 441) (wV zx F2 441 20)),
 (370,zp (zH zx CB CB 370) (WZ zx F2 370 20)),
 (372,Up zx F3 372)]
noncomputable def F4:Cx:=CX (F4L)
instance [BdOk]:EffOk F4:=qV (zh ⟨qx (C:=F2) (C':=CX (F4L)) mixedT qo rfl rfl Tryz.func368 (by simp[Tryz.f368]) (by decide),
 qx (C:=F2) (C':=CX (F4L)) mixedT qo rfl rfl Tryz.func374 (by simp[Tryz.f374]) (by decide),
 qP (qQ (C:=CB) (C':=CX (F4L)) mixedT qo rfl rfl) (qx (C:=F2) (C':=CX (F4L)) mixedT qo rfl rfl Tryz.func438 (by simp[Tryz.f438]) (by decide)),
 qx (C:=F2) (C':=CX (F4L)) mixedT qo rfl rfl Tryz.func377 (by simp[Tryz.f377]) (by decide),
 qP (qQ (C:=CB) (C':=CX (F4L)) mixedT qo rfl rfl) (zI (C:=F2) (C':=CX (F4L)) mixedT qo rfl rfl Tryz.func422 (by simp[Tryz.f422]) (by decide)),
 qP (qQ (C:=CB) (C':=CX (F4L)) mixedT qo rfl rfl) (zq (C:=F2) (C':=CX (F4L)) mixedT qo rfl rfl Tryz.func441 (by simp[Tryz.f441]) (by decide)),
 qP (qQ (C:=CB) (C':=CX (F4L)) mixedT qo rfl rfl) (kW (C:=F2) (C':=CX (F4L)) mixedT qo rfl rfl Tryz.func370 (by simp[Tryz.f370]) (by decide)),
 yX (C:=F3) (C':=CX (F4L)) mixedT qo rfl rfl Tryz.func372 (by simp[Tryz.f372]) (by decide),trivial⟩)
noncomputable def KFL:List (Nat×k9):=[(368,xG zx F2 368 22),
 (374,xG zx F2 374 66),
 (438,zp (zH zx CB CB 438) (xG zx F2 438 20)),
 (377,xG zx F2 377 66),
 (422,zp (zH zx CB CB 422) (vX zx F2 422 20)),
 (441,zp (zH zx CB CB 441) (wV zx F2 441 20)),
 (370,zp (zH zx CB CB 370) (WZ zx F2 370 20)),
 (372,Up zx F3 372),
 (318,vX zx F4 318 66),
 (317,wV zx F4 317 66)]
noncomputable def KF:Cx:=CX (KFL)
instance [BdOk]:EffOk (KF):=qV (zh ⟨qx (C:=F2) (C':=CX (KFL)) mixedT qo rfl rfl Tryz.func368 (by simp[Tryz.f368]) (by decide),
 qx (C:=F2) (C':=CX (KFL)) mixedT qo rfl rfl Tryz.func374 (by simp[Tryz.f374]) (by decide),
 qP (qQ (C:=CB) (C':=CX (KFL)) mixedT qo rfl rfl) (qx (C:=F2) (C':=CX (KFL)) mixedT qo rfl rfl Tryz.func438 (by simp[Tryz.f438]) (by decide)),
 qx (C:=F2) (C':=CX (KFL)) mixedT qo rfl rfl Tryz.func377 (by simp[Tryz.f377]) (by decide),
 qP (qQ (C:=CB) (C':=CX (KFL)) mixedT qo rfl rfl) (zI (C:=F2) (C':=CX (KFL)) mixedT qo rfl rfl Tryz.func422 (by simp[Tryz.f422]) (by decide)),
 qP (qQ (C:=CB) (C':=CX (KFL)) mixedT qo rfl rfl) (zq (C:=F2) (C':=CX (KFL)) mixedT qo rfl rfl Tryz.func441 (by simp[Tryz.f441]) (by decide)),
 qP (qQ (C:=CB) (C':=CX (KFL)) mixedT qo rfl rfl) (kW (C:=F2) (C':=CX (KFL)) mixedT qo rfl rfl Tryz.func370 (by simp[Tryz.f370]) (by decide)),
 yX (C:=F3) (C':=CX (KFL)) mixedT qo rfl rfl Tryz.func372 (by simp[Tryz.f372]) (by decide),
 zI (C:=F4) (C':=CX (KFL)) mixedT qo rfl rfl Tryz.func318 (by simp[Tryz.f318]) (by decide),
 zq (C:=F4) (C':=CX (KFL)) mixedT qo rfl rfl Tryz.func317 (by simp[Tryz.f317]) (by decide),trivial⟩)
end Eng
end
section
namespace Eng
open Go Go.Proofs
section
variable [Env]
theorem VH {C C':Cx} (hP:C'.P=C.P) (hG:C'.G=C.G):∀{es:List qe},Wj C es->Wj C' es
 |[],_=>trivial
 |_::_,h=>⟨qL hP hG h.1,VH hP hG h.2⟩
end
theorem cxP {ex ex':List (Nat×k9)}:(CX ex).P=(CX ex').P:=rfl
theorem cxG {ex ex':List (Nat×k9)}:(CX ex).G=(CX ex').G:=rfl
section
variable [Env] [xx] [BdOk]
omit [xx] in
theorem run2 {ex ex':List (Nat×k9)} [EffOk (CX ex')] {es:List qe} {e:qe} (h:Wj (CX ex) es) (hr:y5 (Bt es zx) (CX ex') 1000 40 e.1 e.2.2.1=some e.2.2.2):Gives (CX ex) e.1 e.2.2.1 e.2.2.2:=
 qL (C:=CX ex') (C':=CX ex) cxP cxG (z2 (C:=CX ex') mixedT (KL (C:=CX ex') (ents:=es) (VH (C:=CX ex) (C':=CX ex') cxP cxG h) qo) 40 _ _ _ hr)
omit [Env] [xx] [BdOk] in
theorem eKT:KT=CX KTL:=rfl
omit [Env] [xx] [BdOk] in
theorem eKF:KF=CX KFL:=rfl
instance:EffOk (CX KFL):=inferInstanceAs (EffOk KF)
end
theorem Tk.r2 [Env] [xx] [BdOk] {es:List qe} {e:qe} (h:Wj KT es) (hr:y5 (Bt es zx) KF 1000 40 e.1 e.2.2.1=some e.2.2.2:=by kernel_rfl):Tk.G e:=by
 unfold Tk.G;rw[eKT]at h ⊢;rw[eKF]at hr;exact run2 h hr
end Eng
end
