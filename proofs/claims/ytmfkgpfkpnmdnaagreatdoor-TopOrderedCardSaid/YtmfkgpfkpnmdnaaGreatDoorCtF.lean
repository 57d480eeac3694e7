import Derived.Test.YtmfkgpfkpnmdnaaGreatDoorTkTab
set_option maxRecDepth 1000000
section
namespace Eng
open Go Go.Proofs
def R8 (p q:Pol):Option (Pol×Pol):=match sg0 (kA q (Qf p))with
 |some (.ofNat _)=>some (p,q)
 |some (.negSucc _)=>some (q,p)
 |none=>none
def ET (lx hx ly hy:Pol):List D:=[.tok lx 4,.tok hx 4,.tok ly 4,.tok hy 4,.bool true]
def z3C:List D:=[.bool false,.sl [],.bool false,.sl [],.bool false,.sl [],.bool false,.sl [],.bool false,.sl [],.bool false,.sl []]
def ptsT (fx fy tx ty:Pol):List D:=tkR [fx,[],fy,[],[],tx,[],ty,[],[]]
def cvS (a b c fx fy tx ty:Pol):List D:= .bool false::(tkR [a,b,c]++(z3C++ .bool false::ptsT fx fy tx ty))
def zLn:Bool->List D
 |true=>tkR [[],[],[]]
 |false=>z3C
def cvA (z:Bool) (x y q:Pol) (cw:Bool) (fx fy tx ty:Pol):List D:= .bool true::(zLn z++(tkR [x,y,q]++ .bool cw::ptsT fx fy tx ty))
def az (l:List D):Option (Pol×Pol×Pol×Pol):=match M8 10 l with
 |some [fx,[],fy,[],[],tx,[],ty,[],[]]=>match jo fx&&(jo fy&&(jo tx&&jo ty))with
  |true=>some (fx,fy,tx,ty)
  |false=>none
 |_=>none
def c8 (x:List D):Option (List D):=
 match M8 3 ((x.drop 1).take 12),az (x.drop 26)with
 |some [a,b,c],some (fx,fy,tx,ty)=>match eqL (eqD 20) x (cvS a b c fx fy tx ty),R8 fx tx,R8 fy ty with
  |true,some (lx,hx),some (ly,hy)=>some (ET lx hx ly hy)
  |_,_,_=>none
 |_,_=>none
def a8 (z:Bool) (x:List D):Option (List D):=
 match M8 3 ((x.drop 13).take 12),az (x.drop 26)with
 |some [cx,cy,q],some (fx,fy,tx,ty)=>match PC sg0 q,R8 fx tx,R8 fy ty with
  |some r,some (lx,hx),some (ly,hy)=>match PB r (lt 6)&&(jo cy&&(jo (kA cy r)&&jo (kA cy (Qf r))))with
   |true=>match eqL (eqD 20) x (cvA z cx cy q true fx fy tx ty),R8 hy (kA cy r)with
    |true,some (_,h)=>some (ET lx hx ly h)
    |_,_=>match eqL (eqD 20) x (cvA z cx cy q false fx fy tx ty),R8 ly (kA cy (Qf r))with
     |true,some (l,_)=>some (ET lx hx l hy)
     |_,_=>none
   |false=>none
  |_,_,_=>none
 |_,_=>none
def a9:List D->Option (Pol×Pol×Pol×Pol)
 |[.tok a 4,.tok b 4,.tok c 4,.tok d 4,.bool true]=>match jo a&&(jo b&&(jo c&&jo d))with
  |true=>some (a,b,c,d)
  |false=>none
 |_=>none
def ltT (p q:Pol):Option Bool:=match sg0 (kA q (Qf p))with
 |some (.ofNat (_+1))=>some true
 |some _=>some false
 |none=>none
def orT:List (Option Bool)->Option Bool
 |[]=>some false
 |some true::_=>some true
 |some false::r=>orT r
 |none::r=>match orT r with
  |some true=>some true
  |_=>none
def apT (x y:List D):Option Bool:=
 match a9 x,a9 y with
 |some (a0,a1,a2,a3),some (b0,b1,b2,b3)=>orT [ltT a1 b0,ltT b1 a0,ltT a3 b2,ltT b3 a2]
 |_,_=>none
def c9 (f:Nat) (al:List A):Option (List A):=
 match al with
 |[.ag x]=>match Nat.beq f 326 with
  |true=>match c8 x with
   |some r=>some [.ag r]
   |none=>match a8 false x with
    |some r=>some [.ag r]
    |none=>match a8 true x with
     |some r=>some [.ag r]
     |none=>none
  |false=>none
 |[.ag x,.ag y]=>match Nat.beq f 327 with
  |true=>match apT x y with
   |some r=>some [.c (.bool r)]
   |none=>none
  |false=>none
 |_=>none
def zt (f:Nat) (al:List A):Option (List A):=
 match c9 f al with
 |some r=>some r
 |none=>Sk Tk.tabL jO f al
class BdOk [Env]:Prop where
 ok:∀f al rs,zt f al=some rs->Gives CC f al rs
theorem qo [Env] [BdOk] {ex:List (Nat×wq)} (f:Nat) (al rs:List A) (h:zt f al=some rs):Gives (CX ex) f al rs:=upX (BdOk.ok f al rs h)
end Eng
end
section
namespace Eng
open Go Go.Proofs
variable [Env] [xr]
noncomputable def F1L:List (Nat×wq):=[(392,xC zt CB 392 22),
 (398,xC zt CB 398 66),
 (444,xC zt CB 444 20)]
noncomputable def F1:Cx:=CX (F1L)
instance [BdOk]:EffOk F1:=xd (zK ⟨qy (C:=CB) (C':=CX (F1L)) mixedT qo rfl rfl Tryz.func392 (by simp[Tryz.f392]) (by decide),
 qy (C:=CB) (C':=CX (F1L)) mixedT qo rfl rfl Tryz.func398 (by simp[Tryz.f398]) (by decide),
 qy (C:=CB) (C':=CX (F1L)) mixedT qo rfl rfl Tryz.func444 (by simp[Tryz.f444]) (by decide),trivial⟩)
noncomputable def F2L:List (Nat×wq):=[(365,xC zt F1 365 22),
 (370,xC zt F1 370 66),
 (420,xC zt F1 420 20),
 (372,xC zt F1 372 66)]
noncomputable def F2:Cx:=CX (F2L)
instance [BdOk]:EffOk F2:=xd (zK ⟨qy (C:=F1) (C':=CX (F2L)) mixedT qo rfl rfl Tryz.func365 (by simp[Tryz.f365]) (by decide),
 qy (C:=F1) (C':=CX (F2L)) mixedT qo rfl rfl Tryz.func370 (by simp[Tryz.f370]) (by decide),
 qy (C:=F1) (C':=CX (F2L)) mixedT qo rfl rfl Tryz.func420 (by simp[Tryz.f420]) (by decide),
 qy (C:=F1) (C':=CX (F2L)) mixedT qo rfl rfl Tryz.func372 (by simp[Tryz.f372]) (by decide),trivial⟩)
noncomputable def F3L:List (Nat×wq):=[(316,xC zt F2 316 22),
 (322,xC zt F2 322 66),
 (394,zm (zC zt CB CB 394) (xC zt F2 394 20)),
 (325,xC zt F2 325 66),
 (377,zm (zC zt CB CB 377) (vK zt F2 377 20)),
 (397,zm (zC zt CB CB 397) (wQ zt F2 397 20)),
 (318,zm (zC zt CB CB 318) (WI zt F2 318 20))]
noncomputable def F3:Cx:=CX (F3L)
instance [BdOk]:EffOk F3:=xd (zK ⟨qy (C:=F2) (C':=CX (F3L)) mixedT qo rfl rfl Tryz.func316 (by simp[Tryz.f316]) (by decide),
 qy (C:=F2) (C':=CX (F3L)) mixedT qo rfl rfl Tryz.func322 (by simp[Tryz.f322]) (by decide),
 qN (qO (C:=CB) (C':=CX (F3L)) mixedT qo rfl rfl) (qy (C:=F2) (C':=CX (F3L)) mixedT qo rfl rfl Tryz.func394 (by simp[Tryz.f394]) (by decide)),
 qy (C:=F2) (C':=CX (F3L)) mixedT qo rfl rfl Tryz.func325 (by simp[Tryz.f325]) (by decide),
 qN (qO (C:=CB) (C':=CX (F3L)) mixedT qo rfl rfl) (zD (C:=F2) (C':=CX (F3L)) mixedT qo rfl rfl Tryz.func377 (by simp[Tryz.f377]) (by decide)),
 qN (qO (C:=CB) (C':=CX (F3L)) mixedT qo rfl rfl) (zn (C:=F2) (C':=CX (F3L)) mixedT qo rfl rfl Tryz.func397 (by simp[Tryz.f397]) (by decide)),
 qN (qO (C:=CB) (C':=CX (F3L)) mixedT qo rfl rfl) (kS (C:=F2) (C':=CX (F3L)) mixedT qo rfl rfl Tryz.func318 (by simp[Tryz.f318]) (by decide)),trivial⟩)
noncomputable def F4L:List (Nat×wq):=[(316,xC zt F2 316 22),
 (322,xC zt F2 322 66),
 (394,zm (zC zt CB CB 394) (xC zt F2 394 20)),
 (325,xC zt F2 325 66),
 (377,zm (zC zt CB CB 377) (vK zt F2 377 20)),
 (397,zm (zC zt CB CB 397) (wQ zt F2 397 20)),
 (318,zm (zC zt CB CB 318) (WI zt F2 318 20)),
 (320,HD zt F3 320)]
noncomputable def F4:Cx:=CX (F4L)
instance [BdOk]:EffOk F4:=xd (zK ⟨qy (C:=F2) (C':=CX (F4L)) mixedT qo rfl rfl Tryz.func316 (by simp[Tryz.f316]) (by decide),
 qy (C:=F2) (C':=CX (F4L)) mixedT qo rfl rfl Tryz.func322 (by simp[Tryz.f322]) (by decide),
 qN (qO (C:=CB) (C':=CX (F4L)) mixedT qo rfl rfl) (qy (C:=F2) (C':=CX (F4L)) mixedT qo rfl rfl Tryz.func394 (by simp[Tryz.f394]) (by decide)),
 qy (C:=F2) (C':=CX (F4L)) mixedT qo rfl rfl Tryz.func325 (by simp[Tryz.f325]) (by decide),
 qN (qO (C:=CB) (C':=CX (F4L)) mixedT qo rfl rfl) (zD (C:=F2) (C':=CX (F4L)) mixedT qo rfl rfl Tryz.func377 (by simp[Tryz.f377]) (by decide)),
 qN (qO (C:=CB) (C':=CX (F4L)) mixedT qo rfl rfl) (zn (C:=F2) (C':=CX (F4L)) mixedT qo rfl rfl Tryz.func397 (by simp[Tryz.f397]) (by decide)),
 qN (qO (C:=CB) (C':=CX (F4L)) mixedT qo rfl rfl) (kS (C:=F2) (C':=CX (F4L)) mixedT qo rfl rfl Tryz.func318 (by simp[Tryz.f318]) (by decide)),
 yH (C:=F3) (C':=CX (F4L)) mixedT qo rfl rfl Tryz.func320 (by simp[Tryz.f320]) (by decide),trivial⟩)
noncomputable def KFL:List (Nat×wq):=[(316,xC zt F2 316 22),
 (322,xC zt F2 322 66),
 (394,zm (zC zt CB CB 394) (xC zt F2 394 20)),
 (325,xC zt F2 325 66),
 (377,zm (zC zt CB CB 377) (vK zt F2 377 20)),
 (397,zm (zC zt CB CB 397) (wQ zt F2 397 20)),
 (318,zm (zC zt CB CB 318) (WI zt F2 318 20)),
 (320,HD zt F3 320),
 (256,vK zt F4 256 66),
 (255,wQ zt F4 255 66)]
noncomputable def KF:Cx:=CX (KFL)
instance [BdOk]:EffOk (KF):=xd (zK ⟨qy (C:=F2) (C':=CX (KFL)) mixedT qo rfl rfl Tryz.func316 (by simp[Tryz.f316]) (by decide),
 qy (C:=F2) (C':=CX (KFL)) mixedT qo rfl rfl Tryz.func322 (by simp[Tryz.f322]) (by decide),
 qN (qO (C:=CB) (C':=CX (KFL)) mixedT qo rfl rfl) (qy (C:=F2) (C':=CX (KFL)) mixedT qo rfl rfl Tryz.func394 (by simp[Tryz.f394]) (by decide)),
 qy (C:=F2) (C':=CX (KFL)) mixedT qo rfl rfl Tryz.func325 (by simp[Tryz.f325]) (by decide),
 qN (qO (C:=CB) (C':=CX (KFL)) mixedT qo rfl rfl) (zD (C:=F2) (C':=CX (KFL)) mixedT qo rfl rfl Tryz.func377 (by simp[Tryz.f377]) (by decide)),
 qN (qO (C:=CB) (C':=CX (KFL)) mixedT qo rfl rfl) (zn (C:=F2) (C':=CX (KFL)) mixedT qo rfl rfl Tryz.func397 (by simp[Tryz.f397]) (by decide)),
 qN (qO (C:=CB) (C':=CX (KFL)) mixedT qo rfl rfl) (kS (C:=F2) (C':=CX (KFL)) mixedT qo rfl rfl Tryz.func318 (by simp[Tryz.f318]) (by decide)),
 yH (C:=F3) (C':=CX (KFL)) mixedT qo rfl rfl Tryz.func320 (by simp[Tryz.f320]) (by decide),
 zD (C:=F4) (C':=CX (KFL)) mixedT qo rfl rfl Tryz.func256 (by simp[Tryz.f256]) (by decide),
 zn (C:=F4) (C':=CX (KFL)) mixedT qo rfl rfl Tryz.func255 (by simp[Tryz.f255]) (by decide),trivial⟩)
end Eng
end
section
namespace Eng
open Go Go.Proofs
section
variable [Env]
theorem Vz {C C':Cx} (hP:C'.P=C.P) (hG:C'.G=C.G):∀{es:List qg},KP C es->KP C' es
 |[],_=>trivial
 |_::_,h=>⟨xP hP hG h.1,Vz hP hG h.2⟩
end
theorem cxP {ex ex':List (Nat×wq)}:(CX ex).P=(CX ex').P:=rfl
theorem cxG {ex ex':List (Nat×wq)}:(CX ex).G=(CX ex').G:=rfl
section
variable [Env] [xr] [BdOk]
omit [xr] in
theorem run2 {ex ex':List (Nat×wq)} [EffOk (CX ex')] {es:List qg} {e:qg} (h:KP (CX ex) es) (hr:wv (Sk es zt) (CX ex') 1000 40 e.1 e.2.2.1=some e.2.2.2):Gives (CX ex) e.1 e.2.2.1 e.2.2.2:=
 xP (C:=CX ex') (C':=CX ex) cxP cxG (z9 (C:=CX ex') mixedT (K8 (C:=CX ex') (ents:=es) (Vz (C:=CX ex) (C':=CX ex') cxP cxG h) qo) 40 _ _ _ hr)
omit [Env] [xr] [BdOk] in
theorem eKT:KT=CX KTL:=rfl
omit [Env] [xr] [BdOk] in
theorem eKF:KF=CX KFL:=rfl
instance:EffOk (CX KFL):=inferInstanceAs (EffOk KF)
end
theorem Tk.r2 [Env] [xr] [BdOk] {es:List qg} {e:qg} (h:KP KT es) (hr:wv (Sk es zt) KF 1000 40 e.1 e.2.2.1=some e.2.2.2:=by kernel_rfl):Tk.G e:=by
 unfold Tk.G;rw[eKT]at h ⊢;rw[eKF]at hr;exact run2 h hr
end Eng
end
