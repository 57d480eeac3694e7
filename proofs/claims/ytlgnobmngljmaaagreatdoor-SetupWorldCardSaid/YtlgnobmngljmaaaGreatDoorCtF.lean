/- The table of the second stage: bounds at tokens, the first stage's calls. -/
import Derived.Test.YtlgnobmngljmaaaGreatDoorTkTab
section
namespace Eng
open Go Go.Proofs
set_option maxRecDepth 100000
def bdN (x:List D):List (List D)→Nat→Option Nat
 |[],_=>none
 |c::r,k=>match eqL (eqD 20) x c with
  |true=>some k
  |false=>bdN x r (k+1)
def bdI:D→Option Nat
 | .tok [(.ofNat k,[])] 4=>some k
 |_=>none
def bdX:List D→Option Nat
 |d::r=>match bdI d with
  |some k=>match eqL (eqD 20) (d::r) (bdT k)with
   |true=>some k
   |false=>none
  |none=>none
 |[]=>none
def opp (i k:Nat):Bool:=match Nat.beq i (k+2)with|true=>true|false=>Nat.beq k (i+2)
def tabB (f:Nat) (al:List A):Option (List A):=
 match al with
 |[.ag x]=>match Nat.beq f 249 with
  |true=>match bdN x [cB,cR',cT',cL'] 0 with
   |some k=>some [.ag (bdT k)]
   |none=>none
  |false=>none
 |[.ag x,.ag y]=>match Nat.beq f 250 with
  |true=>match bdX x,bdX y with
   |some i,some k=>match Nat.ble i 3&&Nat.ble k 3 with
    |true=>some [.c (.bool (opp i k))]
    |false=>none
   |_,_=>none
  |false=>none
 |_=>none
def tabF (f:Nat) (al:List A):Option (List A):=
 match tabB f al with
 |some r=>some r
 |none=>tabH Tk.tabL tabT f al
class BdOk [Env]:Prop where
 ok:∀f al rs,tabF f al=some rs→Gives CC f al rs
theorem tabF_okX [Env] [BdOk] {ex:List (Nat×EffF)} (f:Nat) (al rs:List A) (h:tabF f al=some rs):Gives (CX ex) f al rs:=upX (BdOk.ok f al rs h)
end Eng
end

section
namespace Eng
open Go Go.Proofs
set_option maxRecDepth 100000
variable [Env] [TokOk]
noncomputable def F1L:List (Nat×EffF):=[(390,effRI tabF CB 390 22),
 (398,effRI tabF CB 398 66),
 (467,effRI tabF CB 467 20)]
noncomputable def F1:Cx:=CX (F1L)
instance [BdOk]:EffOk F1:=effOk_all (effX_ok ⟨effAt_RI (C:=CB) (C':=CX (F1L)) mixedT tabF_okX rfl rfl Tryz.func390 (by simp[Tryz.f390]) (by decide),
 effAt_RI (C:=CB) (C':=CX (F1L)) mixedT tabF_okX rfl rfl Tryz.func398 (by simp[Tryz.f398]) (by decide),
 effAt_RI (C:=CB) (C':=CX (F1L)) mixedT tabF_okX rfl rfl Tryz.func467 (by simp[Tryz.f467]) (by decide),trivial⟩)
noncomputable def F2L:List (Nat×EffF):=[(313,effRI tabF F1 313 22),
 (321,effRI tabF F1 321 66),
 (440,effRI tabF F1 440 20),
 (325,effRI tabF F1 325 66)]
noncomputable def F2:Cx:=CX (F2L)
instance [BdOk]:EffOk F2:=effOk_all (effX_ok ⟨effAt_RI (C:=F1) (C':=CX (F2L)) mixedT tabF_okX rfl rfl Tryz.func313 (by simp[Tryz.f313]) (by decide),
 effAt_RI (C:=F1) (C':=CX (F2L)) mixedT tabF_okX rfl rfl Tryz.func321 (by simp[Tryz.f321]) (by decide),
 effAt_RI (C:=F1) (C':=CX (F2L)) mixedT tabF_okX rfl rfl Tryz.func440 (by simp[Tryz.f440]) (by decide),
 effAt_RI (C:=F1) (C':=CX (F2L)) mixedT tabF_okX rfl rfl Tryz.func325 (by simp[Tryz.f325]) (by decide),trivial⟩)
noncomputable def F3L:List (Nat×EffF):=[(237,effRI tabF F2 237 22),
 (245,effRI tabF F2 245 66),
 (394,effIf (effRG tabF CB CB 394) (effRI tabF F2 394 20)),
 (248,effRI tabF F2 248 66),
 (333,effIf (effRG tabF CB CB 333) (effRC1 tabF F2 333 20)),
 (397,effIf (effRG tabF CB CB 397) (effRC2 tabF F2 397 20)),
 (240,effIf (effRG tabF CB CB 240) (effRD tabF F2 240 20))]
noncomputable def F3:Cx:=CX (F3L)
instance [BdOk]:EffOk F3:=effOk_all (effX_ok ⟨effAt_RI (C:=F2) (C':=CX (F3L)) mixedT tabF_okX rfl rfl Tryz.func237 (by simp[Tryz.f237]) (by decide),
 effAt_RI (C:=F2) (C':=CX (F3L)) mixedT tabF_okX rfl rfl Tryz.func245 (by simp[Tryz.f245]) (by decide),
 effAt_if (effAt_RG (C:=CB) (C':=CX (F3L)) mixedT tabF_okX rfl rfl) (effAt_RI (C:=F2) (C':=CX (F3L)) mixedT tabF_okX rfl rfl Tryz.func394 (by simp[Tryz.f394]) (by decide)),
 effAt_RI (C:=F2) (C':=CX (F3L)) mixedT tabF_okX rfl rfl Tryz.func248 (by simp[Tryz.f248]) (by decide),
 effAt_if (effAt_RG (C:=CB) (C':=CX (F3L)) mixedT tabF_okX rfl rfl) (effAt_RC1 (C:=F2) (C':=CX (F3L)) mixedT tabF_okX rfl rfl Tryz.func333 (by simp[Tryz.f333]) (by decide)),
 effAt_if (effAt_RG (C:=CB) (C':=CX (F3L)) mixedT tabF_okX rfl rfl) (effAt_RC2 (C:=F2) (C':=CX (F3L)) mixedT tabF_okX rfl rfl Tryz.func397 (by simp[Tryz.f397]) (by decide)),
 effAt_if (effAt_RG (C:=CB) (C':=CX (F3L)) mixedT tabF_okX rfl rfl) (effAt_RD (C:=F2) (C':=CX (F3L)) mixedT tabF_okX rfl rfl Tryz.func240 (by simp[Tryz.f240]) (by decide)),trivial⟩)
noncomputable def F4L:List (Nat×EffF):=[(237,effRI tabF F2 237 22),
 (245,effRI tabF F2 245 66),
 (394,effIf (effRG tabF CB CB 394) (effRI tabF F2 394 20)),
 (248,effRI tabF F2 248 66),
 (333,effIf (effRG tabF CB CB 333) (effRC1 tabF F2 333 20)),
 (397,effIf (effRG tabF CB CB 397) (effRC2 tabF F2 397 20)),
 (240,effIf (effRG tabF CB CB 240) (effRD tabF F2 240 20)),
 (243,effRT tabF F3 243)]
noncomputable def F4:Cx:=CX (F4L)
instance [BdOk]:EffOk F4:=effOk_all (effX_ok ⟨effAt_RI (C:=F2) (C':=CX (F4L)) mixedT tabF_okX rfl rfl Tryz.func237 (by simp[Tryz.f237]) (by decide),
 effAt_RI (C:=F2) (C':=CX (F4L)) mixedT tabF_okX rfl rfl Tryz.func245 (by simp[Tryz.f245]) (by decide),
 effAt_if (effAt_RG (C:=CB) (C':=CX (F4L)) mixedT tabF_okX rfl rfl) (effAt_RI (C:=F2) (C':=CX (F4L)) mixedT tabF_okX rfl rfl Tryz.func394 (by simp[Tryz.f394]) (by decide)),
 effAt_RI (C:=F2) (C':=CX (F4L)) mixedT tabF_okX rfl rfl Tryz.func248 (by simp[Tryz.f248]) (by decide),
 effAt_if (effAt_RG (C:=CB) (C':=CX (F4L)) mixedT tabF_okX rfl rfl) (effAt_RC1 (C:=F2) (C':=CX (F4L)) mixedT tabF_okX rfl rfl Tryz.func333 (by simp[Tryz.f333]) (by decide)),
 effAt_if (effAt_RG (C:=CB) (C':=CX (F4L)) mixedT tabF_okX rfl rfl) (effAt_RC2 (C:=F2) (C':=CX (F4L)) mixedT tabF_okX rfl rfl Tryz.func397 (by simp[Tryz.f397]) (by decide)),
 effAt_if (effAt_RG (C:=CB) (C':=CX (F4L)) mixedT tabF_okX rfl rfl) (effAt_RD (C:=F2) (C':=CX (F4L)) mixedT tabF_okX rfl rfl Tryz.func240 (by simp[Tryz.f240]) (by decide)),
 effAt_RT (C:=F3) (C':=CX (F4L)) mixedT tabF_okX rfl rfl Tryz.func243 (by simp[Tryz.f243]) (by decide),trivial⟩)
noncomputable def KFL:List (Nat×EffF):=[(237,effRI tabF F2 237 22),
 (245,effRI tabF F2 245 66),
 (394,effIf (effRG tabF CB CB 394) (effRI tabF F2 394 20)),
 (248,effRI tabF F2 248 66),
 (333,effIf (effRG tabF CB CB 333) (effRC1 tabF F2 333 20)),
 (397,effIf (effRG tabF CB CB 397) (effRC2 tabF F2 397 20)),
 (240,effIf (effRG tabF CB CB 240) (effRD tabF F2 240 20)),
 (243,effRT tabF F3 243),
 (172,effRC1 tabF F4 172 66),
 (171,effRC2 tabF F4 171 66)]
noncomputable def KF:Cx:=CX (KFL)
instance [BdOk]:EffOk (KF):=effOk_all (effX_ok ⟨effAt_RI (C:=F2) (C':=CX (KFL)) mixedT tabF_okX rfl rfl Tryz.func237 (by simp[Tryz.f237]) (by decide),
 effAt_RI (C:=F2) (C':=CX (KFL)) mixedT tabF_okX rfl rfl Tryz.func245 (by simp[Tryz.f245]) (by decide),
 effAt_if (effAt_RG (C:=CB) (C':=CX (KFL)) mixedT tabF_okX rfl rfl) (effAt_RI (C:=F2) (C':=CX (KFL)) mixedT tabF_okX rfl rfl Tryz.func394 (by simp[Tryz.f394]) (by decide)),
 effAt_RI (C:=F2) (C':=CX (KFL)) mixedT tabF_okX rfl rfl Tryz.func248 (by simp[Tryz.f248]) (by decide),
 effAt_if (effAt_RG (C:=CB) (C':=CX (KFL)) mixedT tabF_okX rfl rfl) (effAt_RC1 (C:=F2) (C':=CX (KFL)) mixedT tabF_okX rfl rfl Tryz.func333 (by simp[Tryz.f333]) (by decide)),
 effAt_if (effAt_RG (C:=CB) (C':=CX (KFL)) mixedT tabF_okX rfl rfl) (effAt_RC2 (C:=F2) (C':=CX (KFL)) mixedT tabF_okX rfl rfl Tryz.func397 (by simp[Tryz.f397]) (by decide)),
 effAt_if (effAt_RG (C:=CB) (C':=CX (KFL)) mixedT tabF_okX rfl rfl) (effAt_RD (C:=F2) (C':=CX (KFL)) mixedT tabF_okX rfl rfl Tryz.func240 (by simp[Tryz.f240]) (by decide)),
 effAt_RT (C:=F3) (C':=CX (KFL)) mixedT tabF_okX rfl rfl Tryz.func243 (by simp[Tryz.f243]) (by decide),
 effAt_RC1 (C:=F4) (C':=CX (KFL)) mixedT tabF_okX rfl rfl Tryz.func172 (by simp[Tryz.f172]) (by decide),
 effAt_RC2 (C:=F4) (C':=CX (KFL)) mixedT tabF_okX rfl rfl Tryz.func171 (by simp[Tryz.f171]) (by decide),trivial⟩)
end Eng
end

section
namespace Eng
open Go Go.Proofs
section
variable [Env]
theorem allG_cx {C C':Cx} (hP:C'.P=C.P) (hG:C'.G=C.G):∀{es:List EntH},AllG C es→AllG C' es
 |[],_=>trivial
 |_::_,h=>⟨gives_cx hP hG h.1,allG_cx hP hG h.2⟩
end
theorem cxP {ex ex':List (Nat×EffF)}:(CX ex).P=(CX ex').P:=rfl
theorem cxG {ex ex':List (Nat×EffF)}:(CX ex).G=(CX ex').G:=rfl
section
variable [Env] [TokOk] [BdOk]
omit [TokOk] in
theorem run2 {ex ex':List (Nat×EffF)} [EffOk (CX ex')] {es:List EntH} {e:EntH} (h:AllG (CX ex) es) (hr:runF (tabH es tabF) (CX ex') 1000 40 e.1 e.2.2.1=some e.2.2.2):Gives (CX ex) e.1 e.2.2.1 e.2.2.2:=
 gives_cx (C:=CX ex') (C':=CX ex) cxP cxG (runF_ok (C:=CX ex') mixedT (tabH_ok (C:=CX ex') (ents:=es) (allG_cx (C:=CX ex) (C':=CX ex') cxP cxG h) tabF_okX) 40 _ _ _ hr)
omit [Env] [TokOk] [BdOk] in
theorem eKT:KT=CX KTL:=rfl
omit [Env] [TokOk] [BdOk] in
theorem eKF:KF=CX KFL:=rfl
instance:EffOk (CX KFL):=inferInstanceAs (EffOk KF)
end
theorem Tk.r2 [Env] [TokOk] [BdOk] {es:List EntH} {e:EntH} (h:AllG KT es) (hr:runF (tabH es tabF) KF 1000 40 e.1 e.2.2.1=some e.2.2.2):Tk.G e:=by
 unfold Tk.G;rw[eKT]at h ⊢;rw[eKF]at hr;exact run2 h hr
end Eng
end
