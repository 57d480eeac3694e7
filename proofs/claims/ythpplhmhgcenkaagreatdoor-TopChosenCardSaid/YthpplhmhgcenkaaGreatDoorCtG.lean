import Derived.Test.YthpplhmhgcenkaaGreatDoorCtH
section
namespace Eng
open Go Go.Proofs
set_option maxRecDepth 1000000
theorem AU:Kx zx F4 1000 40 318 (pcA true) none []=some (66,pcL true):=by kernel_rfl
def pcC (al:List A):Bool:=eqL eqA al (pcA true)||eqL eqA al (pcA false)
def pcR (al:List A):List (List D):=pcL (eqL eqA al (pcA true))
section
variable [Env] [BdOk]
theorem pc_g {al:List A} (h:pcC al=true):wq F4 318 al none [] 66 (pcR al):=by
 unfold pcR pcC at *
 cases e:eqL eqA al (pcA true) with
 | true=>obtain rfl:=j0 Br e;exact Ky (C:=F4) mixedT qo (by simp[pcL]) AU
 | false=>rw[e,Bool.false_or]at h;obtain rfl:=j0 Br h;exact Ky (C:=F4) mixedT qo (by simp[pcL]) pcV
end
noncomputable def KGL:List (Nat×k9):=[(368,xG zx F2 368 22),
 (374,xG zx F2 374 66),
 (438,zp (zH zx CB CB 438) (xG zx F2 438 20)),
 (377,xG zx F2 377 66),
 (422,zp (zH zx CB CB 422) (vX zx F2 422 20)),
 (441,zp (zH zx CB CB 441) (wV zx F2 441 20)),
 (370,zp (zH zx CB CB 370) (WZ zx F2 370 20)),
 (372,Up zx F3 372),
 (318,Un pcC 66 pcR),
 (317,wV zx F4 317 66)]
noncomputable def KG:Cx:=CX KGL
instance [Env] [BdOk]:EffOk KG:=qV (zh ⟨qx (C:=F2) (C':=CX (KGL)) mixedT qo rfl rfl Tryz.func368 (by simp[Tryz.f368]) (by decide),
 qx (C:=F2) (C':=CX (KGL)) mixedT qo rfl rfl Tryz.func374 (by simp[Tryz.f374]) (by decide),
 qP (qQ (C:=CB) (C':=CX (KGL)) mixedT qo rfl rfl) (qx (C:=F2) (C':=CX (KGL)) mixedT qo rfl rfl Tryz.func438 (by simp[Tryz.f438]) (by decide)),
 qx (C:=F2) (C':=CX (KGL)) mixedT qo rfl rfl Tryz.func377 (by simp[Tryz.f377]) (by decide),
 qP (qQ (C:=CB) (C':=CX (KGL)) mixedT qo rfl rfl) (zI (C:=F2) (C':=CX (KGL)) mixedT qo rfl rfl Tryz.func422 (by simp[Tryz.f422]) (by decide)),
 qP (qQ (C:=CB) (C':=CX (KGL)) mixedT qo rfl rfl) (zq (C:=F2) (C':=CX (KGL)) mixedT qo rfl rfl Tryz.func441 (by simp[Tryz.f441]) (by decide)),
 qP (qQ (C:=CB) (C':=CX (KGL)) mixedT qo rfl rfl) (kW (C:=F2) (C':=CX (KGL)) mixedT qo rfl rfl Tryz.func370 (by simp[Tryz.f370]) (by decide)),
 yX (C:=F3) (C':=CX (KGL)) mixedT qo rfl rfl Tryz.func372 (by simp[Tryz.f372]) (by decide),
 Gy Tryz.func318 (by simp[Tryz.f318]) (by decide) (λal h=>⟨by unfold pcR;cases eqL eqA al (pcA true)<;>simp[pcL],wT (C:=F4) rfl rfl (pc_g h)⟩),
 zq (C:=F4) (C':=CX (KGL)) mixedT qo rfl rfl Tryz.func317 (by simp[Tryz.f317]) (by decide),trivial⟩)
instance [Env] [BdOk]:EffOk (CX KGL):=inferInstanceAs (EffOk KG)
theorem eKG:KG=CX KGL:=rfl
theorem Tk.r3 [Env] [xx] [BdOk] {es:List qe} {e:qe} (h:Wj KT es) (hr:y5 (Bt es zx) KG 1000 40 e.1 e.2.2.1=some e.2.2.2:=by kernel_rfl):Tk.G e:=by
 unfold Tk.G;rw[eKT]at h ⊢;rw[eKG]at hr;exact run2 h hr
end Eng
end
