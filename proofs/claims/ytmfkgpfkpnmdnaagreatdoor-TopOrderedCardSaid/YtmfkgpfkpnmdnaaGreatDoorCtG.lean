import Derived.Test.YtmfkgpfkpnmdnaaGreatDoorCtP0
import Derived.Test.YtmfkgpfkpnmdnaaGreatDoorCtP1
import Derived.Test.YtmfkgpfkpnmdnaaGreatDoorCtP2
import Derived.Test.YtmfkgpfkpnmdnaaGreatDoorCtP3
import Derived.Test.YtmfkgpfkpnmdnaaGreatDoorCtP4
section
namespace Eng
open Go Go.Proofs
set_option maxRecDepth 1000000
theorem EU:∀k,k<5->PcR k
 |0,_=>SM
 |1,_=>SN
 |2,_=>SO
 |3,_=>SP
 |4,_=>SQ
 |_+5,h=>by omega
def pcK (al:List A):Nat->Option Nat
 |0=>none
 |k+1=>match eqL eqA al (pcA k)with
  |true=>some k
  |false=>pcK al k
theorem R9 {al:List A}:∀{n k:Nat},pcK al n=some k->k<n/\al=pcA k
 |n+1,k,h=>by
  unfold pcK at h;split at h
  .rename_i e;cases h;exact⟨by omega,zP RV e⟩
  .have:=R9 h;exact⟨by omega,this.2⟩
def pcC (al:List A):Bool:=(pcK al 5).isSome
def pcR (al:List A):List (List D):=pcL ((pcK al 5).getD 0)
theorem RA (k:Nat):pcL k≠[]:=by unfold pcL;split<;>simp
theorem EV (al:List A):pcR al≠[]:=RA _
section
variable [Env] [BdOk]
theorem pc_g {al:List A} (h:pcC al=true):XZ F4 256 al none [] 66 (pcR al):=by
 unfold pcR;unfold pcC at h;cases e:pcK al 5 with
 |none=>rw[e]at h;cases h
 |some k=>obtain⟨h1,rfl⟩:=R9 e;exact Kc (C:=F4) mixedT qo (RA k) (EU k h1)
end
noncomputable def KGL:List (Nat×wq):=[(316,xC zt F2 316 22),
 (322,xC zt F2 322 66),
 (394,zm (zC zt CB CB 394) (xC zt F2 394 20)),
 (325,xC zt F2 325 66),
 (377,zm (zC zt CB CB 377) (vK zt F2 377 20)),
 (397,zm (zC zt CB CB 397) (wQ zt F2 397 20)),
 (318,zm (zC zt CB CB 318) (WI zt F2 318 20)),
 (320,HD zt F3 320),
 (256,HA pcC 66 pcR),
 (255,wQ zt F4 255 66)]
noncomputable def KG:Cx:=CX KGL
instance [Env] [BdOk]:EffOk KG:=xd (zK ⟨qy (C:=F2) (C':=CX (KGL)) mixedT qo rfl rfl Tryz.func316 (by simp[Tryz.f316]) (by decide),
 qy (C:=F2) (C':=CX (KGL)) mixedT qo rfl rfl Tryz.func322 (by simp[Tryz.f322]) (by decide),
 qN (qO (C:=CB) (C':=CX (KGL)) mixedT qo rfl rfl) (qy (C:=F2) (C':=CX (KGL)) mixedT qo rfl rfl Tryz.func394 (by simp[Tryz.f394]) (by decide)),
 qy (C:=F2) (C':=CX (KGL)) mixedT qo rfl rfl Tryz.func325 (by simp[Tryz.f325]) (by decide),
 qN (qO (C:=CB) (C':=CX (KGL)) mixedT qo rfl rfl) (zD (C:=F2) (C':=CX (KGL)) mixedT qo rfl rfl Tryz.func377 (by simp[Tryz.f377]) (by decide)),
 qN (qO (C:=CB) (C':=CX (KGL)) mixedT qo rfl rfl) (zn (C:=F2) (C':=CX (KGL)) mixedT qo rfl rfl Tryz.func397 (by simp[Tryz.f397]) (by decide)),
 qN (qO (C:=CB) (C':=CX (KGL)) mixedT qo rfl rfl) (kS (C:=F2) (C':=CX (KGL)) mixedT qo rfl rfl Tryz.func318 (by simp[Tryz.f318]) (by decide)),
 yH (C:=F3) (C':=CX (KGL)) mixedT qo rfl rfl Tryz.func320 (by simp[Tryz.f320]) (by decide),
 YS Tryz.func256 (by simp[Tryz.f256]) (by decide) (λal h=>⟨EV al,Za (C:=F4) rfl rfl (pc_g h)⟩),
 zn (C:=F4) (C':=CX (KGL)) mixedT qo rfl rfl Tryz.func255 (by simp[Tryz.f255]) (by decide),trivial⟩)
instance [Env] [BdOk]:EffOk (CX KGL):=inferInstanceAs (EffOk KG)
theorem eKG:KG=CX KGL:=rfl
theorem Tk.r3 [Env] [xr] [BdOk] {es:List qg} {e:qg} (h:KP KT es) (hr:wv (Sk es zt) KG 1000 40 e.1 e.2.2.1=some e.2.2.2:=by kernel_rfl):Tk.G e:=by
 unfold Tk.G;rw[eKT]at h ⊢;rw[eKG]at hr;exact run2 h hr
end Eng
end
