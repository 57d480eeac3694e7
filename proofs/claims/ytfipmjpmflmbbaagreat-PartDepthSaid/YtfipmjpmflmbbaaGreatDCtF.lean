/- The table of the first stage's calls. -/
import Derived.Test.YtfipmjpmflmbbaaGreatDAwTab
section
namespace Eng
open Go Go.Proofs
theorem Tu {C C':Cx} (hP:C'.P=C.P) (hG:C'.G=C.G):∀{es:List qm},R2 C es→R2 C' es
 |[],_=>trivial
 |_::_,h=>⟨wl hP hG h.1,Tu hP hG h.2⟩
def wc (f:Nat) (al:List A):Option (List A):=fb Aw.tabL jc f al
theorem q0 {ex:List (Nat×ZY)} (f:Nat) (al rs:List A) (h:wc f al=some rs):qc (CX ex) f al rs:=
 Mu (C:=CX ex) (Tu (C:=K5) (C':=CX ex) rfl rfl Aw.tabL_ok) qq f al rs h
end Eng
end
section
namespace Eng
open Go Go.Proofs
set_option maxRecDepth 100000
noncomputable def eE:List (Nat×ZY):=[(364,xO wc CB 364 22),
 (370,xO wc CB 370 66),
 (407,xO wc CB 407 20),
 (92,xO wc CB 92 1),
 (351,H7 wc CB 351)]
noncomputable def CT1:Cx:=CX eE
instance:EffOk CT1:=xV (kY ⟨qz (C:=CB) (C':=CX eE) mixedT q0 rfl rfl Tryz.func364 (by simp[Tryz.f364]) (by decide),
 qz (C:=CB) (C':=CX eE) mixedT q0 rfl rfl Tryz.func370 (by simp[Tryz.f370]) (by decide),
 qz (C:=CB) (C':=CX eE) mixedT q0 rfl rfl Tryz.func407 (by simp[Tryz.f407]) (by decide),
 qz (C:=CB) (C':=CX eE) mixedT q0 rfl rfl Tryz.func92 (by simp[Tryz.f92]) (by decide),
 v6 (C:=CB) (C':=CX eE) mixedT q0 rfl rfl Tryz.func351 (by simp[Tryz.f351]) (by decide),trivial⟩)
noncomputable def eF:List (Nat×ZY):=[(343,xO wc CT1 343 22),
 (348,xO wc CT1 348 66),
 (388,xO wc CT1 388 20),
 (350,xO wc CT1 350 66),
 (52,xO wc CT1 52 1)]
noncomputable def CT2:Cx:=CX eF
instance:EffOk CT2:=xV (kY ⟨qz (C:=CT1) (C':=CX eF) mixedT q0 rfl rfl Tryz.func343 (by simp[Tryz.f343]) (by decide),
 qz (C:=CT1) (C':=CX eF) mixedT q0 rfl rfl Tryz.func348 (by simp[Tryz.f348]) (by decide),
 qz (C:=CT1) (C':=CX eF) mixedT q0 rfl rfl Tryz.func388 (by simp[Tryz.f388]) (by decide),
 qz (C:=CT1) (C':=CX eF) mixedT q0 rfl rfl Tryz.func350 (by simp[Tryz.f350]) (by decide),
 qz (C:=CT1) (C':=CX eF) mixedT q0 rfl rfl Tryz.func52 (by simp[Tryz.f52]) (by decide),trivial⟩)
noncomputable def Tv:List (Nat×ZY):=[(311,xO wc CT2 311 22),
 (317,xO wc CT2 317 66),
 (366,kb (wy wc CB CB 366) (xO wc CT2 366 20)),
 (320,xO wc CT2 320 66),
 (27,xO wc CT2 27 1),
 (353,kb (wy wc CB CB 353) (ZJ wc CT2 353 20)),
 (369,kb (wy wc CB CB 369) (wS wc CT2 369 20)),
 (313,kb (wy wc CB CB 313) (Pr wc CT2 313 20)),
 (28,wS wc CT2 28 1),
 (351,H7 wc CB 351)]
noncomputable def CT3:Cx:=CX Tv
instance:EffOk CT3:=xV (kY ⟨qz (C:=CT2) (C':=CX Tv) mixedT q0 rfl rfl Tryz.func311 (by simp[Tryz.f311]) (by decide),
 qz (C:=CT2) (C':=CX Tv) mixedT q0 rfl rfl Tryz.func317 (by simp[Tryz.f317]) (by decide),
 xu (xv (C:=CB) (C':=CX Tv) mixedT q0 rfl rfl) (qz (C:=CT2) (C':=CX Tv) mixedT q0 rfl rfl Tryz.func366 (by simp[Tryz.f366]) (by decide)),
 qz (C:=CT2) (C':=CX Tv) mixedT q0 rfl rfl Tryz.func320 (by simp[Tryz.f320]) (by decide),
 qz (C:=CT2) (C':=CX Tv) mixedT q0 rfl rfl Tryz.func27 (by simp[Tryz.f27]) (by decide),
 xu (xv (C:=CB) (C':=CX Tv) mixedT q0 rfl rfl) (kA (C:=CT2) (C':=CX Tv) mixedT q0 rfl rfl Tryz.func353 (by simp[Tryz.f353]) (by decide)),
 xu (xv (C:=CB) (C':=CX Tv) mixedT q0 rfl rfl) (zk (C:=CT2) (C':=CX Tv) mixedT q0 rfl rfl Tryz.func369 (by simp[Tryz.f369]) (by decide)),
 xu (xv (C:=CB) (C':=CX Tv) mixedT q0 rfl rfl) (Xk (C:=CT2) (C':=CX Tv) mixedT q0 rfl rfl Tryz.func313 (by simp[Tryz.f313]) (by decide)),
 zk (C:=CT2) (C':=CX Tv) mixedT q0 rfl rfl Tryz.func28 (by simp[Tryz.f28]) (by decide),
 v6 (C:=CB) (C':=CX Tv) mixedT q0 rfl rfl Tryz.func351 (by simp[Tryz.f351]) (by decide),trivial⟩)
noncomputable def K6L:List (Nat×ZY):=[(311,xO wc CT2 311 22),
 (317,xO wc CT2 317 66),
 (366,kb (wy wc CB CB 366) (xO wc CT2 366 20)),
 (320,xO wc CT2 320 66),
 (27,xO wc CT2 27 1),
 (353,kb (wy wc CB CB 353) (ZJ wc CT2 353 20)),
 (369,kb (wy wc CB CB 369) (wS wc CT2 369 20)),
 (313,kb (wy wc CB CB 313) (Pr wc CT2 313 20)),
 (28,wS wc CT2 28 1),
 (351,H7 wc CB 351),
 (315,EL wc CT3 315),
 (271,ZJ wc CT3 271 66),
 (270,wS wc CT3 270 66)]
noncomputable def K6:Cx:=CX K6L
instance:EffOk K6:=xV (kY ⟨qz (C:=CT2) (C':=CX K6L) mixedT q0 rfl rfl Tryz.func311 (by simp[Tryz.f311]) (by decide),
 qz (C:=CT2) (C':=CX K6L) mixedT q0 rfl rfl Tryz.func317 (by simp[Tryz.f317]) (by decide),
 xu (xv (C:=CB) (C':=CX K6L) mixedT q0 rfl rfl) (qz (C:=CT2) (C':=CX K6L) mixedT q0 rfl rfl Tryz.func366 (by simp[Tryz.f366]) (by decide)),
 qz (C:=CT2) (C':=CX K6L) mixedT q0 rfl rfl Tryz.func320 (by simp[Tryz.f320]) (by decide),
 qz (C:=CT2) (C':=CX K6L) mixedT q0 rfl rfl Tryz.func27 (by simp[Tryz.f27]) (by decide),
 xu (xv (C:=CB) (C':=CX K6L) mixedT q0 rfl rfl) (kA (C:=CT2) (C':=CX K6L) mixedT q0 rfl rfl Tryz.func353 (by simp[Tryz.f353]) (by decide)),
 xu (xv (C:=CB) (C':=CX K6L) mixedT q0 rfl rfl) (zk (C:=CT2) (C':=CX K6L) mixedT q0 rfl rfl Tryz.func369 (by simp[Tryz.f369]) (by decide)),
 xu (xv (C:=CB) (C':=CX K6L) mixedT q0 rfl rfl) (Xk (C:=CT2) (C':=CX K6L) mixedT q0 rfl rfl Tryz.func313 (by simp[Tryz.f313]) (by decide)),
 zk (C:=CT2) (C':=CX K6L) mixedT q0 rfl rfl Tryz.func28 (by simp[Tryz.f28]) (by decide),
 v6 (C:=CB) (C':=CX K6L) mixedT q0 rfl rfl Tryz.func351 (by simp[Tryz.f351]) (by decide),
 Yy (C:=CT3) (C':=CX K6L) mixedT q0 rfl rfl Tryz.func315 (by simp[Tryz.f315]) (by decide),
 kA (C:=CT3) (C':=CX K6L) mixedT q0 rfl rfl Tryz.func271 (by simp[Tryz.f271]) (by decide),
 zk (C:=CT3) (C':=CX K6L) mixedT q0 rfl rfl Tryz.func270 (by simp[Tryz.f270]) (by decide),trivial⟩)
end Eng
end
section
namespace Eng
open Go Go.Proofs
theorem cxP {ex ex':List (Nat×ZY)}:(CX ex).P=(CX ex').P:=rfl
theorem cxG {ex ex':List (Nat×ZY)}:(CX ex).G=(CX ex').G:=rfl
theorem run2 {ex ex':List (Nat×ZY)} [EffOk (CX ex')] {es:List qm} {e:qm} (h:R2 (CX ex) es) (hr:XO (fb es wc) (CX ex') 1000 40 e.1 e.2.2.1=some e.2.2.2):qc (CX ex) e.1 e.2.2.1 e.2.2.2:=
 wl (C:=CX ex') (C':=CX ex) cxP cxG (v3 (C:=CX ex') mixedT (Mu (C:=CX ex') (ents:=es) (Tu (C:=CX ex) (C':=CX ex') cxP cxG h) q0) 40 _ _ _ hr)
theorem eK5:K5=CX K5L:=rfl
theorem eK6:K6=CX K6L:=rfl
instance:EffOk (CX K6L):=inferInstanceAs (EffOk K6)
theorem Aw.r2 {es:List qm} {e:qm} (h:R2 K5 es) (hr:XO (fb es wc) K6 1000 40 e.1 e.2.2.1=some e.2.2.2):Aw.G e:=by
 unfold Aw.G;rw[eK5]at h ⊢;rw[eK6]at hr;exact run2 h hr
end Eng
end
