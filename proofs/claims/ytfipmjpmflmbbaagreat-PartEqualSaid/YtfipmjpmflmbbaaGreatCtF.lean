/- The table of the first stage's calls. -/
import Derived.Test.YtfipmjpmflmbbaaGreatAwTab
section
namespace Eng
open Go Go.Proofs
theorem To {C C':Cx} (hP:C'.P=C.P) (hG:C'.G=C.G):∀{es:List qm},Rv C es→Rv C' es
 |[],_=>trivial
 |_::_,h=>⟨jT hP hG h.1,To hP hG h.2⟩
def kR (f:Nat) (al:List A):Option (List A):=eY Aw.tabL jb f al
theorem q0 {ex:List (Nat×ZV)} (f:Nat) (al rs:List A) (h:kR f al=some rs):qe (CX ex) f al rs:=
 Mk (C:=CX ex) (To (C:=K5) (C':=CX ex) rfl rfl Aw.tabL_ok) qq f al rs h
end Eng
end
section
namespace Eng
open Go Go.Proofs
set_option maxRecDepth 100000
noncomputable def eC:List (Nat×ZV):=[(364,xL kR CB 364 22),
 (370,xL kR CB 370 66),
 (407,xL kR CB 407 20),
 (92,xL kR CB 92 1),
 (351,H2 kR CB 351)]
noncomputable def CT1:Cx:=CX eC
instance:EffOk CT1:=xI (jR ⟨qz (C:=CB) (C':=CX eC) mixedT q0 rfl rfl Tryz.func364 (by simp[Tryz.f364]) (by decide),
 qz (C:=CB) (C':=CX eC) mixedT q0 rfl rfl Tryz.func370 (by simp[Tryz.f370]) (by decide),
 qz (C:=CB) (C':=CX eC) mixedT q0 rfl rfl Tryz.func407 (by simp[Tryz.f407]) (by decide),
 qz (C:=CB) (C':=CX eC) mixedT q0 rfl rfl Tryz.func92 (by simp[Tryz.f92]) (by decide),
 vt (C:=CB) (C':=CX eC) mixedT q0 rfl rfl Tryz.func351 (by simp[Tryz.f351]) (by decide),trivial⟩)
noncomputable def eD:List (Nat×ZV):=[(343,xL kR CT1 343 22),
 (348,xL kR CT1 348 66),
 (388,xL kR CT1 388 20),
 (350,xL kR CT1 350 66),
 (52,xL kR CT1 52 1)]
noncomputable def CT2:Cx:=CX eD
instance:EffOk CT2:=xI (jR ⟨qz (C:=CT1) (C':=CX eD) mixedT q0 rfl rfl Tryz.func343 (by simp[Tryz.f343]) (by decide),
 qz (C:=CT1) (C':=CX eD) mixedT q0 rfl rfl Tryz.func348 (by simp[Tryz.f348]) (by decide),
 qz (C:=CT1) (C':=CX eD) mixedT q0 rfl rfl Tryz.func388 (by simp[Tryz.f388]) (by decide),
 qz (C:=CT1) (C':=CX eD) mixedT q0 rfl rfl Tryz.func350 (by simp[Tryz.f350]) (by decide),
 qz (C:=CT1) (C':=CX eD) mixedT q0 rfl rfl Tryz.func52 (by simp[Tryz.f52]) (by decide),trivial⟩)
noncomputable def Tp:List (Nat×ZV):=[(311,xL kR CT2 311 22),
 (317,xL kR CT2 317 66),
 (366,jU (wl kR CB CB 366) (xL kR CT2 366 20)),
 (320,xL kR CT2 320 66),
 (27,xL kR CT2 27 1),
 (353,jU (wl kR CB CB 353) (ZC kR CT2 353 20)),
 (369,jU (wl kR CB CB 369) (wK kR CT2 369 20)),
 (313,jU (wl kR CB CB 313) (Pb kR CT2 313 20)),
 (28,wK kR CT2 28 1),
 (351,H2 kR CB 351)]
noncomputable def CT3:Cx:=CX Tp
instance:EffOk CT3:=xI (jR ⟨qz (C:=CT2) (C':=CX Tp) mixedT q0 rfl rfl Tryz.func311 (by simp[Tryz.f311]) (by decide),
 qz (C:=CT2) (C':=CX Tp) mixedT q0 rfl rfl Tryz.func317 (by simp[Tryz.f317]) (by decide),
 xt (xu (C:=CB) (C':=CX Tp) mixedT q0 rfl rfl) (qz (C:=CT2) (C':=CX Tp) mixedT q0 rfl rfl Tryz.func366 (by simp[Tryz.f366]) (by decide)),
 qz (C:=CT2) (C':=CX Tp) mixedT q0 rfl rfl Tryz.func320 (by simp[Tryz.f320]) (by decide),
 qz (C:=CT2) (C':=CX Tp) mixedT q0 rfl rfl Tryz.func27 (by simp[Tryz.f27]) (by decide),
 xt (xu (C:=CB) (C':=CX Tp) mixedT q0 rfl rfl) (ku (C:=CT2) (C':=CX Tp) mixedT q0 rfl rfl Tryz.func353 (by simp[Tryz.f353]) (by decide)),
 xt (xu (C:=CB) (C':=CX Tp) mixedT q0 rfl rfl) (zg (C:=CT2) (C':=CX Tp) mixedT q0 rfl rfl Tryz.func369 (by simp[Tryz.f369]) (by decide)),
 xt (xu (C:=CB) (C':=CX Tp) mixedT q0 rfl rfl) (Xh (C:=CT2) (C':=CX Tp) mixedT q0 rfl rfl Tryz.func313 (by simp[Tryz.f313]) (by decide)),
 zg (C:=CT2) (C':=CX Tp) mixedT q0 rfl rfl Tryz.func28 (by simp[Tryz.f28]) (by decide),
 vt (C:=CB) (C':=CX Tp) mixedT q0 rfl rfl Tryz.func351 (by simp[Tryz.f351]) (by decide),trivial⟩)
noncomputable def K6L:List (Nat×ZV):=[(311,xL kR CT2 311 22),
 (317,xL kR CT2 317 66),
 (366,jU (wl kR CB CB 366) (xL kR CT2 366 20)),
 (320,xL kR CT2 320 66),
 (27,xL kR CT2 27 1),
 (353,jU (wl kR CB CB 353) (ZC kR CT2 353 20)),
 (369,jU (wl kR CB CB 369) (wK kR CT2 369 20)),
 (313,jU (wl kR CB CB 313) (Pb kR CT2 313 20)),
 (28,wK kR CT2 28 1),
 (351,H2 kR CB 351),
 (315,E2 kR CT3 315),
 (271,ZC kR CT3 271 66),
 (270,wK kR CT3 270 66)]
noncomputable def K6:Cx:=CX K6L
instance:EffOk K6:=xI (jR ⟨qz (C:=CT2) (C':=CX K6L) mixedT q0 rfl rfl Tryz.func311 (by simp[Tryz.f311]) (by decide),
 qz (C:=CT2) (C':=CX K6L) mixedT q0 rfl rfl Tryz.func317 (by simp[Tryz.f317]) (by decide),
 xt (xu (C:=CB) (C':=CX K6L) mixedT q0 rfl rfl) (qz (C:=CT2) (C':=CX K6L) mixedT q0 rfl rfl Tryz.func366 (by simp[Tryz.f366]) (by decide)),
 qz (C:=CT2) (C':=CX K6L) mixedT q0 rfl rfl Tryz.func320 (by simp[Tryz.f320]) (by decide),
 qz (C:=CT2) (C':=CX K6L) mixedT q0 rfl rfl Tryz.func27 (by simp[Tryz.f27]) (by decide),
 xt (xu (C:=CB) (C':=CX K6L) mixedT q0 rfl rfl) (ku (C:=CT2) (C':=CX K6L) mixedT q0 rfl rfl Tryz.func353 (by simp[Tryz.f353]) (by decide)),
 xt (xu (C:=CB) (C':=CX K6L) mixedT q0 rfl rfl) (zg (C:=CT2) (C':=CX K6L) mixedT q0 rfl rfl Tryz.func369 (by simp[Tryz.f369]) (by decide)),
 xt (xu (C:=CB) (C':=CX K6L) mixedT q0 rfl rfl) (Xh (C:=CT2) (C':=CX K6L) mixedT q0 rfl rfl Tryz.func313 (by simp[Tryz.f313]) (by decide)),
 zg (C:=CT2) (C':=CX K6L) mixedT q0 rfl rfl Tryz.func28 (by simp[Tryz.f28]) (by decide),
 vt (C:=CB) (C':=CX K6L) mixedT q0 rfl rfl Tryz.func351 (by simp[Tryz.f351]) (by decide),
 Yv (C:=CT3) (C':=CX K6L) mixedT q0 rfl rfl Tryz.func315 (by simp[Tryz.f315]) (by decide),
 ku (C:=CT3) (C':=CX K6L) mixedT q0 rfl rfl Tryz.func271 (by simp[Tryz.f271]) (by decide),
 zg (C:=CT3) (C':=CX K6L) mixedT q0 rfl rfl Tryz.func270 (by simp[Tryz.f270]) (by decide),trivial⟩)
end Eng
end
section
namespace Eng
open Go Go.Proofs
theorem cxP {ex ex':List (Nat×ZV)}:(CX ex).P=(CX ex').P:=rfl
theorem cxG {ex ex':List (Nat×ZV)}:(CX ex).G=(CX ex').G:=rfl
theorem run2 {ex ex':List (Nat×ZV)} [EffOk (CX ex')] {es:List qm} {e:qm} (h:Rv (CX ex) es) (hr:XL (eY es kR) (CX ex') 1000 40 e.1 e.2.2.1=some e.2.2.2):qe (CX ex) e.1 e.2.2.1 e.2.2.2:=
 jT (C:=CX ex') (C':=CX ex) cxP cxG (vk (C:=CX ex') mixedT (Mk (C:=CX ex') (ents:=es) (To (C:=CX ex) (C':=CX ex') cxP cxG h) q0) 40 _ _ _ hr)
theorem eK5:K5=CX K5L:=rfl
theorem eK6:K6=CX K6L:=rfl
instance:EffOk (CX K6L):=inferInstanceAs (EffOk K6)
theorem Aw.r2 {es:List qm} {e:qm} (h:Rv K5 es) (hr:XL (eY es kR) K6 1000 40 e.1 e.2.2.1=some e.2.2.2):Aw.G e:=by
 unfold Aw.G;rw[eK5]at h ⊢;rw[eK6]at hr;exact run2 h hr
end Eng
end
