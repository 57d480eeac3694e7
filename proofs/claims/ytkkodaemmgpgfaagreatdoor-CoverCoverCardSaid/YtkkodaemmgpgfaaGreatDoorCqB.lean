/- The law CoverQuarter. -/
import Derived.Test.YtkkodaemmgpgfaaGreatDoorCqA
section
namespace Eng
open Go Go.Proofs
set_option maxRecDepth 100000
theorem eff_cq {ck : Ck1} {mk : Mk1} {cd : Ck2} {md : Mk2} (h1 : ∀ al, ck al = true → mk al ≠ [] ∧ GivesC CC 18 al none [] 16 (mk al))
 (h3 : ∀ es al, cd es al = true → es ≠ [] ∧ md es al ≠ [] ∧ GivesC CC 33 [] (some (16, es)) al 16 (md es al)) : EffOk (CQx ck mk cd md) :=
 effOk_all (effX_ok ⟨
  effAt_cl Tryz.func18 (by simp [Tryz.f18]) (by decide) fun al h => ⟨(h1 al h).1, givesC_cx (C := CC) rfl rfl (h1 al h).2⟩,
  effAt_co Tryz.func33 (by simp [Tryz.f33]) (by decide) fun es al h => ⟨(h3 es al h).1, (h3 es al h).2.1, givesC_cx (C := CC) rfl rfl (h3 es al h).2.2⟩, trivial⟩)
noncomputable def yesB (p : Prop) : Bool := @decide p (Classical.propDecidable p)
theorem yesB_iff {p : Prop} : yesB p = true ↔ p := by unfold yesB; exact @decide_eq_true_iff p (Classical.propDecidable p)
end Eng
end
