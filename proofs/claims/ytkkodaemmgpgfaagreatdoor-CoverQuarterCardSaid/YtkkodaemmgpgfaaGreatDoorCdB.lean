/- The law CoverDistances: Far and Near (the program's and the reference's). -/
import Derived.Test.YtkkodaemmgpgfaaGreatDoorCdA
section
namespace Eng
open Go Go.Proofs
set_option maxRecDepth 100000
def encB (a b c d : Rat) : A := .ag (cR a ++ (cR b ++ (cR c ++ cR d)))
theorem encB_cells (a b c d : Rat) : encB a b c d = .ag [.bool (decide (a.num < 0)), .sl (raw (lim a.num.natAbs)), .bool (decide ((a.den : Int) < 0)), .sl (raw (lim (a.den : Int).natAbs)),
 .bool (decide (b.num < 0)), .sl (raw (lim b.num.natAbs)), .bool (decide ((b.den : Int) < 0)), .sl (raw (lim (b.den : Int).natAbs)),
 .bool (decide (c.num < 0)), .sl (raw (lim c.num.natAbs)), .bool (decide ((c.den : Int) < 0)), .sl (raw (lim (c.den : Int).natAbs)),
 .bool (decide (d.num < 0)), .sl (raw (lim d.num.natAbs)), .bool (decide ((d.den : Int) < 0)), .sl (raw (lim (d.den : Int).natAbs))] := rfl
def clR (x lo hi : Rat) : Rat := if x < lo then lo else if hi < x then hi else x
theorem Sz.cl {k : Nat} {x lo hi : Rat} (hx : Sz k x) (hl : Sz k lo) (hh : Sz k hi) : Sz k (clR x lo hi) := by
 unfold clR; split
 ·exact hl
 ·split
  ·exact hh
  ·exact hx
theorem eclamp_ok {x lo hi : Rat} (hx : Sr x) (hl : Sr lo) (hh : Sr hi) : Gives CC 54 [encR x, encR lo, encR hi] [encR (clR x lo hi)] := by
 have h1 := uCmp_ok hx hl
 have h2 := uCmp_ok hx hh
 refine wpF_ok (anns := fun _ => ⟨[], [], fun _ _ => True, fun _ => 0⟩) mixedT Tryz.func54 ?_
 rw [encR_cells x, encR_cells lo, encR_cells hi, vc_eclamp]
 refine ⟨_, h1, brd (fun h => ?_) (fun h => ⟨_, h2, brd (fun h' => ?_) (fun h' => ?_)⟩)⟩
 ·rw [cmpR_lt] at h; unfold clR; rw [if_pos h]; rfl
 ·rw [cmpR_lt] at h; rw [cmpR_gt] at h'; unfold clR; rw [if_neg h, if_pos h']; rfl
 ·rw [cmpR_lt] at h; rw [cmpR_gt] at h'; unfold clR; rw [if_neg h, if_neg h']; rfl
end Eng
end
