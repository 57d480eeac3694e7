/- The laws of this seat: what the rows' condition gives; the frame of a row's proof. -/
import Derived.Test.YtkkodaemmgpgfaaGreatDoorRdA
import Derived.Test.YtkkodaemmgpgfaaGreatDoorCtxB
import Derived.Test.YtkkodaemmgpgfaaGreatDoorRows
import Derived.Test.YtkkodaemmgpgfaaGreatDoorCards
import Derived.Test.YtkkodaemmgpgfaaGreatDoorTie
import Derived.ProofKit
import Derived.LaidMore
import Derived.Lay
import Derived.SevenTiedAt
import Derived.Stop.Joined
section
namespace Eng
open Go Go.Proofs Go.ChangeShapes Go.WideShapes Go.ChangeAt Go.RowKit
set_option maxRecDepth 100000
theorem ownK : ownKnob Tryz.prog.godebug = none := by kernel_rfl
theorem laidOutP : laidOutB Tryz.prog = true := by kernel_rfl
def pow10Z : List Int := [1, 10, 100, 1000, 10000, 100000, 1000000, 10000000, 100000000, 1000000000, 10000000000, 100000000000, 1000000000000, 10000000000000, 100000000000000, 1000000000000000, 10000000000000000, 100000000000000000, 1000000000000000000, 10000000000000000000]
theorem all2_ints {w : World} {F : Nat → Prop} {k : IntKind} : ∀ l : List Int, All2 (CD w F) (l.map (D.int k)) (l.map (Value.int k))
  | [] => trivial
  | _ :: l => ⟨.int _ _, all2_ints l⟩
theorem laid_ints {W : World} {name : String} {g t e : Nat} {k : IntKind} {n : Nat} {zs : List Int} {cs : Array Value} {fuel : Nat} {p : List MemPlace} {H : Type} {enc : TypeId × Value → H} {sp : Nat → Bool} {held : Bool}
    (hg : Tryz.prog.globalNamed name = some g) (hv : W.var? Tryz.prog name = some cs) (ht : Tryz.prog.underlying t = some (.array n e)) (he : Tryz.prog.underlying e = some (.int k)) (hc : Tryz.prog.cellsOf e = 1) (hn : zs.length = n) (hct : Tryz.prog.cellsOf t = n)
    (hd : DataW.trod enc Tryz.prog W 0 sp held fuel t cs.toList = some (.agg (zs.map fun z => .lit (.int k z)), p)) :
    ∃ (t' : TypeId) (fr : Nat × Nat), W.heap[g]? = some (.cells cs t' fr) ∧ cs.toList = zs.map (Value.int k) := by
  have hb : ∃ (t' : TypeId) (fr : Nat × Nat), W.heap[g]? = some (.cells cs t' fr) := by
    unfold World.var? at hv
    rw [hg] at hv
    simp only [Option.bind_some] at hv
    split at hv
    · rename_i cs' t' fr hh
      simp only [Option.some.injEq] at hv
      subst hv
      exact ⟨_, _, hh⟩
    · simp at hv
  obtain ⟨t', fr, hb⟩ := hb
  refine ⟨t', fr, hb, ?_⟩
  obtain ⟨xs, m, _, ex, hlen, hl, hel⟩ := DataW.trod_array ht hd
  have e3 : (xs.map (·.1)) = zs.map fun z => .lit (.int k z) := (DataW.agg.inj (Prod.mk.inj ex).1).symm
  rw [hct] at hlen
  apply List.ext_getElem
  · rw [hlen, List.length_map, hn]
  · intro i h1 h2
    have hi : i < n := by omega
    have hE := hel i hi
    rw [hc, Nat.mul_one, List.getElem?_eq_getElem (by omega)] at hE
    obtain ⟨z, e1, e2, _⟩ := DataW.trod_int he hE
    have e4 : (xs.map (·.1))[i]? = (zs.map fun z => (DataW.lit (.int k z) : DataW H))[i]? := by rw [e3]
    rw [List.getElem?_map, List.getElem?_map, List.getElem?_eq_getElem (by omega : i < xs.length), List.getElem?_eq_getElem (by omega : i < zs.length), e2] at e4
    simp only [Option.map_some, Option.some.injEq, DataW.lit.injEq, Lit.int.injEq, true_and] at e4
    have h0 : ((cs.toList.drop i).take 1)[0]? = some (.int k z) := by rw [e1]; rfl
    have h3 : cs.toList[i]? = some (.int k z) := by simpa using h0
    rw [List.getElem?_eq_getElem h1] at h3
    rw [Option.some.inj h3, List.getElem_map, e4]
theorem inv_of_laid {W : World} (h : laidMetH Tryz.prog YtkkodaemmgpgfaaGreatDoor.Rows.coverDistancesRow.laid W) : Inv CC (fun b => b < W.heap.size) W := by
  intro g cs hg
  replace hg : gvar g = some cs := hg
  unfold gvar at hg
  split at hg
  · simp only [Option.some.injEq] at hg
    subst hg
    rw [MakeChecks.laidMetH_plain _ _ _ (by kernel_rfl)] at h
    obtain ⟨ps, ⟨g0, t0, cs0, f0, p0, q0, hg0, ht0, hv0, hd0, ⟨g1, t1, cs1, f1, p1, q1, hg1, ht1, hv1, hd1, ⟨g, t, cs, fuel, p, q, hg, ht, hv, hd, _, _⟩, _⟩, _⟩, _, _⟩ := h
    obtain rfl := Option.some.inj ((show Tryz.prog.globalNamed "internal/strconv.uint64pow10" = some 1 by kernel_rfl).symm.trans hg)
    obtain rfl := Option.some.inj ((show (Tryz.prog.globals[1]?).map (·.type) = some 357 by kernel_rfl).symm.trans ht)
    have hu : Tryz.prog.underlying 357 = some (.array 20 182) := by kernel_rfl
    obtain ⟨t', fr, h1, h2⟩ := laid_ints (zs := pow10Z) (k := .u64) hg hv hu (by kernel_rfl) (by kernel_rfl) rfl (by kernel_rfl) hd
    refine ⟨(Array.getElem?_eq_some_iff.1 h1).1, cs, t', fr, h1, ?_⟩
    rw [h2]
    exact all2_ints pow10Z
  · simp at hg
end Eng
end
