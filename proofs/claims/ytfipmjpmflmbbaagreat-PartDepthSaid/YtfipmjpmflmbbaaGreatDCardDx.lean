/- PROVED HERE: swarflaw25.PartDepth returns true for every input that can be read as data, and leaves its arguments as they were. No further condition. -/
import Derived.Test.YtfipmjpmflmbbaaGreatDCardR
import Derived.Test.YtfipmjpmflmbbaaGreatDAwk
section
namespace Eng
open Go Go.Proofs
set_option maxRecDepth 100000
theorem eD (al : List A) (h : All2 (DB Tryz.prog 10) [23, 41, 2] al) (hK : AW al) : qc CC 5 al [.c (.bool true)] := by
  match al, h with
  | [a, b, c], h =>
    obtain ⟨l, rfl, hl⟩ := ar h.1
    obtain ⟨x, y, u, rfl, hx, hy, hu⟩ := RB h.2.1
    obtain ⟨z, rfl⟩ := DY h.2.2.1
    exact DA DX hl (hK _ _ _ rfl) hx hy hu
  | [], h => exact h.elim
  | [_], h => exact h.2.elim
  | [_, _], h => exact h.2.2.elim
  | _ :: _ :: _ :: _ :: _, h => exact h.2.2.2.elim
end Eng
namespace Go.Proofs.YtfipmjpmflmbbaaGreat
open Go.ChangeShapes Go.WideShapes Go.ChangeAt Go.RowKit
set_option maxRecDepth 100000 in
theorem Tp (os : Os) (started : os.Started) (H : Type) (enc : TypeId × Value → H) :
    ReturnsInHanded {} Tryz.checked os 5 .any (fun w args => (Rows.partDepthSpec.pre enc Tryz.prog Tryz.f5 [] false w args ∧ laidMetH Tryz.prog Rows.partDepthRow.laid w) ∧ sizedMet enc Tryz.prog Tryz.f5 (OpenSpec.ofChange Rows.partDepthSpec) false w args)
      (Rows.partDepthSpec.post enc Tryz.prog Tryz.f5 false true false false) := by
  refine returnsInHanded_of_change_and (C := Tryz.checked) (X := fun w _ => laidMetH Tryz.prog Rows.partDepthRow.laid w) (fun _ _ _ hh h => h.of_heap hh) Eng.ownK started (by kernel_rfl) Tryz.func5
    (ChangeSpec.witness_shaped (enc := enc) (C := Tryz.checked) (os := os) (X := fun w _ => laidMetH Tryz.prog Rows.partDepthRow.laid w) false (World.laidAll Tryz.prog os Rows.partDepthRow.laid) #[.slice none 0 0, .agg #[.int .i16 0, .int .i16 0, .int .u8 0], .int .i64 0] 8 (World.laidAll_os _ _ _)
      (World.shaped_of_ZipB (by kernel_rfl) (by kernel_rfl)) (by kernel_rfl) (by kernel_rfl) (by kernel_rfl)
      (by rw [MakeChecks.laidMetH_plain _ _ _ (by kernel_rfl)]; exact laidMet_laidAll _ (by kernel_rfl) (by kernel_rfl))) ?_
  intro W base args ds gs before hval hW _ hwt _ _
  have hrd : (Tryz.f5.params.toList.all fun t => Tryz.prog.readableRec t && (decide (t < Tryz.prog.types.size) && (Eng.zD Tryz.prog 10 t).isSome)) = true := by kernel_rfl
  have hp : Tryz.f5.params = #[23, 41, 2] := by kernel_rfl
  refine Eng.mJ (C := Eng.CC) (K := Eng.AW) (m := 10) (bt := 4) Eng.nR Tryz.underlying4 (by kernel_rfl) (fun t ht => ?_) rfl (fun ds hds => ?_) (fun al h hK => ?_) Eng.nS hval hW (fun al p h1 h2 => ?_)
  · have := List.all_eq_true.1 hrd t ht
    simp only [Bool.and_eq_true, decide_eq_true_eq] at this
    exact ⟨this.1, this.2.1, this.2.2⟩
  · have h2 : Tryz.f5.params.size = 3 := by kernel_rfl
    rw [h2] at hds
    match ds, hds with
    | [d1, d2, d3], _ => rfl
  · rw [hp] at h
    exact Eng.eD al h hK
  · rw [hp] at h2 hwt
    exact Eng.nU h1 h2 hwt
theorem GE : (Rows.partDepthRow.inPlace == Tryz.pinned.checked.prog.inPlace 5) = true := by kernel_rfl
theorem J2 : (Rows.partDepthRow.unfollowed == Tryz.pinned.checked.prog.unfollowed 5) = true := by kernel_rfl
theorem VV : (Rows.partDepthRow.recurses == Tryz.pinned.checked.prog.recurses 5) = true := by kernel_rfl
theorem OL : (Rows.partDepthRow.named == Tryz.pinned.checked.prog.varsNamed 5) = true := by kernel_rfl
theorem ao : Rows.partDepthRow.wf (OpenSpec.ofChange Rows.partDepthSpec) = true := by kernel_rfl
theorem GF : laidOutB Tryz.pinned.checked.prog = true := by kernel_rfl
theorem W4 : mapsRowed Tryz.pinned.checked.prog = true := by kernel_rfl
theorem OM : Tryz.pinned.checked.prog.mayEnter = true := by kernel_rfl
theorem ON : Tryz.pinned.checked.prog.stopsHeard = true := by kernel_rfl
theorem Tq : (Rows.partDepthRow.lifted == Tryz.pinned.checked.prog.liftsFinal) = true := by kernel_rfl
theorem R6 : (Rows.partDepthRow.plainKeys == Tryz.pinned.checked.prog.plainKeys) = true := by kernel_rfl
theorem Tt : joinedFacts Tryz.pinned.checked.prog 5 Tryz.f5 Rows.partDepthSpec Rows.partDepthRow = true := by
  unfold joinedFacts
  rw [GE, J2, VV, OL, ao, GF, W4, OM, ON, Tq, R6]
  kernel_rfl
theorem R7 : Tryz.pinned.checked.prog.funcNamed Rows.partDepthRow.func = some 5 := by kernel_rfl
theorem R8 : Tryz.f5.isWrapper Tryz.pinned.checked.prog Rows.partDepthRow.wrapper Rows.partDepthRow.mainSum := by
  unfold Func.isWrapper; first | (rw [if_pos (by decide +kernel)]; kernel_rfl) | (rw [if_neg (by decide +kernel)]; exact ⟨rfl, rfl⟩)
theorem R9 : Tryz.f5.isInstance Tryz.pinned.checked.prog Rows.partDepthRow.origin Rows.partDepthRow.targs := of_decide_eq_true (by kernel_rfl)
theorem RA {H : Type} (enc : TypeId × Value → H) : (fun w args => (Rows.partDepthSpec.pre enc Tryz.prog Tryz.f5 [] false w args ∧ laidMetH Tryz.prog Rows.partDepthRow.laid w) ∧ sizedMet enc Tryz.prog Tryz.f5 (OpenSpec.ofChange Rows.partDepthSpec) false w args) =
    OpenClaim.pre enc Tryz.pinned.checked.prog Tryz.f5 (OpenSpec.ofChange Rows.partDepthSpec) Rows.partDepthRow :=
  funext fun _ => funext fun _ => propext ⟨fun h => ⟨h.1.1, h.2⟩, fun h => ⟨⟨h.1, ⟨[], (rfl : ([] : List MemPlace) = []), List.nodup_nil, fun _ _ h => by cases h⟩⟩, h.2⟩⟩
theorem partDepth_holds : Rows.PartDepthSaid :=
  OpenClaim.holds_of_wide 5 Tryz.f5 rfl rfl rfl rfl rfl rfl rfl ⟨rfl, rfl, rfl, rfl, rfl⟩ rfl rfl rfl rfl rfl R7 Tryz.func5 Tt R9 R8
    (fun os started H enc _ => by
      have h := Tp os started H enc
      rw [RA] at h
      exact h)
#print axioms partDepth_holds
end Go.Proofs.YtfipmjpmflmbbaaGreat
end
