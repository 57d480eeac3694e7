/- PROVED HERE: swarflaw25.PartLevels returns true for every input that can be read as data, and leaves its arguments as they were. No further condition. -/
import Derived.Test.YtfipmjpmflmbbaaGreatCardP
import Derived.Test.YtfipmjpmflmbbaaGreatPbA
import Derived.Test.YtfipmjpmflmbbaaGreatAwk
section
namespace Eng
open Go Go.Proofs
set_option maxRecDepth 100000
theorem eB (al : List A) (h : All2 (Dw Tryz.prog 10) [23, 9] al) (hK : AD al) : qe CC 3 al [.c (.bool true)] := by
  match al, h with
  | [a, b], h =>
    obtain ⟨l, rfl, hl⟩ := Tm h.1
    obtain ⟨s, rfl⟩ := DI h.2.1
    exact Rk Ms hl (hK _ _ _ rfl)
  | [], h => exact h.elim
  | [_], h => exact h.2.elim
  | _ :: _ :: _ :: _, h => exact h.2.2.elim
end Eng
namespace Go.Proofs.YtfipmjpmflmbbaaGreat
open Go.ChangeShapes Go.WideShapes Go.ChangeAt Go.RowKit
set_option maxRecDepth 100000 in
theorem Tn (os : Os) (started : os.Started) (H : Type) (enc : TypeId × Value → H) :
    ReturnsInHanded {} Tryz.checked os 3 .any (fun w args => (Rows.partLevelsSpec.pre enc Tryz.prog Tryz.f3 [] false w args ∧ laidMetH Tryz.prog Rows.partLevelsRow.laid w) ∧ sizedMet enc Tryz.prog Tryz.f3 (OpenSpec.ofChange Rows.partLevelsSpec) false w args)
      (Rows.partLevelsSpec.post enc Tryz.prog Tryz.f3 false true false false) := by
  refine returnsInHanded_of_change_and (C := Tryz.checked) (X := fun w _ => laidMetH Tryz.prog Rows.partLevelsRow.laid w) (fun _ _ _ hh h => h.of_heap hh) Eng.ownK started (by kernel_rfl) Tryz.func3
    (ChangeSpec.witness_shaped (enc := enc) (C := Tryz.checked) (os := os) (X := fun w _ => laidMetH Tryz.prog Rows.partLevelsRow.laid w) false (World.laidAll Tryz.prog os Rows.partLevelsRow.laid) #[.slice none 0 0, .string ByteArray.empty] 8 (World.laidAll_os _ _ _)
      (World.shaped_of_ZipB (by kernel_rfl) (by kernel_rfl)) (by kernel_rfl) (by kernel_rfl) (by kernel_rfl)
      (by rw [MakeChecks.laidMetH_plain _ _ _ (by kernel_rfl)]; exact laidMet_laidAll _ (by kernel_rfl) (by kernel_rfl))) ?_
  intro W base args ds gs before hval hW _ hwt _ _
  have hrd : (Tryz.f3.params.toList.all fun t => Tryz.prog.readableRec t && (decide (t < Tryz.prog.types.size) && (Eng.zI Tryz.prog 10 t).isSome)) = true := by kernel_rfl
  have hp : Tryz.f3.params = #[23, 9] := by kernel_rfl
  refine Eng.mJ (C := Eng.CC) (K := Eng.AD) (m := 10) (bt := 4) Eng.nR Tryz.underlying4 (by kernel_rfl) (fun t ht => ?_) rfl (fun ds hds => ?_) (fun al h hK => ?_) Eng.nS hval hW (fun al p h1 h2 => ?_)
  · have := List.all_eq_true.1 hrd t ht
    simp only [Bool.and_eq_true, decide_eq_true_eq] at this
    exact ⟨this.1, this.2.1, this.2.2⟩
  · have h2 : Tryz.f3.params.size = 2 := by kernel_rfl
    rw [h2] at hds
    match ds, hds with
    | [d1, d2], _ => rfl
  · rw [hp] at h
    exact Eng.eB al h hK
  · rw [hp] at h2 hwt
    exact Eng.nT h1 h2 hwt
theorem cell_inPlace : (Rows.partLevelsRow.inPlace == Tryz.pinned.checked.prog.inPlace 3) = true := by kernel_rfl
theorem cell_unfollowed : (Rows.partLevelsRow.unfollowed == Tryz.pinned.checked.prog.unfollowed 3) = true := by kernel_rfl
theorem cell_recurses : (Rows.partLevelsRow.recurses == Tryz.pinned.checked.prog.recurses 3) = true := by kernel_rfl
theorem cell_named : (Rows.partLevelsRow.named == Tryz.pinned.checked.prog.varsNamed 3) = true := by kernel_rfl
theorem cell_wf : Rows.partLevelsRow.wf (OpenSpec.ofChange Rows.partLevelsSpec) = true := by kernel_rfl
theorem cell_laidOut : laidOutB Tryz.pinned.checked.prog = true := by kernel_rfl
theorem cell_mapsRowed : mapsRowed Tryz.pinned.checked.prog = true := by kernel_rfl
theorem cell_enter : Tryz.pinned.checked.prog.mayEnter = true := by kernel_rfl
theorem cell_heard : Tryz.pinned.checked.prog.stopsHeard = true := by kernel_rfl
theorem cell_lifted : (Rows.partLevelsRow.lifted == Tryz.pinned.checked.prog.liftsFinal) = true := by kernel_rfl
theorem cell_keys : (Rows.partLevelsRow.plainKeys == Tryz.pinned.checked.prog.plainKeys) = true := by kernel_rfl
theorem cell_joined : joinedFacts Tryz.pinned.checked.prog 3 Tryz.f3 Rows.partLevelsSpec Rows.partLevelsRow = true := by
  unfold joinedFacts
  rw [cell_inPlace, cell_unfollowed, cell_recurses, cell_named, cell_wf, cell_laidOut, cell_mapsRowed, cell_enter, cell_heard, cell_lifted, cell_keys]
  kernel_rfl
theorem cell_name : Tryz.pinned.checked.prog.funcNamed Rows.partLevelsRow.func = some 3 := by kernel_rfl
theorem cell_wrap : Tryz.f3.isWrapper Tryz.pinned.checked.prog Rows.partLevelsRow.wrapper Rows.partLevelsRow.mainSum := by
  unfold Func.isWrapper; first | (rw [if_pos (by decide +kernel)]; kernel_rfl) | (rw [if_neg (by decide +kernel)]; exact ⟨rfl, rfl⟩)
theorem cell_inst : Tryz.f3.isInstance Tryz.pinned.checked.prog Rows.partLevelsRow.origin Rows.partLevelsRow.targs := of_decide_eq_true (by kernel_rfl)
theorem pre_plain {H : Type} (enc : TypeId × Value → H) : (fun w args => (Rows.partLevelsSpec.pre enc Tryz.prog Tryz.f3 [] false w args ∧ laidMetH Tryz.prog Rows.partLevelsRow.laid w) ∧ sizedMet enc Tryz.prog Tryz.f3 (OpenSpec.ofChange Rows.partLevelsSpec) false w args) =
    OpenClaim.pre enc Tryz.pinned.checked.prog Tryz.f3 (OpenSpec.ofChange Rows.partLevelsSpec) Rows.partLevelsRow :=
  funext fun _ => funext fun _ => propext ⟨fun h => ⟨h.1.1, h.2⟩, fun h => ⟨⟨h.1, ⟨[], (rfl : ([] : List MemPlace) = []), List.nodup_nil, fun _ _ h => by cases h⟩⟩, h.2⟩⟩
theorem partLevels_holds : Rows.PartLevelsSaid :=
  OpenClaim.holds_of_wide 3 Tryz.f3 rfl rfl rfl rfl rfl rfl rfl ⟨rfl, rfl, rfl, rfl, rfl⟩ rfl rfl rfl rfl rfl cell_name Tryz.func3 cell_joined cell_inst cell_wrap
    (fun os started H enc _ => by
      have h := Tn os started H enc
      rw [pre_plain] at h
      exact h)
#print axioms partLevels_holds
end Go.Proofs.YtfipmjpmflmbbaaGreat
end
