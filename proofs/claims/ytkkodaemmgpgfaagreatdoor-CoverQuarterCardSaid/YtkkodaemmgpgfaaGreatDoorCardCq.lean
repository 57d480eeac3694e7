/- PROVED HERE: swarflaw19.CoverQuarter returns true for every box and number that can be read as data, and leaves its arguments as they were. Conditions: those of the given card alone (package-level variables as the program's text lays them). -/
import Derived.Test.YtkkodaemmgpgfaaGreatDoorCardB
import Derived.Test.YtkkodaemmgpgfaaGreatDoorCqB
import Derived.Test.YtkkodaemmgpgfaaGreatDoorAwk
section
namespace Eng
open Go Go.Proofs
set_option maxRecDepth 100000
theorem quar_gives (al : List A) (h : All2 (hasA Tryz.prog 10) [28, 5] al) : Gives CC 6 al [.c (.bool true)] := by
  match al, h with
  | [a, b], h =>
    obtain ⟨x, y, z, w, rfl⟩ := hasA_box h.1
    obtain ⟨n, rfl, h0, h1⟩ := hasA_u8 h.2.1
    exact lQuarter_ok awake_ok ⟨x, y, z, w⟩ h0 h1
  | [], h => exact h.elim
  | [_], h => exact h.2.elim
  | _ :: _ :: _ :: _, h => exact h.2.2.elim
end Eng
namespace Go.Proofs.YtkkodaemmgpgfaaGreatDoor
open Go.ChangeShapes Go.WideShapes Go.ChangeAt Go.RowKit
def ratZ : List Value := [.bool false, .slice none 0 0, .bool false, .slice none 0 0]
def boxZ : Value := .agg (ratZ ++ ratZ ++ ratZ ++ ratZ).toArray
set_option maxRecDepth 100000 in
theorem quar_lifted (os : Os) (started : os.Started) (H : Type) (enc : TypeId × Value → H) :
    ReturnsInHanded {} Tryz.checked os 6 .any (fun w args => (Rows.coverQuarterSpec.pre enc Tryz.prog Tryz.f6 [] false w args ∧ laidMetH Tryz.prog Rows.coverQuarterRow.laid w) ∧ sizedMet enc Tryz.prog Tryz.f6 (OpenSpec.ofChange Rows.coverQuarterSpec) false w args)
      (Rows.coverQuarterSpec.post enc Tryz.prog Tryz.f6 false true false false) := by
  refine returnsInHanded_of_change_and (C := Tryz.checked) (X := fun w _ => laidMetH Tryz.prog Rows.coverQuarterRow.laid w) (fun _ _ _ hh h => h.of_heap hh) Eng.ownK started (by kernel_rfl) Tryz.func6
    (ChangeSpec.witness_shaped (enc := enc) (C := Tryz.checked) (os := os) (X := fun w _ => laidMetH Tryz.prog Rows.coverQuarterRow.laid w) false (World.laidAll Tryz.prog os Rows.coverQuarterRow.laid) #[boxZ, .int .u8 0] 8 (World.laidAll_os _ _ _)
      (World.shaped_of_ZipB (by kernel_rfl) (by kernel_rfl)) (by kernel_rfl) (by kernel_rfl) (by kernel_rfl)
      (by rw [MakeChecks.laidMetH_plain _ _ _ (by kernel_rfl)]; exact laidMet_laidAll _ (by kernel_rfl) (by kernel_rfl))) ?_
  intro W base args ds gs before hval hW _ _ hL _
  have hrd : (Tryz.f6.params.toList.all fun t => Tryz.prog.readableRec t && (decide (t < Tryz.prog.types.size) && (Eng.cellTys Tryz.prog 10 t).isSome)) = true := by kernel_rfl
  refine Eng.law_call (C := Eng.CC) (m := 10) (bt := 4) Eng.laidOutP Tryz.underlying4 (by kernel_rfl) (fun t ht => ?_) rfl (fun ds hds => ?_) (fun al h => ?_) (Eng.inv_of_laid hL) hval hW
  · have := List.all_eq_true.1 hrd t ht
    simp only [Bool.and_eq_true, decide_eq_true_eq] at this
    exact ⟨this.1, this.2.1, this.2.2⟩
  · have h2 : Tryz.f6.params.size = 2 := by kernel_rfl
    rw [h2] at hds
    match ds, hds with
    | [d1, d2], _ => rfl
  · have hp : Tryz.f6.params = #[28, 5] := by kernel_rfl
    rw [hp] at h
    exact Eng.quar_gives al h
theorem cell_inPlace : (Rows.coverQuarterRow.inPlace == Tryz.pinned.checked.prog.inPlace 6) = true := by kernel_rfl
theorem cell_unfollowed : (Rows.coverQuarterRow.unfollowed == Tryz.pinned.checked.prog.unfollowed 6) = true := by kernel_rfl
theorem cell_recurses : (Rows.coverQuarterRow.recurses == Tryz.pinned.checked.prog.recurses 6) = true := by kernel_rfl
theorem cell_named : (Rows.coverQuarterRow.named == Tryz.pinned.checked.prog.varsNamed 6) = true := by kernel_rfl
theorem cell_wf : Rows.coverQuarterRow.wf (OpenSpec.ofChange Rows.coverQuarterSpec) = true := by kernel_rfl
theorem cell_laidOut : laidOutB Tryz.pinned.checked.prog = true := by kernel_rfl
theorem cell_mapsRowed : mapsRowed Tryz.pinned.checked.prog = true := by kernel_rfl
theorem cell_enter : Tryz.pinned.checked.prog.mayEnter = true := by kernel_rfl
theorem cell_heard : Tryz.pinned.checked.prog.stopsHeard = true := by kernel_rfl
theorem cell_lifted : (Rows.coverQuarterRow.lifted == Tryz.pinned.checked.prog.liftsFinal) = true := by kernel_rfl
theorem cell_keys : (Rows.coverQuarterRow.plainKeys == Tryz.pinned.checked.prog.plainKeys) = true := by kernel_rfl
theorem cell_joined : joinedFacts Tryz.pinned.checked.prog 6 Tryz.f6 Rows.coverQuarterSpec Rows.coverQuarterRow = true := by
  unfold joinedFacts
  rw [cell_inPlace, cell_unfollowed, cell_recurses, cell_named, cell_wf, cell_laidOut, cell_mapsRowed, cell_enter, cell_heard, cell_lifted, cell_keys]
  kernel_rfl
theorem cell_name : Tryz.pinned.checked.prog.funcNamed Rows.coverQuarterRow.func = some 6 := by kernel_rfl
theorem cell_wrap : Tryz.f6.isWrapper Tryz.pinned.checked.prog Rows.coverQuarterRow.wrapper Rows.coverQuarterRow.mainSum := by
  unfold Func.isWrapper; first | (rw [if_pos (by decide +kernel)]; kernel_rfl) | (rw [if_neg (by decide +kernel)]; exact ⟨rfl, rfl⟩)
theorem cell_inst : Tryz.f6.isInstance Tryz.pinned.checked.prog Rows.coverQuarterRow.origin Rows.coverQuarterRow.targs := of_decide_eq_true (by kernel_rfl)
theorem coverQuarter_holds : Rows.CoverQuarterSaid :=
  OpenClaim.holds_of_wide 6 Tryz.f6 rfl rfl rfl rfl rfl rfl rfl ⟨rfl, rfl, rfl, rfl, rfl⟩ rfl rfl rfl rfl rfl cell_name Tryz.func6 cell_joined cell_inst cell_wrap
    (fun os started H enc _ => quar_lifted os started H enc)
theorem cell_text : Rows.coverQuarterRow.wfByText (OpenSpec.ofChange Rows.coverQuarterSpec) = true := by kernel_rfl
theorem cell_main : Tryz.pinned.checked.prog.mainIs = some (true, "e719625e60fb266ad019ca96d3db21a2b65ef0fb0f1ee13099a318514e3a4052".toList) := by kernel_rfl
theorem cell_looks : false = Tryz.pinned.checked.prog.looks [] := by kernel_rfl
theorem cell_goes : false = Rows.coverQuarterRow.goesBy Tryz.pinned.checked.prog := by kernel_rfl
theorem cell_stand : ([28, 5].all fun u => !Tryz.prog.wantsStandIn u) = true := by kernel_rfl
theorem coverQuarter_card : Rows.CoverQuarterCardSaid :=
  Claim7.holds_tied_plain_at .later [] [.data, .data, .data] true (true, "e719625e60fb266ad019ca96d3db21a2b65ef0fb0f1ee13099a318514e3a4052") false coverQuarter_holds (fun _ h => by cases h) cell_text (fun _ h => by cases h) coverQuarter_row_tie rfl ⟨rfl, rfl⟩ cell_main rfl
    (fun f fn hf hfn => by
      obtain rfl : f = 6 := Option.some.inj (cell_name.symm.trans hf) |>.symm
      obtain rfl : fn = Tryz.f6 := (Option.some.inj (Tryz.func6.symm.trans hfn)).symm
      exact ⟨cell_looks, fun j t ht => by
        have hp : Tryz.f6.params = #[28, 5] := by kernel_rfl
        rw [hp] at ht
        have hm : t ∈ [28, 5] := by simpa using Array.mem_of_getElem? ht
        exact (show Tryz.prog.wantsStandIn t = false by simpa using List.all_eq_true.1 cell_stand t hm)⟩)
    cell_goes
#print axioms coverQuarter_card
end Go.Proofs.YtkkodaemmgpgfaaGreatDoor
end
