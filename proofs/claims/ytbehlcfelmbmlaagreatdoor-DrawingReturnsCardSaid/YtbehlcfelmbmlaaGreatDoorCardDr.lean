/- PROVED HERE: swarflaw22.DrawingReturns returns true for every input that can be read as data, and leaves its arguments as they were. Conditions: those of the given card alone (package-level variables as the program's text lays them). -/
import Derived.Test.YtbehlcfelmbmlaaGreatDoorCardD
import Derived.Test.YtbehlcfelmbmlaaGreatDoorAwk
import Derived.Test.YtbehlcfelmbmlaaGreatDoorDcC
section
namespace Eng
open Go Go.Proofs
set_option maxRecDepth 100000
theorem Fk (al : List A) (h : All2 (PH Tryz.prog 10) [9] al) : qf CC 5 al [.c (.bool true)] := by
  match al, h with
  | [a], h =>
    obtain ⟨s, rfl⟩ := HM h.1
    exact GL Wk s
  | [], h => exact h.elim
  | _ :: _ :: _, h => exact h.2.elim
end Eng
namespace Go.Proofs.YtbehlcfelmbmlaaGreatDoor
open Go.ChangeShapes Go.WideShapes Go.ChangeAt Go.RowKit
set_option maxRecDepth 100000 in
theorem Gr (os : Os) (started : os.Started) (H : Type) (enc : TypeId × Value → H) :
    ReturnsInHanded {} Tryz.checked os 5 .any (fun w args => (Rows.drawingReturnsSpec.pre enc Tryz.prog Tryz.f5 [] false w args ∧ laidMetH Tryz.prog Rows.drawingReturnsRow.laid w) ∧ sizedMet enc Tryz.prog Tryz.f5 (OpenSpec.ofChange Rows.drawingReturnsSpec) false w args)
      (Rows.drawingReturnsSpec.post enc Tryz.prog Tryz.f5 false true false false) := by
  refine returnsInHanded_of_change_and (C := Tryz.checked) (X := fun w _ => laidMetH Tryz.prog Rows.drawingReturnsRow.laid w) (fun _ _ _ hh h => h.of_heap hh) Eng.ownK started (by kernel_rfl) Tryz.func5
    (ChangeSpec.witness_shaped (enc := enc) (C := Tryz.checked) (os := os) (X := fun w _ => laidMetH Tryz.prog Rows.drawingReturnsRow.laid w) false (World.laidAll Tryz.prog os Rows.drawingReturnsRow.laid) #[.string ByteArray.empty] 8 (World.laidAll_os _ _ _)
      (World.shaped_of_ZipB (by kernel_rfl) (by kernel_rfl)) (by kernel_rfl) (by kernel_rfl) (by kernel_rfl)
      (by rw [MakeChecks.laidMetH_plain _ _ _ (by kernel_rfl)]; exact laidMet_laidAll _ (by kernel_rfl) (by kernel_rfl))) ?_
  intro W base args ds gs before hval hW _ _ hL _
  have hrd : (Tryz.f5.params.toList.all fun t => Tryz.prog.readableRec t && (decide (t < Tryz.prog.types.size) && (Eng.zw Tryz.prog 10 t).isSome)) = true := by kernel_rfl
  refine Eng.Io (C := Eng.CC) (m := 10) (bt := 4) Eng.AU Tryz.underlying4 (by kernel_rfl) (fun t ht => ?_) rfl (fun ds hds => ?_) (fun al h => ?_) (Eng.CL hL) hval hW
  · have := List.all_eq_true.1 hrd t ht
    simp only [Bool.and_eq_true, decide_eq_true_eq] at this
    exact ⟨this.1, this.2.1, this.2.2⟩
  · have h2 : Tryz.f5.params.size = 1 := by kernel_rfl
    rw [h2] at hds
    match ds, hds with
    | [d1], _ => rfl
  · have hp : Tryz.f5.params = #[9] := by kernel_rfl
    rw [hp] at h
    exact Eng.Fk al h
theorem cell_inPlace : (Rows.drawingReturnsRow.inPlace == Tryz.pinned.checked.prog.inPlace 5) = true := by kernel_rfl
theorem cell_unfollowed : (Rows.drawingReturnsRow.unfollowed == Tryz.pinned.checked.prog.unfollowed 5) = true := by kernel_rfl
theorem cell_recurses : (Rows.drawingReturnsRow.recurses == Tryz.pinned.checked.prog.recurses 5) = true := by kernel_rfl
theorem cell_named : (Rows.drawingReturnsRow.named == Tryz.pinned.checked.prog.varsNamed 5) = true := by kernel_rfl
theorem cell_wf : Rows.drawingReturnsRow.wf (OpenSpec.ofChange Rows.drawingReturnsSpec) = true := by kernel_rfl
theorem cell_laidOut : laidOutB Tryz.pinned.checked.prog = true := by kernel_rfl
theorem cell_mapsRowed : mapsRowed Tryz.pinned.checked.prog = true := by kernel_rfl
theorem cell_enter : Tryz.pinned.checked.prog.mayEnter = true := by kernel_rfl
theorem cell_heard : Tryz.pinned.checked.prog.stopsHeard = true := by kernel_rfl
theorem cell_lifted : (Rows.drawingReturnsRow.lifted == Tryz.pinned.checked.prog.liftsFinal) = true := by kernel_rfl
theorem cell_keys : (Rows.drawingReturnsRow.plainKeys == Tryz.pinned.checked.prog.plainKeys) = true := by kernel_rfl
theorem cell_joined : joinedFacts Tryz.pinned.checked.prog 5 Tryz.f5 Rows.drawingReturnsSpec Rows.drawingReturnsRow = true := by
  unfold joinedFacts
  rw [cell_inPlace, cell_unfollowed, cell_recurses, cell_named, cell_wf, cell_laidOut, cell_mapsRowed, cell_enter, cell_heard, cell_lifted, cell_keys]
  kernel_rfl
theorem cell_name : Tryz.pinned.checked.prog.funcNamed Rows.drawingReturnsRow.func = some 5 := by kernel_rfl
theorem cell_wrap : Tryz.f5.isWrapper Tryz.pinned.checked.prog Rows.drawingReturnsRow.wrapper Rows.drawingReturnsRow.mainSum := by
  unfold Func.isWrapper; first | (rw [if_pos (by decide +kernel)]; kernel_rfl) | (rw [if_neg (by decide +kernel)]; exact ⟨rfl, rfl⟩)
theorem cell_inst : Tryz.f5.isInstance Tryz.pinned.checked.prog Rows.drawingReturnsRow.origin Rows.drawingReturnsRow.targs := of_decide_eq_true (by kernel_rfl)
theorem vO : Rows.DrawingReturnsSaid :=
  OpenClaim.holds_of_wide 5 Tryz.f5 rfl rfl rfl rfl rfl rfl rfl ⟨rfl, rfl, rfl, rfl, rfl⟩ rfl rfl rfl rfl rfl cell_name Tryz.func5 cell_joined cell_inst cell_wrap
    (fun os started H enc _ => Gr os started H enc)
theorem cell_text : Rows.drawingReturnsRow.wfByText (OpenSpec.ofChange Rows.drawingReturnsSpec) = true := by kernel_rfl
theorem cell_main : Tryz.pinned.checked.prog.mainIs = some (true, "1b1c1c0a95f173429e67bba4b60ff61ed46bb01a142e71c89138dd536440edeb".toList) := by kernel_rfl
theorem cell_looks : true = Tryz.pinned.checked.prog.looks [] := by kernel_rfl
theorem goes_of {P : Program} {c : OpenClaim} {f : FuncId} (hn : P.funcNamed c.func = some f) (h1 : ((P.closure f).any fun g => (P.funcs[g]?).any Func.goes) = false) (h2 : (P.unfollowed f && P.funcs.any Func.goes) = false) (h3 : c.start = .entering) : false = c.goesBy P := by
  have h4 : P.goes f = false := by unfold Program.goes; rw [h1, h2]; rfl
  unfold OpenClaim.goesBy Program.goesAt Program.goesFrom
  rw [hn, h3]
  show false = (P.goes f || false)
  rw [h4]; rfl
theorem cell_cg : ((Tryz.pinned.checked.prog.closure 5).any fun g => (Tryz.pinned.checked.prog.funcs[g]?).any Func.goes) = false := by kernel_rfl
theorem cell_fg : (Rows.drawingReturnsRow.unfollowed && Tryz.pinned.checked.prog.funcs.any Func.goes) = false := by kernel_rfl
theorem cell_goes : false = Rows.drawingReturnsRow.goesBy Tryz.pinned.checked.prog :=
  goes_of cell_name cell_cg (by rw [← eq_of_beq cell_unfollowed]; exact cell_fg) rfl
theorem cell_stand : ([9].all fun u => !Tryz.prog.wantsStandIn u) = true := by kernel_rfl
theorem drawingReturns_card : Rows.DrawingReturnsCardSaid :=
  Claim7.holds_tied_plain_at .later [] [.data, .data, .data, .data, .sentinel, .sentinel, .widerDeep, .data, .pinned] true (true, "1b1c1c0a95f173429e67bba4b60ff61ed46bb01a142e71c89138dd536440edeb") true vO (fun _ h => by cases h) cell_text (fun _ h => by cases h) drawingReturns_row_tie rfl ⟨rfl, rfl⟩ cell_main rfl
    (fun f fn hf hfn => by
      obtain rfl : f = 5 := Option.some.inj (cell_name.symm.trans hf) |>.symm
      obtain rfl : fn = Tryz.f5 := (Option.some.inj (Tryz.func5.symm.trans hfn)).symm
      exact ⟨cell_looks, fun j t ht => by
        have hp : Tryz.f5.params = #[9] := by kernel_rfl
        rw [hp] at ht
        have hm : t ∈ [9] := by simpa using Array.mem_of_getElem? ht
        exact (show Tryz.prog.wantsStandIn t = false by simpa using List.all_eq_true.1 cell_stand t hm)⟩)
    cell_goes
#print axioms drawingReturns_card
end Go.Proofs.YtbehlcfelmbmlaaGreatDoor
end
