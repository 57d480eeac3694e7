/- PROVED HERE: swarflaw22.DrawingCurves returns true for every input that can be read as data, and leaves its arguments as they were. Conditions: those of the given card alone (package-level variables as the program's text lays them). -/
import Derived.Test.YtbehlcfelmbmlaaGreatDoorCardD
import Derived.Test.YtbehlcfelmbmlaaGreatDoorAwk
import Derived.Test.YtbehlcfelmbmlaaGreatDoorHmB
section
namespace Eng
open Go Go.Proofs
set_option maxRecDepth 100000
theorem PT (al : List A) (h : All2 (MH Tryz.prog 10) [25] al) : qe CC 6 al [.c (.bool true)] := by
  match al, h with
  | [a], h =>
    obtain ⟨ls, es, rfl⟩ := NN h.1
    exact Gc T4 ls es
  | [], h => exact h.elim
  | _ :: _ :: _, h => exact h.2.elim
end Eng
namespace Go.Proofs.YtbehlcfelmbmlaaGreatDoor
open Go.ChangeShapes Go.WideShapes Go.ChangeAt Go.RowKit
set_option maxRecDepth 100000 in
theorem Kh (os : Os) (started : os.Started) (H : Type) (enc : TypeId × Value → H) :
    ReturnsInHanded {} Tryz.checked os 6 .any (fun w args => (Rows.drawingCurvesSpec.pre enc Tryz.prog Tryz.f6 [] false w args ∧ laidMetH Tryz.prog Rows.drawingCurvesRow.laid w) ∧ sizedMet enc Tryz.prog Tryz.f6 (OpenSpec.ofChange Rows.drawingCurvesSpec) false w args)
      (Rows.drawingCurvesSpec.post enc Tryz.prog Tryz.f6 false true false false) := by
  refine returnsInHanded_of_change_and (C := Tryz.checked) (X := fun w _ => laidMetH Tryz.prog Rows.drawingCurvesRow.laid w) (fun _ _ _ hh h => h.of_heap hh) Eng.ownK started (by kernel_rfl) Tryz.func6
    (ChangeSpec.witness_shaped (enc := enc) (C := Tryz.checked) (os := os) (X := fun w _ => laidMetH Tryz.prog Rows.drawingCurvesRow.laid w) false (World.laidAll Tryz.prog os Rows.drawingCurvesRow.laid) #[.agg #[.slice none 0 0, .slice none 0 0]] 8 (World.laidAll_os _ _ _)
      (World.shaped_of_ZipB (by kernel_rfl) (by kernel_rfl)) (by kernel_rfl) (by kernel_rfl) (by kernel_rfl)
      (by rw [MakeChecks.laidMetH_plain _ _ _ (by kernel_rfl)]; exact laidMet_laidAll _ (by kernel_rfl) (by kernel_rfl))) ?_
  intro W base args ds gs before hval hW _ _ hL _
  have hrd : (Tryz.f6.params.toList.all fun t => Tryz.prog.readableRec t && (decide (t < Tryz.prog.types.size) && (Eng.xV Tryz.prog 10 t).isSome)) = true := by kernel_rfl
  refine Eng.SV (C := Eng.CC) (m := 10) (bt := 4) Eng.S9 Tryz.underlying4 (by kernel_rfl) (fun t ht => ?_) rfl (fun ds hds => ?_) (fun al h => ?_) (Eng.NK hL) hval hW
  · have := List.all_eq_true.1 hrd t ht
    simp only [Bool.and_eq_true, decide_eq_true_eq] at this
    exact ⟨this.1, this.2.1, this.2.2⟩
  · have h2 : Tryz.f6.params.size = 1 := by kernel_rfl
    rw [h2] at hds
    match ds, hds with
    | [d1], _ => rfl
  · have hp : Tryz.f6.params = #[25] := by kernel_rfl
    rw [hp] at h
    exact Eng.PT al h
theorem ZI : (Rows.drawingCurvesRow.inPlace == Tryz.pinned.checked.prog.inPlace 6) = true := by kernel_rfl
theorem kh : (Rows.drawingCurvesRow.unfollowed == Tryz.pinned.checked.prog.unfollowed 6) = true := by kernel_rfl
theorem XC : (Rows.drawingCurvesRow.recurses == Tryz.pinned.checked.prog.recurses 6) = true := by kernel_rfl
theorem Yf : (Rows.drawingCurvesRow.named == Tryz.pinned.checked.prog.varsNamed 6) = true := by kernel_rfl
theorem NO : Rows.drawingCurvesRow.wf (OpenSpec.ofChange Rows.drawingCurvesSpec) = true := by kernel_rfl
theorem ZJ : laidOutB Tryz.pinned.checked.prog = true := by kernel_rfl
theorem QH : mapsRowed Tryz.pinned.checked.prog = true := by kernel_rfl
theorem Yg : Tryz.pinned.checked.prog.mayEnter = true := by kernel_rfl
theorem Yh : Tryz.pinned.checked.prog.stopsHeard = true := by kernel_rfl
theorem Ki : (Rows.drawingCurvesRow.lifted == Tryz.pinned.checked.prog.liftsFinal) = true := by kernel_rfl
theorem G2 : (Rows.drawingCurvesRow.plainKeys == Tryz.pinned.checked.prog.plainKeys) = true := by kernel_rfl
theorem Kj : joinedFacts Tryz.pinned.checked.prog 6 Tryz.f6 Rows.drawingCurvesSpec Rows.drawingCurvesRow = true := by
  unfold joinedFacts
  rw [ZI, kh, XC, Yf, NO, ZJ, QH, Yg, Yh, Ki, G2]
  kernel_rfl
theorem cell_name : Tryz.pinned.checked.prog.funcNamed Rows.drawingCurvesRow.func = some 6 := by kernel_rfl
theorem G3 : Tryz.f6.isWrapper Tryz.pinned.checked.prog Rows.drawingCurvesRow.wrapper Rows.drawingCurvesRow.mainSum := by
  unfold Func.isWrapper; first | (rw [if_pos (by decide +kernel)]; kernel_rfl) | (rw [if_neg (by decide +kernel)]; exact ⟨rfl, rfl⟩)
theorem G4 : Tryz.f6.isInstance Tryz.pinned.checked.prog Rows.drawingCurvesRow.origin Rows.drawingCurvesRow.targs := of_decide_eq_true (by kernel_rfl)
theorem kX : Rows.DrawingCurvesSaid :=
  OpenClaim.holds_of_wide 6 Tryz.f6 rfl rfl rfl rfl rfl rfl rfl ⟨rfl, rfl, rfl, rfl, rfl⟩ rfl rfl rfl rfl rfl cell_name Tryz.func6 Kj G4 G3
    (fun os started H enc _ => Kh os started H enc)
theorem G5 : Rows.drawingCurvesRow.wfByText (OpenSpec.ofChange Rows.drawingCurvesSpec) = true := by kernel_rfl
theorem G6 : Tryz.pinned.checked.prog.mainIs = some (true, "1b1c1c0a95f173429e67bba4b60ff61ed46bb01a142e71c89138dd536440edeb".toList) := by kernel_rfl
theorem Yi : true = Tryz.pinned.checked.prog.looks [] := by kernel_rfl
theorem NP {P : Program} {c : OpenClaim} {f : FuncId} (hn : P.funcNamed c.func = some f) (h1 : ((P.closure f).any fun g => (P.funcs[g]?).any Func.goes) = false) (h2 : (P.unfollowed f && P.funcs.any Func.goes) = false) (h3 : c.start = .entering) : false = c.goesBy P := by
  have h4 : P.goes f = false := by unfold Program.goes; rw [h1, h2]; rfl
  unfold OpenClaim.goesBy Program.goesAt Program.goesFrom
  rw [hn, h3]
  show false = (P.goes f || false)
  rw [h4]; rfl
theorem NQ : ((Tryz.pinned.checked.prog.closure 6).any fun g => (Tryz.pinned.checked.prog.funcs[g]?).any Func.goes) = false := by kernel_rfl
theorem NR : (Rows.drawingCurvesRow.unfollowed && Tryz.pinned.checked.prog.funcs.any Func.goes) = false := by kernel_rfl
theorem G7 : false = Rows.drawingCurvesRow.goesBy Tryz.pinned.checked.prog :=
  NP cell_name NQ (by rw [← eq_of_beq kh]; exact NR) rfl
theorem Yj : ([25].all fun u => !Tryz.prog.wantsStandIn u) = true := by kernel_rfl
theorem drawingCurves_card : Rows.DrawingCurvesCardSaid :=
  Claim7.holds_tied_plain_at .later [] [.data, .data, .data, .data, .sentinel, .sentinel, .widerDeep, .data, .pinned] true (true, "1b1c1c0a95f173429e67bba4b60ff61ed46bb01a142e71c89138dd536440edeb") true kX (fun _ h => by cases h) G5 (fun _ h => by cases h) drawingCurves_row_tie rfl ⟨rfl, rfl⟩ G6 rfl
    (fun f fn hf hfn => by
      obtain rfl : f = 6 := Option.some.inj (cell_name.symm.trans hf) |>.symm
      obtain rfl : fn = Tryz.f6 := (Option.some.inj (Tryz.func6.symm.trans hfn)).symm
      exact ⟨Yi, fun j t ht => by
        have hp : Tryz.f6.params = #[25] := by kernel_rfl
        rw [hp] at ht
        have hm : t ∈ [25] := by simpa using Array.mem_of_getElem? ht
        exact (show Tryz.prog.wantsStandIn t = false by simpa using List.all_eq_true.1 Yj t hm)⟩)
    G7
#print axioms drawingCurves_card
end Go.Proofs.YtbehlcfelmbmlaaGreatDoor
end
