/- PROVED HERE: swarflaw25.PartEqual returns true for every input that can be read as data, and leaves its arguments as they were. No further condition. -/
import Derived.Test.YtfipmjpmflmbbaaGreatECardQ
import Derived.Test.YtfipmjpmflmbbaaGreatAwk
section
namespace Eng
open Go Go.Proofs
set_option maxRecDepth 100000
theorem eA (al : List A) (h : All2 (Dw Tryz.prog 10) [23, 23, 4] al) (hK : AE al) : qe CC 4 al [.c (.bool true)] := by
  match al, h with
  | [a, b, c], h =>
    obtain ⟨l, rfl, hl⟩ := Tm h.1
    obtain ⟨m, rfl, hm⟩ := Tm h.2.1
    obtain ⟨s, rfl⟩ := Rz h.2.2.1
    have hs := hK _ _ _ rfl
    exact Dv Ms hl hs.1 hm hs.2
  | [], h => exact h.elim
  | [_], h => exact h.2.elim
  | [_, _], h => exact h.2.2.elim
  | _ :: _ :: _ :: _ :: _, h => exact h.2.2.2.elim
end Eng
namespace Go.Proofs.YtfipmjpmflmbbaaGreat
open Go.ChangeShapes Go.WideShapes Go.ChangeAt Go.RowKit
set_option maxRecDepth 100000 in
theorem Tl (os : Os) (started : os.Started) (H : Type) (enc : TypeId × Value → H) :
    ReturnsInHanded {} Tryz.checked os 4 .any (fun w args => (Rows.partEqualSpec.pre enc Tryz.prog Tryz.f4 [] false w args ∧ laidMetH Tryz.prog Rows.partEqualRow.laid w) ∧ sizedMet enc Tryz.prog Tryz.f4 (OpenSpec.ofChange Rows.partEqualSpec) false w args)
      (Rows.partEqualSpec.post enc Tryz.prog Tryz.f4 false true false false) := by
  refine returnsInHanded_of_change_and (C := Tryz.checked) (X := fun w _ => laidMetH Tryz.prog Rows.partEqualRow.laid w) (fun _ _ _ hh h => h.of_heap hh) Eng.ownK started (by kernel_rfl) Tryz.func4
    (ChangeSpec.witness_shaped (enc := enc) (C := Tryz.checked) (os := os) (X := fun w _ => laidMetH Tryz.prog Rows.partEqualRow.laid w) false (World.laidAll Tryz.prog os Rows.partEqualRow.laid) #[.slice none 0 0, .slice none 0 0, .bool false] 8 (World.laidAll_os _ _ _)
      (World.shaped_of_ZipB (by kernel_rfl) (by kernel_rfl)) (by kernel_rfl) (by kernel_rfl) (by kernel_rfl)
      (by rw [MakeChecks.laidMetH_plain _ _ _ (by kernel_rfl)]; exact laidMet_laidAll _ (by kernel_rfl) (by kernel_rfl))) ?_
  intro W base args ds gs before hval hW _ hwt _ _
  have hrd : (Tryz.f4.params.toList.all fun t => Tryz.prog.readableRec t && (decide (t < Tryz.prog.types.size) && (Eng.zI Tryz.prog 10 t).isSome)) = true := by kernel_rfl
  have hp : Tryz.f4.params = #[23, 23, 4] := by kernel_rfl
  refine Eng.mJ (C := Eng.CC) (K := Eng.AE) (m := 10) (bt := 4) Eng.nR Tryz.underlying4 (by kernel_rfl) (fun t ht => ?_) rfl (fun ds hds => ?_) (fun al h hK => ?_) Eng.nS hval hW (fun al p h1 h2 => ?_)
  · have := List.all_eq_true.1 hrd t ht
    simp only [Bool.and_eq_true, decide_eq_true_eq] at this
    exact ⟨this.1, this.2.1, this.2.2⟩
  · have h2 : Tryz.f4.params.size = 3 := by kernel_rfl
    rw [h2] at hds
    match ds, hds with
    | [d1, d2, d3], _ => rfl
  · rw [hp] at h
    exact Eng.eA al h hK
  · rw [hp] at h2 hwt
    exact Eng.gS h1 h2 hwt
theorem cell_inPlace : (Rows.partEqualRow.inPlace == Tryz.pinned.checked.prog.inPlace 4) = true := by kernel_rfl
theorem cell_unfollowed : (Rows.partEqualRow.unfollowed == Tryz.pinned.checked.prog.unfollowed 4) = true := by kernel_rfl
theorem cell_recurses : (Rows.partEqualRow.recurses == Tryz.pinned.checked.prog.recurses 4) = true := by kernel_rfl
theorem cell_named : (Rows.partEqualRow.named == Tryz.pinned.checked.prog.varsNamed 4) = true := by kernel_rfl
theorem cell_wf : Rows.partEqualRow.wf (OpenSpec.ofChange Rows.partEqualSpec) = true := by kernel_rfl
theorem cell_laidOut : laidOutB Tryz.pinned.checked.prog = true := by kernel_rfl
theorem cell_mapsRowed : mapsRowed Tryz.pinned.checked.prog = true := by kernel_rfl
theorem cell_enter : Tryz.pinned.checked.prog.mayEnter = true := by kernel_rfl
theorem cell_heard : Tryz.pinned.checked.prog.stopsHeard = true := by kernel_rfl
theorem cell_lifted : (Rows.partEqualRow.lifted == Tryz.pinned.checked.prog.liftsFinal) = true := by kernel_rfl
theorem cell_keys : (Rows.partEqualRow.plainKeys == Tryz.pinned.checked.prog.plainKeys) = true := by kernel_rfl
theorem cell_joined : joinedFacts Tryz.pinned.checked.prog 4 Tryz.f4 Rows.partEqualSpec Rows.partEqualRow = true := by
  unfold joinedFacts
  rw [cell_inPlace, cell_unfollowed, cell_recurses, cell_named, cell_wf, cell_laidOut, cell_mapsRowed, cell_enter, cell_heard, cell_lifted, cell_keys]
  kernel_rfl
theorem cell_name : Tryz.pinned.checked.prog.funcNamed Rows.partEqualRow.func = some 4 := by kernel_rfl
theorem cell_wrap : Tryz.f4.isWrapper Tryz.pinned.checked.prog Rows.partEqualRow.wrapper Rows.partEqualRow.mainSum := by
  unfold Func.isWrapper; first | (rw [if_pos (by decide +kernel)]; kernel_rfl) | (rw [if_neg (by decide +kernel)]; exact ⟨rfl, rfl⟩)
theorem cell_inst : Tryz.f4.isInstance Tryz.pinned.checked.prog Rows.partEqualRow.origin Rows.partEqualRow.targs := of_decide_eq_true (by kernel_rfl)
theorem pre_plain {H : Type} (enc : TypeId × Value → H) : (fun w args => (Rows.partEqualSpec.pre enc Tryz.prog Tryz.f4 [] false w args ∧ laidMetH Tryz.prog Rows.partEqualRow.laid w) ∧ sizedMet enc Tryz.prog Tryz.f4 (OpenSpec.ofChange Rows.partEqualSpec) false w args) =
    OpenClaim.pre enc Tryz.pinned.checked.prog Tryz.f4 (OpenSpec.ofChange Rows.partEqualSpec) Rows.partEqualRow :=
  funext fun _ => funext fun _ => propext ⟨fun h => ⟨h.1.1, h.2⟩, fun h => ⟨⟨h.1, ⟨[], (rfl : ([] : List MemPlace) = []), List.nodup_nil, fun _ _ h => by cases h⟩⟩, h.2⟩⟩
theorem partEqual_holds : Rows.PartEqualSaid :=
  OpenClaim.holds_of_wide 4 Tryz.f4 rfl rfl rfl rfl rfl rfl rfl ⟨rfl, rfl, rfl, rfl, rfl⟩ rfl rfl rfl rfl rfl cell_name Tryz.func4 cell_joined cell_inst cell_wrap
    (fun os started H enc _ => by
      have h := Tl os started H enc
      rw [pre_plain] at h
      exact h)
#print axioms partEqual_holds
end Go.Proofs.YtfipmjpmflmbbaaGreat
end
