/- PROVED HERE: swarflaw19.CoverText returns true for every list of cells that can be read as data, and leaves its argument as it was. Conditions: those of the given card alone (package-level variables as the program's text lays them). -/
import Derived.Test.YtkkodaemmgpgfaaGreatDoorCardB
import Derived.Test.YtkkodaemmgpgfaaGreatDoorTxH
import Derived.Test.YtkkodaemmgpgfaaGreatDoorAwk
section
namespace Eng
open Go Go.Proofs
set_option maxRecDepth 100000
theorem inv_of_laidP {W : World} (h : laidMetH Tryz.prog YtkkodaemmgpgfaaGreatDoor.Rows.coverTextRow.laid W) : Inv CC (fun b => b < W.heap.size) W := by
  intro g cs hg
  replace hg : gvar g = some cs := hg
  unfold gvar at hg
  split at hg
  · simp only [Option.some.injEq] at hg
    subst hg
    rw [MakeChecks.laidMetH_plain _ _ _ (by kernel_rfl)] at h
    obtain ⟨ps, ⟨g0, t0, cs0, f0, p0, q0, hg0, ht0, hv0, hd0, ⟨g1, t1, cs1, f1, p1, q1, hg1, ht1, hv1, hd1, ⟨g, t, cs, fuel, p, q, hg, ht, hv, hd, _, _⟩, _⟩, _⟩, _, _⟩ := h
    obtain rfl := Option.some.inj ((show Tryz.prog.globalNamed "internal/strconv.uint64pow10" = some 1 by kernel_rfl).symm.trans hg)
    obtain rfl := Option.some.inj ((show (Tryz.prog.globals[1]?).map (·.type) = some 357 by kernel_rfl).symm.trans ht)
    have hu : Tryz.prog.underlying 357 = some (.array 20 182) := by kernel_rfl
    obtain ⟨t', fr, h1, h2⟩ := laid_ints (zs := pow10Z) (k := .u64) hg hv hu (by kernel_rfl) (by kernel_rfl) rfl (by kernel_rfl) hd
    refine ⟨(Array.getElem?_eq_some_iff.1 h1).1, cs, t', fr, h1, ?_⟩
    rw [h2]
    exact all2_ints pow10Z
  · simp at hg
def cellT : List CT := ratT ++ (ratT ++ (ratT ++ (ratT ++ ([.bool] ++ (ratT ++ ratT)))))
theorem cellsT_ok : cellTys Tryz.prog 10 51 = some [.sl cellT] := by kernel_rfl
theorem cells_of : ∀ {es : List (List D)}, (∀ r ∈ es, hasL cellT r) → ∃ l : List Rc, es = rcs l
  | [], _ => ⟨[], rfl⟩
  | r :: es, h => by
    obtain ⟨l, rfl⟩ := cells_of (es := es) fun r hr => h r (by simp [hr])
    have h := h r (by simp)
    obtain ⟨d1, r1, rfl, h1, k1⟩ := hasL_split h
    obtain ⟨d2, r2, rfl, h2, k2⟩ := hasL_split k1
    obtain ⟨d3, r3, rfl, h3, k3⟩ := hasL_split k2
    obtain ⟨d4, r4, rfl, h4, k4⟩ := hasL_split k3
    obtain ⟨d5, r5, rfl, h5, k5⟩ := hasL_split k4
    obtain ⟨d6, r6, rfl, h6, h7⟩ := hasL_split k5
    obtain ⟨x, rfl⟩ := rw_of h1
    obtain ⟨y, rfl⟩ := rw_of h2
    obtain ⟨z, rfl⟩ := rw_of h3
    obtain ⟨w, rfl⟩ := rw_of h4
    obtain ⟨u, rfl⟩ := rw_of h6
    obtain ⟨v, rfl⟩ := rw_of h7
    simp only [hasL] at h5
    obtain ⟨d, r, rfl, c, rfl⟩ := h5
    simp only [hasC] at c
    obtain ⟨f, rfl⟩ := c
    exact ⟨⟨⟨x, y, z, w⟩, f, u, v⟩ :: l, rfl⟩
theorem hasA_cells {a : A} (h0 : hasA Tryz.prog 10 51 a) : ∃ l : List Rc, a = .c (.sl (rcs l)) := by
  obtain ⟨T, hT, h⟩ := h0
  rw [cellsT_ok] at hT
  obtain rfl := Option.some.inj hT
  rcases h with ⟨h1, _⟩ | ⟨_, d, rfl, h2⟩
  · have h3 : tAgg Tryz.prog 51 = false := by kernel_rfl
    rw [h3] at h1; simp at h1
  · simp only [hasL] at h2
    obtain ⟨d1, r1, e, h4, rfl⟩ := h2
    obtain rfl : d = d1 := by simpa using e
    simp only [hasC] at h4
    obtain ⟨es, rfl, _, h5⟩ := h4
    obtain ⟨l, rfl⟩ := cells_of h5
    exact ⟨l, rfl⟩
theorem txt_gives (al : List A) (h : All2 (hasA Tryz.prog 10) [51] al) : Gives CC 7 al [.c (.bool true)] := by
  match al, h with
  | [a], h =>
    obtain ⟨l, rfl⟩ := hasA_cells h.1
    exact lText_ok awake_ok l
  | [], h => exact h.elim
  | _ :: _ :: _, h => exact h.2.elim
end Eng
namespace Go.Proofs.YtkkodaemmgpgfaaGreatDoor
open Go.ChangeShapes Go.WideShapes Go.ChangeAt Go.RowKit
set_option maxRecDepth 100000 in
theorem txt_lifted (os : Os) (started : os.Started) (H : Type) (enc : TypeId × Value → H) :
    ReturnsInHanded {} Tryz.checked os 7 .any (fun w args => (Rows.coverTextSpec.pre enc Tryz.prog Tryz.f7 [] false w args ∧ laidMetH Tryz.prog Rows.coverTextRow.laid w) ∧ sizedMet enc Tryz.prog Tryz.f7 (OpenSpec.ofChange Rows.coverTextSpec) false w args)
      (Rows.coverTextSpec.post enc Tryz.prog Tryz.f7 false true false false) := by
  refine returnsInHanded_of_change_and (C := Tryz.checked) (X := fun w _ => laidMetH Tryz.prog Rows.coverTextRow.laid w) (fun _ _ _ hh h => h.of_heap hh) Eng.ownK started (by kernel_rfl) Tryz.func7
    (ChangeSpec.witness_shaped (enc := enc) (C := Tryz.checked) (os := os) (X := fun w _ => laidMetH Tryz.prog Rows.coverTextRow.laid w) false (World.laidAll Tryz.prog os Rows.coverTextRow.laid) #[.slice none 0 0] 8 (World.laidAll_os _ _ _)
      (World.shaped_of_ZipB (by kernel_rfl) (by kernel_rfl)) (by kernel_rfl) (by kernel_rfl) (by kernel_rfl)
      (by rw [MakeChecks.laidMetH_plain _ _ _ (by kernel_rfl)]; exact laidMet_laidAll _ (by kernel_rfl) (by kernel_rfl))) ?_
  intro W base args ds gs before hval hW _ _ hL _
  have hrd : (Tryz.f7.params.toList.all fun t => Tryz.prog.readableRec t && (decide (t < Tryz.prog.types.size) && (Eng.cellTys Tryz.prog 10 t).isSome)) = true := by kernel_rfl
  refine Eng.law_call (C := Eng.CC) (m := 10) (bt := 4) Eng.laidOutP Tryz.underlying4 (by kernel_rfl) (fun t ht => ?_) rfl (fun ds hds => ?_) (fun al h => ?_) (Eng.inv_of_laidP hL) hval hW
  · have := List.all_eq_true.1 hrd t ht
    simp only [Bool.and_eq_true, decide_eq_true_eq] at this
    exact ⟨this.1, this.2.1, this.2.2⟩
  · have h2 : Tryz.f7.params.size = 1 := by kernel_rfl
    rw [h2] at hds
    match ds, hds with
    | [d1], _ => rfl
  · have hp : Tryz.f7.params = #[51] := by kernel_rfl
    rw [hp] at h
    exact Eng.txt_gives al h
theorem cell_inPlace : (Rows.coverTextRow.inPlace == Tryz.pinned.checked.prog.inPlace 7) = true := by kernel_rfl
theorem cell_unfollowed : (Rows.coverTextRow.unfollowed == Tryz.pinned.checked.prog.unfollowed 7) = true := by kernel_rfl
theorem cell_recurses : (Rows.coverTextRow.recurses == Tryz.pinned.checked.prog.recurses 7) = true := by kernel_rfl
theorem cell_named : (Rows.coverTextRow.named == Tryz.pinned.checked.prog.varsNamed 7) = true := by kernel_rfl
theorem cell_wf : Rows.coverTextRow.wf (OpenSpec.ofChange Rows.coverTextSpec) = true := by kernel_rfl
theorem cell_laidOut : laidOutB Tryz.pinned.checked.prog = true := by kernel_rfl
theorem cell_mapsRowed : mapsRowed Tryz.pinned.checked.prog = true := by kernel_rfl
theorem cell_enter : Tryz.pinned.checked.prog.mayEnter = true := by kernel_rfl
theorem cell_heard : Tryz.pinned.checked.prog.stopsHeard = true := by kernel_rfl
theorem cell_lifted : (Rows.coverTextRow.lifted == Tryz.pinned.checked.prog.liftsFinal) = true := by kernel_rfl
theorem cell_keys : (Rows.coverTextRow.plainKeys == Tryz.pinned.checked.prog.plainKeys) = true := by kernel_rfl
theorem cell_joined : joinedFacts Tryz.pinned.checked.prog 7 Tryz.f7 Rows.coverTextSpec Rows.coverTextRow = true := by
  unfold joinedFacts
  rw [cell_inPlace, cell_unfollowed, cell_recurses, cell_named, cell_wf, cell_laidOut, cell_mapsRowed, cell_enter, cell_heard, cell_lifted, cell_keys]
  kernel_rfl
theorem cell_name : Tryz.pinned.checked.prog.funcNamed Rows.coverTextRow.func = some 7 := by kernel_rfl
theorem cell_wrap : Tryz.f7.isWrapper Tryz.pinned.checked.prog Rows.coverTextRow.wrapper Rows.coverTextRow.mainSum := by
  unfold Func.isWrapper; first | (rw [if_pos (by decide +kernel)]; kernel_rfl) | (rw [if_neg (by decide +kernel)]; exact ⟨rfl, rfl⟩)
theorem cell_inst : Tryz.f7.isInstance Tryz.pinned.checked.prog Rows.coverTextRow.origin Rows.coverTextRow.targs := of_decide_eq_true (by kernel_rfl)
theorem coverText_holds : Rows.CoverTextSaid :=
  OpenClaim.holds_of_wide 7 Tryz.f7 rfl rfl rfl rfl rfl rfl rfl ⟨rfl, rfl, rfl, rfl, rfl⟩ rfl rfl rfl rfl rfl cell_name Tryz.func7 cell_joined cell_inst cell_wrap
    (fun os started H enc _ => txt_lifted os started H enc)
theorem cell_text : Rows.coverTextRow.wfByText (OpenSpec.ofChange Rows.coverTextSpec) = true := by kernel_rfl
theorem cell_main : Tryz.pinned.checked.prog.mainIs = some (true, "e719625e60fb266ad019ca96d3db21a2b65ef0fb0f1ee13099a318514e3a4052".toList) := by kernel_rfl
theorem cell_looks : false = Tryz.pinned.checked.prog.looks [] := by kernel_rfl
theorem cell_goes : false = Rows.coverTextRow.goesBy Tryz.pinned.checked.prog := by kernel_rfl
theorem cell_stand : ([51].all fun u => !Tryz.prog.wantsStandIn u) = true := by kernel_rfl
theorem coverText_card : Rows.CoverTextCardSaid :=
  Claim7.holds_tied_plain_at .later [] [.data, .data, .data, .data, .pinned] true (true, "e719625e60fb266ad019ca96d3db21a2b65ef0fb0f1ee13099a318514e3a4052") false coverText_holds (fun _ h => by cases h) cell_text (fun _ h => by cases h) coverText_row_tie rfl ⟨rfl, rfl⟩ cell_main rfl
    (fun f fn hf hfn => by
      obtain rfl : f = 7 := Option.some.inj (cell_name.symm.trans hf) |>.symm
      obtain rfl : fn = Tryz.f7 := (Option.some.inj (Tryz.func7.symm.trans hfn)).symm
      exact ⟨cell_looks, fun j t ht => by
        have hp : Tryz.f7.params = #[51] := by kernel_rfl
        rw [hp] at ht
        have hm : t ∈ [51] := by simpa using Array.mem_of_getElem? ht
        exact (show Tryz.prog.wantsStandIn t = false by simpa using List.all_eq_true.1 cell_stand t hm)⟩)
    cell_goes
#print axioms coverText_card
end Go.Proofs.YtkkodaemmgpgfaaGreatDoor
end
