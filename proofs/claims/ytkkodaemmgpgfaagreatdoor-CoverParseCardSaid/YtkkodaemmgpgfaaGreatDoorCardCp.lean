/- PROVED HERE: swarflaw19.CoverParse returns true for every text that can be read as data, and leaves its argument as it was. Conditions: those of the given card alone (package-level variables as the program's text lays them). -/
import Derived.Test.YtkkodaemmgpgfaaGreatDoorCardB
import Derived.Test.YtkkodaemmgpgfaaGreatDoorTxC
import Derived.Test.YtkkodaemmgpgfaaGreatDoorAwk
section
namespace Eng
open Go Go.Proofs
set_option maxRecDepth 100000
theorem inv_of_laidP {W : World} (h : laidMetH Tryz.prog YtkkodaemmgpgfaaGreatDoor.Rows.coverParseRow.laid W) : Inv CC (fun b => b < W.heap.size) W := by
  intro g cs hg
  replace hg : gvar g = some cs := hg
  unfold gvar at hg
  split at hg
  · simp only [Option.some.injEq] at hg
    subst hg
    rw [MakeChecks.laidMetH_plain _ _ _ (by kernel_rfl)] at h
    obtain ⟨ps, ⟨g0, t0, cs0, f0, p0, q0, hg0, ht0, hv0, hd0, ⟨g1, t1, cs1, f1, p1, q1, hg1, ht1, hv1, hd1, ⟨g, t, cs, fuel, p, q, hg, ht, hv, hd, _, _⟩, _⟩, _⟩, _, _⟩ := h
    obtain rfl := Option.some.inj ((show Tryz.prog.globalNamed "internal/strconv.uint64pow10" = some 1 by kernel_rfl).symm.trans hg)
    obtain rfl := Option.some.inj ((show (Tryz.prog.globals[1]?).map (·.type) = some 357 by kernel_rfl).symm.trans ht)
    have hu : Tryz.prog.underlying 357 = some (.array 20 182) := by kernel_rfl
    obtain ⟨t', fr, h1, h2⟩ := laid_ints (zs := pow10Z) (k := .u64) hg hv hu (by kernel_rfl) (by kernel_rfl) rfl (by kernel_rfl) hd
    refine ⟨(Array.getElem?_eq_some_iff.1 h1).1, cs, t', fr, h1, ?_⟩
    rw [h2]
    exact all2_ints pow10Z
  · simp at hg
theorem strT_ok : cellTys Tryz.prog 10 9 = some [.str] := by kernel_rfl
theorem hasA_str {a : A} (h0 : hasA Tryz.prog 10 9 a) : ∃ s : List UInt8, a = .c (.str s) := by
  obtain ⟨T, hT, h⟩ := h0
  rw [strT_ok] at hT
  obtain rfl := Option.some.inj hT
  rcases h with ⟨h1, _⟩ | ⟨_, d, rfl, h2⟩
  · have h3 : tAgg Tryz.prog 9 = false := by kernel_rfl
    rw [h3] at h1; simp at h1
  · simp only [hasL, hasC] at h2
    obtain ⟨d1, r1, e, ⟨s, rfl, _⟩, rfl⟩ := h2
    obtain rfl : d = .str s := by simpa using e
    exact ⟨s, rfl⟩
theorem par_gives (al : List A) (h : All2 (hasA Tryz.prog 10) [9] al) : Gives CC 8 al [.c (.bool true)] := by
  match al, h with
  | [a], h =>
    obtain ⟨s, rfl⟩ := hasA_str h.1
    exact lParse_ok awake_ok s
  | [], h => exact h.elim
  | _ :: _ :: _, h => exact h.2.elim
end Eng
namespace Go.Proofs.YtkkodaemmgpgfaaGreatDoor
open Go.ChangeShapes Go.WideShapes Go.ChangeAt Go.RowKit
def ratZ : List Value := [.bool false, .slice none 0 0, .bool false, .slice none 0 0]
def boxZ : Value := .agg (ratZ ++ ratZ ++ ratZ ++ ratZ).toArray
set_option maxRecDepth 100000 in
theorem par_lifted (os : Os) (started : os.Started) (H : Type) (enc : TypeId × Value → H) :
    ReturnsInHanded {} Tryz.checked os 8 .any (fun w args => (Rows.coverParseSpec.pre enc Tryz.prog Tryz.f8 [] false w args ∧ laidMetH Tryz.prog Rows.coverParseRow.laid w) ∧ sizedMet enc Tryz.prog Tryz.f8 (OpenSpec.ofChange Rows.coverParseSpec) false w args)
      (Rows.coverParseSpec.post enc Tryz.prog Tryz.f8 false true false false) := by
  refine returnsInHanded_of_change_and (C := Tryz.checked) (X := fun w _ => laidMetH Tryz.prog Rows.coverParseRow.laid w) (fun _ _ _ hh h => h.of_heap hh) Eng.ownK started (by kernel_rfl) Tryz.func8
    (ChangeSpec.witness_shaped (enc := enc) (C := Tryz.checked) (os := os) (X := fun w _ => laidMetH Tryz.prog Rows.coverParseRow.laid w) false (World.laidAll Tryz.prog os Rows.coverParseRow.laid) #[.string ByteArray.empty] 8 (World.laidAll_os _ _ _)
      (World.shaped_of_ZipB (by kernel_rfl) (by kernel_rfl)) (by kernel_rfl) (by kernel_rfl) (by kernel_rfl)
      (by rw [MakeChecks.laidMetH_plain _ _ _ (by kernel_rfl)]; exact laidMet_laidAll _ (by kernel_rfl) (by kernel_rfl))) ?_
  intro W base args ds gs before hval hW _ _ hL _
  have hrd : (Tryz.f8.params.toList.all fun t => Tryz.prog.readableRec t && (decide (t < Tryz.prog.types.size) && (Eng.cellTys Tryz.prog 10 t).isSome)) = true := by kernel_rfl
  refine Eng.law_call (C := Eng.CC) (m := 10) (bt := 4) Eng.laidOutP Tryz.underlying4 (by kernel_rfl) (fun t ht => ?_) rfl (fun ds hds => ?_) (fun al h => ?_) (Eng.inv_of_laidP hL) hval hW
  · have := List.all_eq_true.1 hrd t ht
    simp only [Bool.and_eq_true, decide_eq_true_eq] at this
    exact ⟨this.1, this.2.1, this.2.2⟩
  · have h2 : Tryz.f8.params.size = 1 := by kernel_rfl
    rw [h2] at hds
    match ds, hds with
    | [d1], _ => rfl
  · have hp : Tryz.f8.params = #[9] := by kernel_rfl
    rw [hp] at h
    exact Eng.par_gives al h
theorem cell_inPlace : (Rows.coverParseRow.inPlace == Tryz.pinned.checked.prog.inPlace 8) = true := by kernel_rfl
theorem cell_unfollowed : (Rows.coverParseRow.unfollowed == Tryz.pinned.checked.prog.unfollowed 8) = true := by kernel_rfl
theorem cell_recurses : (Rows.coverParseRow.recurses == Tryz.pinned.checked.prog.recurses 8) = true := by kernel_rfl
theorem cell_named : (Rows.coverParseRow.named == Tryz.pinned.checked.prog.varsNamed 8) = true := by kernel_rfl
theorem cell_wf : Rows.coverParseRow.wf (OpenSpec.ofChange Rows.coverParseSpec) = true := by kernel_rfl
theorem cell_laidOut : laidOutB Tryz.pinned.checked.prog = true := by kernel_rfl
theorem cell_mapsRowed : mapsRowed Tryz.pinned.checked.prog = true := by kernel_rfl
theorem cell_enter : Tryz.pinned.checked.prog.mayEnter = true := by kernel_rfl
theorem cell_heard : Tryz.pinned.checked.prog.stopsHeard = true := by kernel_rfl
theorem cell_lifted : (Rows.coverParseRow.lifted == Tryz.pinned.checked.prog.liftsFinal) = true := by kernel_rfl
theorem cell_keys : (Rows.coverParseRow.plainKeys == Tryz.pinned.checked.prog.plainKeys) = true := by kernel_rfl
theorem cell_joined : joinedFacts Tryz.pinned.checked.prog 8 Tryz.f8 Rows.coverParseSpec Rows.coverParseRow = true := by
  unfold joinedFacts
  rw [cell_inPlace, cell_unfollowed, cell_recurses, cell_named, cell_wf, cell_laidOut, cell_mapsRowed, cell_enter, cell_heard, cell_lifted, cell_keys]
  kernel_rfl
theorem cell_name : Tryz.pinned.checked.prog.funcNamed Rows.coverParseRow.func = some 8 := by kernel_rfl
theorem cell_wrap : Tryz.f8.isWrapper Tryz.pinned.checked.prog Rows.coverParseRow.wrapper Rows.coverParseRow.mainSum := by
  unfold Func.isWrapper; first | (rw [if_pos (by decide +kernel)]; kernel_rfl) | (rw [if_neg (by decide +kernel)]; exact ⟨rfl, rfl⟩)
theorem cell_inst : Tryz.f8.isInstance Tryz.pinned.checked.prog Rows.coverParseRow.origin Rows.coverParseRow.targs := of_decide_eq_true (by kernel_rfl)
theorem coverParse_holds : Rows.CoverParseSaid :=
  OpenClaim.holds_of_wide 8 Tryz.f8 rfl rfl rfl rfl rfl rfl rfl ⟨rfl, rfl, rfl, rfl, rfl⟩ rfl rfl rfl rfl rfl cell_name Tryz.func8 cell_joined cell_inst cell_wrap
    (fun os started H enc _ => par_lifted os started H enc)
theorem cell_text : Rows.coverParseRow.wfByText (OpenSpec.ofChange Rows.coverParseSpec) = true := by kernel_rfl
theorem cell_main : Tryz.pinned.checked.prog.mainIs = some (true, "e719625e60fb266ad019ca96d3db21a2b65ef0fb0f1ee13099a318514e3a4052".toList) := by kernel_rfl
theorem cell_looks : false = Tryz.pinned.checked.prog.looks [] := by kernel_rfl
theorem cell_goes : false = Rows.coverParseRow.goesBy Tryz.pinned.checked.prog := by kernel_rfl
theorem cell_stand : ([9].all fun u => !Tryz.prog.wantsStandIn u) = true := by kernel_rfl
theorem coverParse_card : Rows.CoverParseCardSaid :=
  Claim7.holds_tied_plain_at .later [] [.data, .data, .data, .data, .pinned] true (true, "e719625e60fb266ad019ca96d3db21a2b65ef0fb0f1ee13099a318514e3a4052") false coverParse_holds (fun _ h => by cases h) cell_text (fun _ h => by cases h) coverParse_row_tie rfl ⟨rfl, rfl⟩ cell_main rfl
    (fun f fn hf hfn => by
      obtain rfl : f = 8 := Option.some.inj (cell_name.symm.trans hf) |>.symm
      obtain rfl : fn = Tryz.f8 := (Option.some.inj (Tryz.func8.symm.trans hfn)).symm
      exact ⟨cell_looks, fun j t ht => by
        have hp : Tryz.f8.params = #[9] := by kernel_rfl
        rw [hp] at ht
        have hm : t ∈ [9] := by simpa using Array.mem_of_getElem? ht
        exact (show Tryz.prog.wantsStandIn t = false by simpa using List.all_eq_true.1 cell_stand t hm)⟩)
    cell_goes
#print axioms coverParse_card
end Go.Proofs.YtkkodaemmgpgfaaGreatDoor
end
