/- PROVED HERE: swarflaw19.CoverDistances returns true for every box, point and radius that can be read as data, and leaves its arguments as they were. Conditions: those of the given card alone (package-level variables as the program's text lays them). -/
import Derived.Test.YtkkodaemmgpgfaaGreatDoorCardA
import Derived.Test.YtkkodaemmgpgfaaGreatDoorCdB
import Derived.Test.YtkkodaemmgpgfaaGreatDoorAwk
section
namespace Eng
open Go Go.Proofs
set_option maxRecDepth 100000
def u32T : CT := .int .u32
def natT : List CT := [.bool, .sl [u32T]]
def ratT : List CT := [.bool, .sl [u32T], .bool, .sl [u32T]]
theorem boxT_ok : cellTys Tryz.prog 10 28 = some (ratT ++ (ratT ++ (ratT ++ ratT))) := by kernel_rfl
theorem vecT_ok : cellTys Tryz.prog 10 30 = some (ratT ++ ratT) := by kernel_rfl
theorem ratT_ok : cellTys Tryz.prog 10 26 = some ratT := by kernel_rfl
theorem rows_u32 : ∀ {es : List (List D)}, (∀ r ∈ es, hasL [u32T] r) → ∃ l : List Nat, es = raw l
  | [], _ => ⟨[], rfl⟩
  | r :: es, h => by
    obtain ⟨l, hl⟩ := rows_u32 (es := es) fun r hr => h r (by simp [hr])
    have h1 := h r (by simp)
    simp only [u32T, hasL, hasC] at h1
    obtain ⟨d1, r1, rfl, ⟨n1, rfl, hw⟩, rfl⟩ := h1
    have hn : 0 ≤ n1 := by
      have e : IntKind.min .u32 = 0 := rfl
      simp only [Lit.wf, e, Bool.and_eq_true, decide_eq_true_eq] at hw
      omega
    refine ⟨n1.toNat :: l, ?_⟩
    rw [hl]
    simp only [raw, List.map_cons]
    rw [Int.toNat_of_nonneg hn]
theorem rw_of {ds : List D} (h : hasL ratT ds) : ∃ x : Rw, ds = x.cs := by
  simp only [ratT, hasL] at h
  obtain ⟨d1, r1, rfl, c1, d2, r2, rfl, c2, d3, r3, rfl, c3, d4, r4, rfl, c4, rfl⟩ := h
  simp only [hasC] at c1 c2 c3 c4
  obtain ⟨p, rfl⟩ := c1
  obtain ⟨es, rfl, _, h2⟩ := c2
  obtain ⟨q, rfl⟩ := c3
  obtain ⟨fs, rfl, _, h4⟩ := c4
  obtain ⟨l, rfl⟩ := rows_u32 h2
  obtain ⟨m, rfl⟩ := rows_u32 h4
  exact ⟨⟨p, l, q, m⟩, rfl⟩
theorem hasL_split : ∀ {T R : List CT} {ds : List D}, hasL (T ++ R) ds → ∃ a b, ds = a ++ b ∧ hasL T a ∧ hasL R b
  | [], R, ds, h => ⟨[], ds, rfl, rfl, h⟩
  | _ :: T, R, ds, h => by
    have h : hasL (_ :: (T ++ R)) ds := h
    rw [hasL] at h
    obtain ⟨d, r, rfl, h1, h2⟩ := h
    obtain ⟨a, b, rfl, h3, h4⟩ := hasL_split h2
    exact ⟨d :: a, b, rfl, by rw [hasL]; exact ⟨d, a, rfl, h1, h3⟩, h4⟩
theorem ag_of {t : TypeId} {T : List CT} {a : A} (hT : cellTys Tryz.prog 10 t = some T) (ht : tAgg Tryz.prog t = true) (h : hasA Tryz.prog 10 t a) : ∃ ds, a = .ag ds ∧ hasL T ds := by
  obtain ⟨T', hT', h⟩ := h
  rw [hT] at hT'
  obtain rfl := Option.some.inj hT'
  rcases h with ⟨_, ds, rfl, h2⟩ | ⟨h1, _⟩
  · exact ⟨ds, rfl, h2⟩
  · rw [ht] at h1; simp at h1
theorem hasA_box {a : A} (h0 : hasA Tryz.prog 10 28 a) : ∃ x y z w : Rw, a = boxA x y z w := by
  obtain ⟨ds, e0, h⟩ := ag_of boxT_ok (by kernel_rfl) h0
  clear h0
  subst e0
  obtain ⟨d1, r1, rfl, h1, k1⟩ := hasL_split h
  obtain ⟨d2, r2, rfl, h2, k2⟩ := hasL_split k1
  obtain ⟨d3, r3, rfl, h3, h4⟩ := hasL_split k2
  obtain ⟨x, rfl⟩ := rw_of h1
  obtain ⟨y, rfl⟩ := rw_of h2
  obtain ⟨z, rfl⟩ := rw_of h3
  obtain ⟨w, rfl⟩ := rw_of h4
  exact ⟨x, y, z, w, rfl⟩
theorem hasA_vec {a : A} (h0 : hasA Tryz.prog 10 30 a) : ∃ x y : Rw, a = vecA x y := by
  obtain ⟨ds, e0, h⟩ := ag_of vecT_ok (by kernel_rfl) h0
  clear h0
  subst e0
  obtain ⟨d1, r1, e1, h1, h2⟩ := hasL_split h
  obtain ⟨x, rfl⟩ := rw_of h1
  obtain ⟨y, rfl⟩ := rw_of h2
  subst e1
  exact ⟨x, y, rfl⟩
theorem hasA_rat {a : A} (h0 : hasA Tryz.prog 10 26 a) : ∃ x : Rw, a = .ag x.cs := by
  obtain ⟨ds, e0, h⟩ := ag_of ratT_ok (by kernel_rfl) h0
  clear h0
  subst e0
  obtain ⟨x, rfl⟩ := rw_of h
  exact ⟨x, rfl⟩
theorem dist_gives (al : List A) (h : All2 (hasA Tryz.prog 10) [28, 30, 26] al) : Gives CC 3 al [.c (.bool true)] := by
  match al, h with
  | [a, b, c], h =>
    obtain ⟨x, y, z, w, rfl⟩ := hasA_box h.1
    obtain ⟨u, v, rfl⟩ := hasA_vec h.2.1
    obtain ⟨r, rfl⟩ := hasA_rat h.2.2.1
    exact lDistances_ok awake_ok x y z w u v r
  | [], h => exact h.elim
  | [_], h => exact h.2.elim
  | [_, _], h => exact h.2.2.elim
  | _ :: _ :: _ :: _ :: _, h => exact h.2.2.2.elim
end Eng
namespace Go.Proofs.YtkkodaemmgpgfaaGreatDoor
open Go.ChangeShapes Go.WideShapes Go.ChangeAt Go.RowKit
def ratZ : List Value := [.bool false, .slice none 0 0, .bool false, .slice none 0 0]
def boxZ : Value := .agg (ratZ ++ ratZ ++ ratZ ++ ratZ).toArray
def vecZ : Value := .agg (ratZ ++ ratZ).toArray
def radZ : Value := .agg ratZ.toArray
set_option maxRecDepth 100000 in
theorem dist_lifted (os : Os) (started : os.Started) (H : Type) (enc : TypeId × Value → H) :
    ReturnsInHanded {} Tryz.checked os 3 .any (fun w args => (Rows.coverDistancesSpec.pre enc Tryz.prog Tryz.f3 [] false w args ∧ laidMetH Tryz.prog Rows.coverDistancesRow.laid w) ∧ sizedMet enc Tryz.prog Tryz.f3 (OpenSpec.ofChange Rows.coverDistancesSpec) false w args)
      (Rows.coverDistancesSpec.post enc Tryz.prog Tryz.f3 false true false false) := by
  refine returnsInHanded_of_change_and (C := Tryz.checked) (X := fun w _ => laidMetH Tryz.prog Rows.coverDistancesRow.laid w) (fun _ _ _ hh h => h.of_heap hh) Eng.ownK started (by kernel_rfl) Tryz.func3
    (ChangeSpec.witness_shaped (enc := enc) (C := Tryz.checked) (os := os) (X := fun w _ => laidMetH Tryz.prog Rows.coverDistancesRow.laid w) false (World.laidAll Tryz.prog os Rows.coverDistancesRow.laid) #[boxZ, vecZ, radZ] 8 (World.laidAll_os _ _ _)
      (World.shaped_of_ZipB (by kernel_rfl) (by kernel_rfl)) (by kernel_rfl) (by kernel_rfl) (by kernel_rfl)
      (by rw [MakeChecks.laidMetH_plain _ _ _ (by kernel_rfl)]; exact laidMet_laidAll _ (by kernel_rfl) (by kernel_rfl))) ?_
  intro W base args ds gs before hval hW _ _ hL _
  have hrd : (Tryz.f3.params.toList.all fun t => Tryz.prog.readableRec t && (decide (t < Tryz.prog.types.size) && (Eng.cellTys Tryz.prog 10 t).isSome)) = true := by kernel_rfl
  refine Eng.law_call (C := Eng.CC) (m := 10) (bt := 4) Eng.laidOutP Tryz.underlying4 (by kernel_rfl) (fun t ht => ?_) rfl (fun ds hds => ?_) (fun al h => ?_) (Eng.inv_of_laid hL) hval hW
  · have := List.all_eq_true.1 hrd t ht
    simp only [Bool.and_eq_true, decide_eq_true_eq] at this
    exact ⟨this.1, this.2.1, this.2.2⟩
  · have h2 : Tryz.f3.params.size = 3 := by kernel_rfl
    rw [h2] at hds
    match ds, hds with
    | [d1, d2, d3], _ => rfl
  · have hp : Tryz.f3.params = #[28, 30, 26] := by kernel_rfl
    rw [hp] at h
    exact Eng.dist_gives al h
theorem cell_inPlace : (Rows.coverDistancesRow.inPlace == Tryz.pinned.checked.prog.inPlace 3) = true := by kernel_rfl
theorem cell_unfollowed : (Rows.coverDistancesRow.unfollowed == Tryz.pinned.checked.prog.unfollowed 3) = true := by kernel_rfl
theorem cell_recurses : (Rows.coverDistancesRow.recurses == Tryz.pinned.checked.prog.recurses 3) = true := by kernel_rfl
theorem cell_named : (Rows.coverDistancesRow.named == Tryz.pinned.checked.prog.varsNamed 3) = true := by kernel_rfl
theorem cell_wf : Rows.coverDistancesRow.wf (OpenSpec.ofChange Rows.coverDistancesSpec) = true := by kernel_rfl
theorem cell_laidOut : laidOutB Tryz.pinned.checked.prog = true := by kernel_rfl
theorem cell_mapsRowed : mapsRowed Tryz.pinned.checked.prog = true := by kernel_rfl
theorem cell_enter : Tryz.pinned.checked.prog.mayEnter = true := by kernel_rfl
theorem cell_heard : Tryz.pinned.checked.prog.stopsHeard = true := by kernel_rfl
theorem cell_lifted : (Rows.coverDistancesRow.lifted == Tryz.pinned.checked.prog.liftsFinal) = true := by kernel_rfl
theorem cell_keys : (Rows.coverDistancesRow.plainKeys == Tryz.pinned.checked.prog.plainKeys) = true := by kernel_rfl
theorem cell_joined : joinedFacts Tryz.pinned.checked.prog 3 Tryz.f3 Rows.coverDistancesSpec Rows.coverDistancesRow = true := by
  unfold joinedFacts
  rw [cell_inPlace, cell_unfollowed, cell_recurses, cell_named, cell_wf, cell_laidOut, cell_mapsRowed, cell_enter, cell_heard, cell_lifted, cell_keys]
  kernel_rfl
theorem cell_name : Tryz.pinned.checked.prog.funcNamed Rows.coverDistancesRow.func = some 3 := by kernel_rfl
theorem cell_wrap : Tryz.f3.isWrapper Tryz.pinned.checked.prog Rows.coverDistancesRow.wrapper Rows.coverDistancesRow.mainSum := by
  unfold Func.isWrapper; first | (rw [if_pos (by decide +kernel)]; kernel_rfl) | (rw [if_neg (by decide +kernel)]; exact ⟨rfl, rfl⟩)
theorem cell_inst : Tryz.f3.isInstance Tryz.pinned.checked.prog Rows.coverDistancesRow.origin Rows.coverDistancesRow.targs := of_decide_eq_true (by kernel_rfl)
theorem coverDistances_holds : Rows.CoverDistancesSaid :=
  OpenClaim.holds_of_wide 3 Tryz.f3 rfl rfl rfl rfl rfl rfl rfl ⟨rfl, rfl, rfl, rfl, rfl⟩ rfl rfl rfl rfl rfl cell_name Tryz.func3 cell_joined cell_inst cell_wrap
    (fun os started H enc _ => dist_lifted os started H enc)
theorem cell_text : Rows.coverDistancesRow.wfByText (OpenSpec.ofChange Rows.coverDistancesSpec) = true := by kernel_rfl
theorem cell_main : Tryz.pinned.checked.prog.mainIs = some (true, "e719625e60fb266ad019ca96d3db21a2b65ef0fb0f1ee13099a318514e3a4052".toList) := by kernel_rfl
theorem cell_looks : false = Tryz.pinned.checked.prog.looks [] := by kernel_rfl
theorem cell_goes : false = Rows.coverDistancesRow.goesBy Tryz.pinned.checked.prog := by kernel_rfl
theorem cell_stand : ([28, 30, 26].all fun u => !Tryz.prog.wantsStandIn u) = true := by kernel_rfl
theorem coverDistances_card : Rows.CoverDistancesCardSaid :=
  Claim7.holds_tied_plain_at .later [] [.data, .data, .data] true (true, "e719625e60fb266ad019ca96d3db21a2b65ef0fb0f1ee13099a318514e3a4052") false coverDistances_holds (fun _ h => by cases h) cell_text (fun _ h => by cases h) coverDistances_row_tie rfl ⟨rfl, rfl⟩ cell_main rfl
    (fun f fn hf hfn => by
      obtain rfl : f = 3 := Option.some.inj (cell_name.symm.trans hf) |>.symm
      obtain rfl : fn = Tryz.f3 := (Option.some.inj (Tryz.func3.symm.trans hfn)).symm
      exact ⟨cell_looks, fun j t ht => by
        have hp : Tryz.f3.params = #[28, 30, 26] := by kernel_rfl
        rw [hp] at ht
        have hm : t ∈ [28, 30, 26] := by simpa using Array.mem_of_getElem? ht
        exact (show Tryz.prog.wantsStandIn t = false by simpa using List.all_eq_true.1 cell_stand t hm)⟩)
    cell_goes
#print axioms coverDistances_card
end Go.Proofs.YtkkodaemmgpgfaaGreatDoor
end
