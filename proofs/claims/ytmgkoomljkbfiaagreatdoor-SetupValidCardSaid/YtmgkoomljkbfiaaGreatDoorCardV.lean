/- PROVED HERE: swarflaw26.SetupValid returns true for every setup that can be read as data, and leaves its arguments as they were. Conditions: those of the given card alone (package-level variables as the program's text lays them). -/
import Derived.Test.YtmgkoomljkbfiaaGreatDoorCardA
import Derived.Test.YtmgkoomljkbfiaaGreatDoorValA
import Derived.Test.YtmgkoomljkbfiaaGreatDoorAw6
section
/- PROVED HERE: swarflaw26.SetupValid returns true for every setup that can be read as data, and leaves its arguments as they were. Conditions: those of the given card alone (package-level variables as the program's text lays them). -/
namespace Eng
open Go Go.Proofs
set_option maxRecDepth 100000

def i64T : CT := .int .i64
def clTy : List CT := [i64T, i64T, i64T, i64T, i64T]
def suT : List CT := [i64T, i64T, i64T, i64T, i64T, i64T, .sl clTy, i64T]
theorem suT_ok : cellTys Tryz.prog 10 24 = some suT := by kernel_rfl
theorem rows_cl : ∀ {es : List (List D)}, (∀ r ∈ es, hasL clTy r) → ∃ l, es = clRs l
  | [], _ => ⟨[], rfl⟩
  | r :: es, h => by
    obtain ⟨l, hl⟩ := rows_cl (es := es) fun r hr => h r (by simp [hr])
    have h1 := h r (by simp)
    simp only [clTy, i64T, hasL, hasC] at h1
    obtain ⟨d1, r1, rfl, ⟨n1, rfl, _⟩, d2, r2, rfl, ⟨n2, rfl, _⟩, d3, r3, rfl, ⟨n3, rfl, _⟩, d4, r4, rfl, ⟨n4, rfl, _⟩, d5, r5, rfl, ⟨n5, rfl, _⟩, rfl⟩ := h1
    exact ⟨⟨n1, n2, n3, n4, n5⟩ :: l, by rw [hl]; rfl⟩

theorem hasA_su {a : A} (h : hasA Tryz.prog 10 24 a) : ∃ s : Su, a = encS s ∧ s.cl.length ≤ maxLen := by
  obtain ⟨T, hT, h⟩ := h
  rw [suT_ok] at hT
  obtain rfl := Option.some.inj hT
  rcases h with ⟨h1, ds, rfl, h2⟩ | ⟨h1, d, rfl, h2⟩
  · simp only [suT, i64T, hasL] at h2
    obtain ⟨d1, r1, rfl, c1, d2, r2, rfl, c2, d3, r3, rfl, c3, d4, r4, rfl, c4, d5, r5, rfl, c5, d6, r6, rfl, c6, d7, r7, rfl, c7, d8, r8, rfl, c8, rfl⟩ := h2
    simp only [hasC] at c1 c2 c3 c4 c5 c6 c7 c8
    obtain ⟨n1, rfl, _⟩ := c1
    obtain ⟨n2, rfl, _⟩ := c2
    obtain ⟨n3, rfl, _⟩ := c3
    obtain ⟨n4, rfl, _⟩ := c4
    obtain ⟨n5, rfl, _⟩ := c5
    obtain ⟨n6, rfl, _⟩ := c6
    obtain ⟨es, rfl, hl, hr⟩ := c7
    obtain ⟨n8, rfl, _⟩ := c8
    obtain ⟨l, rfl⟩ := rows_cl hr
    exact ⟨⟨n1, n2, n3, n4, n5, n6, l, n8⟩, rfl, by rw [clRs_length] at hl; exact hl⟩
  · exact absurd h1 (by rw [show tAgg Tryz.prog 24 = true by kernel_rfl]; simp)

theorem valid_gives (al : List A) (h : All2 (hasA Tryz.prog 10) [24] al) : Gives CC 3 al [.c (.bool true)] := by
  match al, h with
  | [a], h =>
    obtain ⟨s, rfl, _⟩ := hasA_su h.1
    exact lValid_ok awake_ok s
  | [], h => exact h.elim
  | _ :: _ :: _, h => exact h.2.elim
end Eng
namespace Go.Proofs.YtmgkoomljkbfiaaGreatDoor
open Go.ChangeShapes Go.WideShapes Go.ChangeAt Go.RowKit

def suZ : Value := .agg #[.int .i64 0, .int .i64 0, .int .i64 0, .int .i64 0, .int .i64 0, .int .i64 0, .slice none 0 0, .int .i64 0]

set_option maxRecDepth 100000 in
theorem valid_lifted (os : Os) (started : os.Started) (H : Type) (enc : TypeId × Value → H) :
    ReturnsInHanded {} Tryz.checked os 3 .any (fun w args => (Rows.setupValidSpec.pre enc Tryz.prog Tryz.f3 [] false w args ∧ laidMetH Tryz.prog Rows.setupValidRow.laid w) ∧ sizedMet enc Tryz.prog Tryz.f3 (OpenSpec.ofChange Rows.setupValidSpec) false w args)
      (Rows.setupValidSpec.post enc Tryz.prog Tryz.f3 false true false false) := by
  refine returnsInHanded_of_change_and (C := Tryz.checked) (X := fun w _ => laidMetH Tryz.prog Rows.setupValidRow.laid w) (fun _ _ _ hh h => h.of_heap hh) Eng.ownK started (by kernel_rfl) Tryz.func3
    (ChangeSpec.witness_shaped (enc := enc) (C := Tryz.checked) (os := os) (X := fun w _ => laidMetH Tryz.prog Rows.setupValidRow.laid w) false (World.laidAll Tryz.prog os Rows.setupValidRow.laid) #[suZ] 8 (World.laidAll_os _ _ _)
      (World.shaped_of_ZipB (by kernel_rfl) (by kernel_rfl)) (by kernel_rfl) (by kernel_rfl) (by kernel_rfl)
      (by rw [MakeChecks.laidMetH_plain _ _ _ (by kernel_rfl)]; exact laidMet_laidAll _ (by kernel_rfl) (by kernel_rfl))) ?_
  intro W base args ds gs before hval hW _ _ hL _
  have hrd : (Tryz.f3.params.toList.all fun t => Tryz.prog.readableRec t && (decide (t < Tryz.prog.types.size) && (Eng.cellTys Tryz.prog 10 t).isSome)) = true := by kernel_rfl
  refine Eng.law_call (C := Eng.CC) (m := 10) (bt := 4) Eng.laidOutP Tryz.underlying4 (by kernel_rfl) (fun t ht => ?_) rfl (fun ds hds => ?_) (fun al h => ?_) (Eng.inv_of_laid hL) hval hW
  · have := List.all_eq_true.1 hrd t ht
    simp only [Bool.and_eq_true, decide_eq_true_eq] at this
    exact ⟨this.1, this.2.1, this.2.2⟩
  · have h2 : Tryz.f3.params.size = 1 := by kernel_rfl
    rw [h2] at hds
    match ds, hds with
    | [d1], _ => rfl
  · have hp : Tryz.f3.params = #[24] := by kernel_rfl
    rw [hp] at h
    exact Eng.valid_gives al h

theorem setupValid_holds : Rows.SetupValidSaid :=
  OpenClaim.holds_of_wide 3 Tryz.f3 rfl rfl rfl rfl rfl rfl rfl ⟨rfl, rfl, rfl, rfl, rfl⟩ rfl rfl rfl rfl rfl (by kernel_rfl) Tryz.func3 (by kernel_rfl)
    (of_decide_eq_true (by kernel_rfl)) (by unfold Func.isWrapper; first | (rw [if_pos (by decide +kernel)]; kernel_rfl) | (rw [if_neg (by decide +kernel)]; exact ⟨rfl, rfl⟩))
    (fun os started H enc _ => valid_lifted os started H enc)

theorem setupValid_card : Rows.SetupValidCardSaid :=
  Claim7.holds_tied_plain_at .later [] [.data, .data, .data, .data, .sentinel, .sentinel, .pinned] true (true, "c695d6ec99e4cf8f3283b7b4ab221d50451edd311a0cd29591aab79d5afb3e45") true setupValid_holds (fun _ h => by cases h) (by kernel_rfl) (fun _ h => by cases h) setupValid_row_tie rfl ⟨rfl, rfl⟩ (by kernel_rfl) rfl
    (fun f fn hf hfn => by
      obtain rfl : f = 3 := Option.some.inj ((show Tryz.prog.funcNamed "swarf/swarflaw26.SetupValid" = some 3 by kernel_rfl).symm.trans hf) |>.symm
      obtain rfl : fn = Tryz.f3 := (Option.some.inj (Tryz.func3.symm.trans hfn)).symm
      exact ⟨by kernel_rfl, fun j t ht => by
        have hp : Tryz.f3.params = #[24] := by kernel_rfl
        rw [hp] at ht
        have hm : t ∈ [24] := by simpa using Array.mem_of_getElem? ht
        have hall : ([24].all fun u => !Tryz.prog.wantsStandIn u) = true := by kernel_rfl
        exact (show Tryz.prog.wantsStandIn t = false by simpa using List.all_eq_true.1 hall t hm)⟩)
    (by kernel_rfl)
#print axioms setupValid_card
end Go.Proofs.YtmgkoomljkbfiaaGreatDoor
end
