/- PROVED HERE: swarflaw19.CoverCheck returns true for every input that can be read as data, and leaves its arguments as they were. Conditions: those of the given card alone (package-level variables as the program's text lays them; none is read). -/
import Derived.Test.YtkaghlcopjaclaaGreatDoorPaA
import Derived.Test.YtkaghlcopjaclaaGreatDoorPcA
import Derived.Test.YtkaghlcopjaclaaGreatDoorAwk
import Derived.Test.YtkaghlcopjaclaaGreatDoorRows
import Derived.Test.YtkaghlcopjaclaaGreatDoorCards
import Derived.Test.YtkaghlcopjaclaaGreatDoorTie
import Derived.ProofKit
import Derived.LaidMore
import Derived.Lay
import Derived.SevenTiedAt
import Derived.Stop.Joined
import Derived.Stop.LaidErr
section
namespace Eng
open Go Go.Proofs Go.ChangeShapes Go.WideShapes Go.ChangeAt Go.RowKit
set_option maxRecDepth 100000
theorem ownK : ownKnob Tryz.prog.godebug = none := by kernel_rfl
theorem nY : laidOutB Tryz.prog = true := by kernel_rfl
theorem nZ {W : World} : Inv CC (λb => b < W.heap.size) W := λg cs hg => by
  have : (none : Option (List D)) = some cs := hg
  cases this
def u8T : CT := .int .u8
def i8T : CT := .int .i8
def prT : List CT := [i8T, i8T]
def fmT : List CT := [u8T, u8T, i8T, i8T, i8T, i8T, .sl prT]
def csT : List CT := [.sl fmT, u8T, .int .i16, .int .i16, u8T]
theorem iL : js Tryz.prog 10 28 = some csT := by kernel_rfl
theorem iM : js Tryz.prog 10 5 = some [u8T] := by kernel_rfl
theorem Sw {d : D} (h : LB u8T d) : ∃ n : Nat, d = .int .u8 n /\ n < 256 := by
  simp only [u8T, LB] at h
  obtain ⟨n, rfl, hw⟩ := h
  have e1 : IntKind.min .u8 = 0 := rfl
  have e2 : IntKind.max .u8 = 255 := rfl
  simp only [Lit.wf, e1, e2, Bool.and_eq_true, decide_eq_true_eq] at hw
  exact ⟨n.toNat, by rw [Int.toNat_of_nonneg hw.1], by omega⟩
theorem Pp {d : D} (h : LB i8T d) : ∃ z : Int, d = .int .i8 z /\ sm8 z := by
  simp only [i8T, LB] at h
  obtain ⟨n, rfl, hw⟩ := h
  have e1 : IntKind.min .i8 = -128 := rfl
  have e2 : IntKind.max .i8 = 127 := rfl
  simp only [Lit.wf, e1, e2, Bool.and_eq_true, decide_eq_true_eq] at hw
  exact ⟨n, rfl, by omega, by omega⟩
theorem ak {d : D} (h : LB (.int .i16) d) : ∃ z : Int, d = .int .i16 z /\ Sp z := by
  simp only [LB] at h
  obtain ⟨n, rfl, hw⟩ := h
  have e1 : IntKind.min .i16 = -32768 := rfl
  have e2 : IntKind.max .i16 = 32767 := rfl
  simp only [Lit.wf, e1, e2, Bool.and_eq_true, decide_eq_true_eq] at hw
  exact ⟨n, rfl, by omega, by omega⟩
theorem am : ∀ {es : List (List D)}, (∀ r ∈ es, Qi prT r) -> ∃ l : List (Int × Int), es = l.map kPr /\ ∀ p ∈ l, sm8 p.1 /\ sm8 p.2
  | [], _ => ⟨[], rfl, by simp⟩
  | r :: es, h => by
    obtain ⟨l, rfl, hl⟩ := am (es := es) λr hr => h r (by simp [hr])
    have h := h r (by simp)
    simp only [prT, Qi] at h
    obtain ⟨d1, r1, rfl, h1, d2, r2, rfl, h2, rfl⟩ := h
    obtain ⟨x, rfl, hx⟩ := Pp h1
    obtain ⟨y, rfl, hy⟩ := Pp h2
    refine ⟨(x, y) :: l, rfl, λp hp => ?_⟩
    rcases List.mem_cons.1 hp with rfl | hp
    · exact ⟨hx, hy⟩
    · exact hl p hp
theorem ao : ∀ {es : List (List D)}, (∀ r ∈ es, Qi fmT r) -> ∃ l : List Fm, es = l.map kFm /\ ∀ f ∈ l, f.ok
  | [], _ => ⟨[], rfl, by simp⟩
  | r :: es, h => by
    obtain ⟨l, rfl, hl⟩ := ao (es := es) λr hr => h r (by simp [hr])
    have h := h r (by simp)
    simp only [fmT, Qi] at h
    obtain ⟨d1, r1, rfl, h1, d2, r2, rfl, h2, d3, r3, rfl, h3, d4, r4, rfl, h4, d5, r5, rfl, h5, d6, r6, rfl, h6, d7, r7, rfl, h7, rfl⟩ := h
    obtain ⟨k, rfl, hk⟩ := Sw h1
    obtain ⟨u, rfl, hu⟩ := Sw h2
    obtain ⟨a, rfl, ha⟩ := Pp h3
    obtain ⟨b, rfl, hb⟩ := Pp h4
    obtain ⟨c, rfl, hc⟩ := Pp h5
    obtain ⟨d, rfl, hd⟩ := Pp h6
    simp only [LB] at h7
    obtain ⟨es7, rfl, _, h7⟩ := h7
    obtain ⟨ps, rfl, hp⟩ := am h7
    refine ⟨⟨k, u, a, b, c, d, ps⟩ :: l, rfl, λf hf => ?_⟩
    rcases List.mem_cons.1 hf with rfl | hf
    · exact ⟨hk, hu, ha, hb, hc, hd, hp⟩
    · exact hl f hf
theorem Sx {a : A} (h0 : aA Tryz.prog 10 5 a) : ∃ n : Nat, a = .c (.int .u8 n) /\ n < 256 := by
  obtain ⟨T, hT, h⟩ := h0
  rw [iM] at hT
  obtain rfl := Option.some.inj hT
  rcases h with ⟨h1, _⟩ | ⟨_, d, rfl, h2⟩
  · have h3 : y9 Tryz.prog 5 = false := by kernel_rfl
    rw [h3] at h1; simp at h1
  · simp only [Qi] at h2
    obtain ⟨d1, r1, e, h2, rfl⟩ := h2
    simp only [List.cons.injEq, and_true] at e
    subst e
    obtain ⟨n, rfl, hn⟩ := Sw h2
    exact ⟨n, rfl, hn⟩
theorem Sy {a : A} (h0 : aA Tryz.prog 10 28 a) : ∃ (s : List Fm) (k : Nat) (x y : Int) (d : Nat), a = .ag [.sl (s.map kFm), .int .u8 k, .int .i16 x, .int .i16 y, .int .u8 d] /\ (∀ f ∈ s, f.ok) /\ Sp x /\ Sp y /\ d < 256 := by
  obtain ⟨T, hT, h⟩ := h0
  rw [iL] at hT
  obtain rfl := Option.some.inj hT
  rcases h with ⟨_, ds, rfl, h2⟩ | ⟨h1, _⟩
  · simp only [csT, Qi] at h2
    obtain ⟨d1, r1, rfl, h1, d2, r2, rfl, h2, d3, r3, rfl, h3, d4, r4, rfl, h4, d5, r5, rfl, h5, rfl⟩ := h2
    simp only [LB] at h1
    obtain ⟨es, rfl, _, h1⟩ := h1
    obtain ⟨s, rfl, hs⟩ := ao h1
    obtain ⟨k, rfl, _⟩ := Sw h2
    obtain ⟨x, rfl, hx⟩ := ak h3
    obtain ⟨y, rfl, hy⟩ := ak h4
    obtain ⟨u, rfl, hu⟩ := Sw h5
    exact ⟨s, k, x, y, u, rfl, hs, hx, hy, hu⟩
  · have h3 : y9 Tryz.prog 28 = true := by kernel_rfl
    rw [h3] at h1; simp at h1
theorem iN (al : List A) (h : All2 (aA Tryz.prog 10) [28, 5, 5] al) : qa CC 3 al [.c (.bool true)] := by
  match al, h with
  | [a, b, c], h =>
    obtain ⟨s, k, x, y, d, rfl, hs, hx, hy, hd⟩ := Sy h.1
    obtain ⟨dp, rfl, _⟩ := Sx h.2.1
    obtain ⟨ch, rfl, hc⟩ := Sx h.2.2.1
    exact EM EY hs hx hy hd hc
  | [], h => exact h.elim
  | [_], h => exact h.2.elim
  | [_, _], h => exact h.2.2.elim
  | _ :: _ :: _ :: _ :: _, h => exact h.2.2.2.elim
end Eng
namespace Go.Proofs.YtkaghlcopjaclaaGreatDoor
open Go.ChangeShapes Go.WideShapes Go.ChangeAt Go.RowKit
def pc : Value := .agg #[.slice none 0 0, .int .u8 0, .int .i16 0, .int .i16 0, .int .u8 0]
set_option maxRecDepth 100000 in
theorem Pq (os : Os) (started : os.Started) (H : Type) (enc : TypeId × Value -> H) :
    ReturnsInHanded {} Tryz.checked os 3 .any (λw args => (Rows.coverCheckSpec.pre enc Tryz.prog Tryz.f3 [] false w args /\ laidMetH Tryz.prog Rows.coverCheckRow.laid w) /\ sizedMet enc Tryz.prog Tryz.f3 (OpenSpec.ofChange Rows.coverCheckSpec) false w args)
      (Rows.coverCheckSpec.post enc Tryz.prog Tryz.f3 false true false false) := by
  refine returnsInHanded_of_change_and (C := Tryz.checked) (X := λw _ => laidMetH Tryz.prog Rows.coverCheckRow.laid w) (λ_ _ _ hh h => h.of_heap hh) Eng.ownK started (by kernel_rfl) Tryz.func3
    (ChangeSpec.witness_shaped (enc := enc) (C := Tryz.checked) (os := os) (X := λw _ => laidMetH Tryz.prog Rows.coverCheckRow.laid w) false (World.laidAll Tryz.prog os Rows.coverCheckRow.laid) #[pc, .int .u8 0, .int .u8 0] 8 (World.laidAll_os _ _ _)
      (World.shaped_of_ZipB (by kernel_rfl) (by kernel_rfl)) (by kernel_rfl) (by kernel_rfl) (by kernel_rfl)
      (by rw [MakeChecks.laidMetH_plain _ _ _ (by kernel_rfl)]; exact laidMet_laidAll _ (by kernel_rfl) (by kernel_rfl))) ?_
  intro W base args ds gs before hval hW _ _ _ _
  have hrd : (Tryz.f3.params.toList.all λt => Tryz.prog.readableRec t && (decide (t < Tryz.prog.types.size) && (Eng.js Tryz.prog 10 t).isSome)) = true := by kernel_rfl
  refine Eng.oB (C := Eng.CC) (m := 10) (bt := 4) Eng.nY Tryz.underlying4 (by kernel_rfl) (λt ht => ?_) rfl (λds hds => ?_) (λal h => ?_) Eng.nZ hval hW
  · have := List.all_eq_true.1 hrd t ht
    simp only [Bool.and_eq_true, decide_eq_true_eq] at this
    exact ⟨this.1, this.2.1, this.2.2⟩
  · have h2 : Tryz.f3.params.size = 3 := by kernel_rfl
    rw [h2] at hds
    match ds, hds with
    | [d1, d2, d3], _ => rfl
  · have hp : Tryz.f3.params = #[28, 5, 5] := by kernel_rfl
    rw [hp] at h
    exact Eng.iN al h
theorem Hr : (Rows.coverCheckRow.inPlace == Tryz.pinned.checked.prog.inPlace 3) = true := by kernel_rfl
theorem Ko : (Rows.coverCheckRow.unfollowed == Tryz.pinned.checked.prog.unfollowed 3) = true := by kernel_rfl
theorem YF : (Rows.coverCheckRow.recurses == Tryz.pinned.checked.prog.recurses 3) = true := by kernel_rfl
theorem Pr : (Rows.coverCheckRow.named == Tryz.pinned.checked.prog.varsNamed 3) = true := by kernel_rfl
theorem c8 : Rows.coverCheckRow.wf (OpenSpec.ofChange Rows.coverCheckSpec) = true := by kernel_rfl
theorem Hs : laidOutB Tryz.pinned.checked.prog = true := by kernel_rfl
theorem Vo : mapsRowed Tryz.pinned.checked.prog = true := by kernel_rfl
theorem Ps : Tryz.pinned.checked.prog.mayEnter = true := by kernel_rfl
theorem Pt : Tryz.pinned.checked.prog.stopsHeard = true := by kernel_rfl
theorem TU : (Rows.coverCheckRow.lifted == Tryz.pinned.checked.prog.liftsFinal) = true := by kernel_rfl
theorem S0 : (Rows.coverCheckRow.plainKeys == Tryz.pinned.checked.prog.plainKeys) = true := by kernel_rfl
theorem TV : joinedFacts Tryz.pinned.checked.prog 3 Tryz.f3 Rows.coverCheckSpec Rows.coverCheckRow = true := by
  unfold joinedFacts
  rw [Hr, Ko, YF, Pr, c8, Hs, Vo, Ps, Pt, TU, S0]
  kernel_rfl
theorem cell_name : Tryz.pinned.checked.prog.funcNamed Rows.coverCheckRow.func = some 3 := by kernel_rfl
theorem S1 : Tryz.f3.isWrapper Tryz.pinned.checked.prog Rows.coverCheckRow.wrapper Rows.coverCheckRow.mainSum := by
  unfold Func.isWrapper; first | (rw [if_pos (by decide +kernel)]; kernel_rfl) | (rw [if_neg (by decide +kernel)]; exact ⟨rfl, rfl⟩)
theorem S2 : Tryz.f3.isInstance Tryz.pinned.checked.prog Rows.coverCheckRow.origin Rows.coverCheckRow.targs := of_decide_eq_true (by kernel_rfl)
theorem J6 : Rows.CoverCheckSaid :=
  OpenClaim.holds_of_wide 3 Tryz.f3 rfl rfl rfl rfl rfl rfl rfl ⟨rfl, rfl, rfl, rfl, rfl⟩ rfl rfl rfl rfl rfl cell_name Tryz.func3 TV S2 S1
    (λos started H enc _ => Pq os started H enc)
theorem S3 : Rows.coverCheckRow.wfByText (OpenSpec.ofChange Rows.coverCheckSpec) = true := by kernel_rfl
theorem S4 : Tryz.pinned.checked.prog.mainIs = some (true, "253e1800a55db5c92b1938c9c6b10e3d24b6be78ccc7c0960579b1dd35c08bf3".toList) := by kernel_rfl
theorem Pu : false = Tryz.pinned.checked.prog.looks [] := by kernel_rfl
theorem S5 : false = Rows.coverCheckRow.goesBy Tryz.pinned.checked.prog := by kernel_rfl
theorem Pv : ([28, 5].all λu => !Tryz.prog.wantsStandIn u) = true := by kernel_rfl
theorem Kp : Rows.CoverCheckCardSaid :=
  Claim7.holds_tied_plain_at .later [] [.data, .data, .data] true (true, "253e1800a55db5c92b1938c9c6b10e3d24b6be78ccc7c0960579b1dd35c08bf3") false J6 (λ_ h => by cases h) S3 (λ_ h => by cases h) coverCheck_row_tie rfl ⟨rfl, rfl⟩ S4 rfl
    (λf fn hf hfn => by
      obtain rfl : f = 3 := Option.some.inj (cell_name.symm.trans hf) |>.symm
      obtain rfl : fn = Tryz.f3 := (Option.some.inj (Tryz.func3.symm.trans hfn)).symm
      exact ⟨Pu, λj t ht => by
        have hp : Tryz.f3.params = #[28, 5, 5] := by kernel_rfl
        rw [hp] at ht
        have hm : t ∈ [28, 5] := by
          have := Array.mem_of_getElem? ht
          simpa using this
        exact (show Tryz.prog.wantsStandIn t = false by simpa using List.all_eq_true.1 Pv t hm)⟩)
    S5
#print axioms Kp
end Go.Proofs.YtkaghlcopjaclaaGreatDoor
end
