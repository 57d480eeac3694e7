/- Chapter 25's claims: what comes in; the frame. -/
import Derived.Test.YtfipmjpmflmbbaaGreatDPbB
import Derived.Test.YtfipmjpmflmbbaaGreatDPaA
import Derived.Test.YtfipmjpmflmbbaaGreatDPaF
import Derived.Test.YtfipmjpmflmbbaaGreatRows
import Derived.ProofKit
import Derived.LaidMore
import Derived.Lay
import Derived.SevenTiedAt
import Derived.Stop.Joined
import Derived.Stop.LaidErr
section
namespace Eng
open Go Go.Proofs Go.ChangeShapes Go.WideShapes Go.ChangeAt Go.RowKit
set_option maxRecDepth 100000
theorem ownK : ownKnob Tryz.prog.godebug = none := by kernel_rfl
theorem nR : laidOutB Tryz.prog = true := by kernel_rfl
theorem nS {W : World} : Inv CC (fun b => b < W.heap.size) W := fun g cs hg => by
  have : (none : Option (List D)) = some cs := hg
  cases this
def u8T : CT := .int .u8
def i8T : CT := .int .i8
def prT : List CT := [i8T, i8T]
def fmT : List CT := [u8T, u8T, i8T, i8T, i8T, i8T, .sl prT]
def itT : List CT := [u8T, u8T, u8T, .sl fmT, i8T, i8T]
theorem gY : zD Tryz.prog 10 23 = some [.sl itT] := by kernel_rfl
theorem aq : zD Tryz.prog 10 9 = some [.str] := by kernel_rfl
theorem OO {d : D} (h : GB u8T d) : ∃ n : Nat, d = .int .u8 n ∧ n < 256 := by
  simp only [u8T, GB] at h
  obtain ⟨n, rfl, hw⟩ := h
  have e1 : IntKind.min .u8 = 0 := rfl
  have e2 : IntKind.max .u8 = 255 := rfl
  simp only [Lit.wf, e1, e2, Bool.and_eq_true, decide_eq_true_eq] at hw
  exact ⟨n.toNat, by rw [Int.toNat_of_nonneg hw.1], by omega⟩
theorem GG {d : D} (h : GB i8T d) : ∃ z : Int, d = .int .i8 z ∧ sm8 z := by
  simp only [i8T, GB] at h
  obtain ⟨n, rfl, hw⟩ := h
  have e1 : IntKind.min .i8 = -128 := rfl
  have e2 : IntKind.max .i8 = 127 := rfl
  simp only [Lit.wf, e1, e2, Bool.and_eq_true, decide_eq_true_eq] at hw
  exact ⟨n, rfl, by omega, by omega⟩
theorem AT : ∀ {es : List (List D)}, (∀ r ∈ es, vW prT r) → ∃ l : List (Int × Int), es = l.map kPr ∧ ∀ p ∈ l, sm8 p.1 ∧ sm8 p.2
  | [], _ => ⟨[], rfl, by simp⟩
  | r :: es, h => by
    obtain ⟨l, rfl, hl⟩ := AT (es := es) fun r hr => h r (by simp [hr])
    have h := h r (by simp)
    simp only [prT, vW] at h
    obtain ⟨d1, r1, rfl, h1, d2, r2, rfl, h2, rfl⟩ := h
    obtain ⟨x, rfl, hx⟩ := GG h1
    obtain ⟨y, rfl, hy⟩ := GG h2
    refine ⟨(x, y) :: l, rfl, fun p hp => ?_⟩
    rcases List.mem_cons.1 hp with rfl | hp
    · exact ⟨hx, hy⟩
    · exact hl p hp
theorem AU : ∀ {es : List (List D)}, (∀ r ∈ es, vW fmT r) → ∃ l : List Fm, es = l.map kFm ∧ ∀ f ∈ l, f.ok
  | [], _ => ⟨[], rfl, by simp⟩
  | r :: es, h => by
    obtain ⟨l, rfl, hl⟩ := AU (es := es) fun r hr => h r (by simp [hr])
    have h := h r (by simp)
    simp only [fmT, vW] at h
    obtain ⟨d1, r1, rfl, h1, d2, r2, rfl, h2, d3, r3, rfl, h3, d4, r4, rfl, h4, d5, r5, rfl, h5, d6, r6, rfl, h6, d7, r7, rfl, h7, rfl⟩ := h
    obtain ⟨k, rfl, hk⟩ := OO h1
    obtain ⟨u, rfl, hu⟩ := OO h2
    obtain ⟨a, rfl, ha⟩ := GG h3
    obtain ⟨b, rfl, hb⟩ := GG h4
    obtain ⟨c, rfl, hc⟩ := GG h5
    obtain ⟨d, rfl, hd⟩ := GG h6
    simp only [GB] at h7
    obtain ⟨es7, rfl, _, h7⟩ := h7
    obtain ⟨ps, rfl, hp⟩ := AT h7
    refine ⟨⟨k, u, a, b, c, d, ps⟩ :: l, rfl, fun f hf => ?_⟩
    rcases List.mem_cons.1 hf with rfl | hf
    · exact ⟨hk, hu, ha, hb, hc, hd, hp⟩
    · exact hl f hf
theorem AV : ∀ {es : List (List D)}, (∀ r ∈ es, vW itT r) → ∃ l : List It, es = l.map kIt ∧ ∀ i ∈ l, i.ok
  | [], _ => ⟨[], rfl, by simp⟩
  | r :: es, h => by
    obtain ⟨l, rfl, hl⟩ := AV (es := es) fun r hr => h r (by simp [hr])
    have h := h r (by simp)
    simp only [itT, vW] at h
    obtain ⟨d1, r1, rfl, h1, d2, r2, rfl, h2, d3, r3, rfl, h3, d4, r4, rfl, h4, d5, r5, rfl, h5, d6, r6, rfl, h6, rfl⟩ := h
    obtain ⟨k, rfl, hk⟩ := OO h1
    obtain ⟨n, rfl, hn⟩ := OO h2
    obtain ⟨d, rfl, hd⟩ := OO h3
    obtain ⟨x, rfl, hx⟩ := GG h5
    obtain ⟨y, rfl, hy⟩ := GG h6
    simp only [GB] at h4
    obtain ⟨es4, rfl, _, h4⟩ := h4
    obtain ⟨fs, rfl, hf⟩ := AU h4
    refine ⟨⟨k, n, d, fs, x, y⟩ :: l, rfl, fun i hi => ?_⟩
    rcases List.mem_cons.1 hi with rfl | hi
    · exact ⟨hk, hn, hd, hf, hx, hy⟩
    · exact hl i hi
theorem ar {a : A} (h0 : DB Tryz.prog 10 23 a) : ∃ l : List It, a = .c (.sl (l.map kIt)) ∧ ∀ i ∈ l, i.ok := by
  obtain ⟨T, hT, h⟩ := h0
  rw [gY] at hT
  obtain rfl := Option.some.inj hT
  rcases h with ⟨h1, _⟩ | ⟨_, d, rfl, h2⟩
  · have h3 : vd Tryz.prog 23 = false := by kernel_rfl
    rw [h3] at h1; simp at h1
  · simp only [vW] at h2
    obtain ⟨d1, r1, e, h2, rfl⟩ := h2
    simp only [List.cons.injEq, and_true] at e
    subst e
    simp only [GB] at h2
    obtain ⟨es, rfl, _, h2⟩ := h2
    obtain ⟨l, rfl, hl⟩ := AV h2
    exact ⟨l, rfl, hl⟩
theorem nT {a : A} (h0 : DB Tryz.prog 10 9 a) : ∃ s : List UInt8, a = .c (.str s) := by
  obtain ⟨T, hT, h⟩ := h0
  rw [aq] at hT
  obtain rfl := Option.some.inj hT
  rcases h with ⟨h1, _⟩ | ⟨_, d, rfl, h2⟩
  · have h3 : vd Tryz.prog 9 = false := by kernel_rfl
    rw [h3] at h1; simp at h1
  · simp only [vW, GB] at h2
    obtain ⟨d1, r1, e, ⟨s, rfl, _⟩, rfl⟩ := h2
    simp only [List.cons.injEq, and_true] at e
    exact ⟨s, by rw [e]⟩
def AW (al : List A) : Prop := ∀ (l : List It) (b : A) (r : List A), al = .c (.sl (l.map kIt)) :: b :: r → l.length ≤ 3999999999999
theorem nU {H : Type} {enc : TypeId × Value → H} {W : World} {F : Nat → Prop} {ts vts : List TypeId} {al : List A} {vs : List Value} {ds gs : List (DataW H)} {p : List MemPlace} (h1 : All2 (CA W F) al vs) (h2 : DataW.TrodAll enc Tryz.prog W 0 (fun _ => true) true (23 :: ts) vs ds p)
    (hw : (DataW.weightsEach Tryz.prog (23 :: ts ++ vts) (ds ++ gs)).all (· ≤ reachBytes) = true) : AW al := by
  rintro l b r rfl
  cases vs with
  | nil => exact h1.elim
  | cons v vs =>
    cases ds with
    | nil => exact h2.elim
    | cons d ds =>
      obtain ⟨q1, q2, h2, _⟩ := h2
      simp only [List.cons_append, DataW.weightsEach, List.all_append, Bool.and_eq_true] at hw
      have hu : Tryz.prog.underlying 23 = some (.slice 57) := by kernel_rfl
      have hb : Tryz.prog.bytesOf 57 = 40 := by kernel_rfl
      have := AP hu h2 (show CD W F (.sl (l.map kIt)) v from h1.1) hw.1
      rw [hb, List.length_map] at this
      have e : reachBytes = 140737488351232 := rfl
      omega
end Eng
end
