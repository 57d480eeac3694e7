/- What comes into the law PartEqual. -/
import Derived.Test.YtfipmjpmflmbbaaGreatECardP
import Derived.Test.YtfipmjpmflmbbaaGreatEPbA
section
namespace Eng
open Go Go.Proofs Go.ChangeShapes Go.WideShapes Go.ChangeAt Go.RowKit
set_option maxRecDepth 100000
theorem Rz {a : A} (h0 : Dw Tryz.prog 10 4 a) : ∃ b : Bool, a = .c (.bool b) := by
  obtain ⟨T, hT, h⟩ := h0
  have e : zI Tryz.prog 10 4 = some [.bool] := by kernel_rfl
  rw [e] at hT
  obtain rfl := Option.some.inj hT
  rcases h with ⟨h1, _⟩ | ⟨_, d, rfl, h2⟩
  · have h3 : wV Tryz.prog 4 = false := by kernel_rfl
    rw [h3] at h1; simp at h1
  · simp only [vY, Th] at h2
    obtain ⟨d1, r1, e, ⟨b, rfl⟩, rfl⟩ := h2
    simp only [List.cons.injEq, and_true] at e
    exact ⟨b, by rw [e]⟩
def AE (al : List A) : Prop := ∀ (l m : List It) (r : List A), al = .c (.sl (l.map kIt)) :: .c (.sl (m.map kIt)) :: r → l.length ≤ 3999999999999 ∧ m.length ≤ 3999999999999
theorem gS {H : Type} {enc : TypeId × Value → H} {W : World} {F : Nat → Prop} {ts vts : List TypeId} {al : List A} {vs : List Value} {ds gs : List (DataW H)} {p : List MemPlace} (h1 : All2 (CA W F) al vs) (h2 : DataW.TrodAll enc Tryz.prog W 0 (fun _ => true) true (23 :: 23 :: ts) vs ds p)
    (hw : (DataW.weightsEach Tryz.prog (23 :: 23 :: ts ++ vts) (ds ++ gs)).all (· ≤ reachBytes) = true) : AE al := by
  rintro l m r rfl
  match vs, ds, p, h1, h2, hw with
  | v :: v' :: vs, d :: d' :: ds, p, h1, h2, hw =>
    obtain ⟨q1, q2, t1, t2, _⟩ := h2
    obtain ⟨q3, q4, t3, _, _⟩ := t2
    simp only [List.cons_append, DataW.weightsEach, List.all_append, Bool.and_eq_true] at hw
    have hu : Tryz.prog.underlying 23 = some (.slice 57) := by kernel_rfl
    have hb : Tryz.prog.bytesOf 57 = 40 := by kernel_rfl
    have k1 := G5 hu t1 (show CD W F (.sl (l.map kIt)) v from h1.1) hw.1
    have k2 := G5 hu t3 (show CD W F (.sl (m.map kIt)) v' from h1.2.1) hw.2.1
    rw [hb, List.length_map] at k1 k2
    have e : reachBytes = 140737488351232 := rfl
    omega
end Eng
end
