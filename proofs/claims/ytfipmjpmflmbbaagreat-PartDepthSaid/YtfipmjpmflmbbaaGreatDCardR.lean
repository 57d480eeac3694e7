/- What comes into the law PartDepth. -/
import Derived.Test.YtfipmjpmflmbbaaGreatDCardP
import Derived.Test.YtfipmjpmflmbbaaGreatDPbB
section
namespace Eng
open Go Go.Proofs Go.ChangeShapes Go.WideShapes Go.ChangeAt Go.RowKit
set_option maxRecDepth 100000
theorem DY {a : A} (h0 : DB Tryz.prog 10 2 a) : ∃ z : Int, a = .c (.int .i64 z) := by
  obtain ⟨T, hT, h⟩ := h0
  have e : zD Tryz.prog 10 2 = some [.int .i64] := by kernel_rfl
  rw [e] at hT
  obtain rfl := Option.some.inj hT
  rcases h with ⟨h1, _⟩ | ⟨_, d, rfl, h2⟩
  · have h3 : vd Tryz.prog 2 = false := by kernel_rfl
    rw [h3] at h1; simp at h1
  · simp only [vW, GB] at h2
    obtain ⟨d1, r1, e, ⟨z, rfl, _⟩, rfl⟩ := h2
    simp only [List.cons.injEq, and_true] at e
    exact ⟨z, by rw [e]⟩
theorem AX {d : D} (h : GB (.int .i16) d) : ∃ z : Int, d = .int .i16 z ∧ D9 z := by
  simp only [GB] at h
  obtain ⟨n, rfl, hw⟩ := h
  have e1 : IntKind.min .i16 = -32768 := rfl
  have e2 : IntKind.max .i16 = 32767 := rfl
  simp only [Lit.wf, e1, e2, Bool.and_eq_true, decide_eq_true_eq] at hw
  exact ⟨n, rfl, by omega, by omega⟩
theorem RB {a : A} (h0 : DB Tryz.prog 10 41 a) : ∃ (x y : Int) (u : Nat), a = .ag [.int .i16 x, .int .i16 y, .int .u8 (u : Int)] ∧ D9 x ∧ D9 y ∧ u < 256 := by
  obtain ⟨T, hT, h⟩ := h0
  have e : zD Tryz.prog 10 41 = some [.int .i16, .int .i16, .int .u8] := by kernel_rfl
  rw [e] at hT
  obtain rfl := Option.some.inj hT
  rcases h with ⟨_, ds, rfl, h2⟩ | ⟨h1, _⟩
  · simp only [vW] at h2
    obtain ⟨d1, r1, rfl, h1, d2, r2, rfl, h2, d3, r3, rfl, h3, rfl⟩ := h2
    obtain ⟨x, rfl, hx⟩ := AX h1
    obtain ⟨y, rfl, hy⟩ := AX h2
    obtain ⟨u, rfl, hu⟩ := OO h3
    exact ⟨x, y, u, rfl, hx, hy, hu⟩
  · have h3 : vd Tryz.prog 41 = true := by kernel_rfl
    rw [h3] at h1; simp at h1
end Eng
end
