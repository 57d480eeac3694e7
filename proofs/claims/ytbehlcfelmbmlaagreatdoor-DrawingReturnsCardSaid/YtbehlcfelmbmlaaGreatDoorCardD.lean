/- Chapter 22's cards: drawings as they come in. -/
import Derived.Test.YtbehlcfelmbmlaaGreatDoorCardA
import Derived.Test.YtbehlcfelmbmlaaGreatDoorDaB
section
namespace Eng
open Go Go.Proofs
set_option maxRecDepth 100000
def AV : CT := .int .u32
def FB : List CT := [.bool, .sl [AV], .bool, .sl [AV]]
theorem Wl : ∀ {es : List (List D)}, (∀ r ∈ es, jV [AV] r) → ∃ l : List Nat, es = raw l
  | [], _ => ⟨[], rfl⟩
  | r :: es, h => by
    obtain ⟨l, hl⟩ := Wl (es := es) fun r hr => h r (by simp [hr])
    have h1 := h r (by simp)
    simp only [AV, jV, My] at h1
    obtain ⟨d1, r1, rfl, ⟨n1, rfl, hw⟩, rfl⟩ := h1
    have hn : 0 ≤ n1 := by
      have e : IntKind.min .u32 = 0 := rfl
      simp only [Lit.wf, e, Bool.and_eq_true, decide_eq_true_eq] at hw
      omega
    refine ⟨n1.toNat :: l, ?_⟩
    rw [hl]
    simp only [raw, List.map_cons]
    rw [Int.toNat_of_nonneg hn]
theorem CN {ds : List D} (h : jV FB ds) : ∃ x : Rw, ds = x.cs := by
  simp only [FB, jV] at h
  obtain ⟨d1, r1, rfl, c1, d2, r2, rfl, c2, d3, r3, rfl, c3, d4, r4, rfl, c4, rfl⟩ := h
  simp only [My] at c1 c2 c3 c4
  obtain ⟨p, rfl⟩ := c1
  obtain ⟨es, rfl, _, h2⟩ := c2
  obtain ⟨q, rfl⟩ := c3
  obtain ⟨fs, rfl, _, h4⟩ := c4
  obtain ⟨l, rfl⟩ := Wl h2
  obtain ⟨m, rfl⟩ := Wl h4
  exact ⟨⟨p, l, q, m⟩, rfl⟩
theorem QA : ∀ {T R : List CT} {ds : List D}, jV (T ++ R) ds → ∃ a b, ds = a ++ b ∧ jV T a ∧ jV R b
  | [], R, ds, h => ⟨[], ds, rfl, rfl, h⟩
  | _ :: T, R, ds, h => by
    have h : jV (_ :: (T ++ R)) ds := h
    rw [jV] at h
    obtain ⟨d, r, rfl, h1, h2⟩ := h
    obtain ⟨a, b, rfl, h3, h4⟩ := QA h2
    exact ⟨d :: a, b, rfl, by rw [jV]; exact ⟨d, a, rfl, h1, h3⟩, h4⟩
theorem Iw {t : TypeId} {T : List CT} {a : A} (hT : zw Tryz.prog 10 t = some T) (ht : wJ Tryz.prog t = true) (h : PH Tryz.prog 10 t a) : ∃ ds, a = .ag ds ∧ jV T ds := by
  obtain ⟨T', hT', h⟩ := h
  rw [hT] at hT'
  obtain rfl := Option.some.inj hT'
  rcases h with ⟨_, ds, rfl, h2⟩ | ⟨h1, _⟩
  · exact ⟨ds, rfl, h2⟩
  · rw [ht] at h1; simp at h1
def FC : CT := .int .i64
def lyT : List CT := [.str, FC, FC]
def ptT : List CT := FB ++ FB
def enT : List CT := [FC, .str, .sl ptT] ++ FB
theorem FD : zw Tryz.prog 10 25 = some [.sl lyT, .sl enT] := by kernel_rfl
theorem CP : zw Tryz.prog 10 9 = some [.str] := by kernel_rfl
theorem BQ : ∀ {es : List (List D)}, (∀ r ∈ es, jV lyT r) → ∃ l : List Ly, es = l.map vP
  | [], _ => ⟨[], rfl⟩
  | r :: es, h => by
    obtain ⟨l, rfl⟩ := BQ (es := es) fun r hr => h r (by simp [hr])
    have h := h r (by simp)
    simp only [lyT, FC, jV, My] at h
    obtain ⟨d1, r1, rfl, ⟨s, rfl, _⟩, d2, r2, rfl, ⟨k, rfl, _⟩, d3, r3, rfl, ⟨d, rfl, _⟩, rfl⟩ := h
    exact ⟨⟨s, k, d⟩ :: l, rfl⟩
theorem BR : ∀ {es : List (List D)}, (∀ r ∈ es, jV ptT r) → ∃ l : List (Rw × Rw), es = l.map Xq
  | [], _ => ⟨[], rfl⟩
  | r :: es, h => by
    obtain ⟨l, rfl⟩ := BR (es := es) fun r hr => h r (by simp [hr])
    obtain ⟨a, b, rfl, h1, h2⟩ := QA (h r (by simp))
    obtain ⟨x, rfl⟩ := CN h1
    obtain ⟨y, rfl⟩ := CN h2
    exact ⟨(x, y) :: l, rfl⟩
theorem BS : ∀ {es : List (List D)}, (∀ r ∈ es, jV enT r) → ∃ l : List Er, es = l.map Zh
  | [], _ => ⟨[], rfl⟩
  | r :: es, h => by
    obtain ⟨l, rfl⟩ := BS (es := es) fun r hr => h r (by simp [hr])
    obtain ⟨a, b, rfl, h1, h2⟩ := QA (h r (by simp))
    obtain ⟨x, rfl⟩ := CN h2
    simp only [FC, jV, My] at h1
    obtain ⟨d1, r1, rfl, ⟨k, rfl, _⟩, d2, r2, rfl, ⟨s, rfl, _⟩, d3, r3, rfl, ⟨ps, rfl, _, h3⟩, rfl⟩ := h1
    obtain ⟨q, rfl⟩ := BR h3
    exact ⟨⟨k, s, q, x⟩ :: l, rfl⟩
theorem CQ {a : A} (h0 : PH Tryz.prog 10 25 a) : ∃ ls es, a = drA ls es := by
  obtain ⟨ds, e0, h⟩ := Iw FD (by kernel_rfl) h0
  clear h0
  subst e0
  simp only [jV] at h
  obtain ⟨d1, r1, rfl, h1, d2, r2, rfl, h2, rfl⟩ := h
  simp only [My] at h1 h2
  obtain ⟨ls, rfl, _, h3⟩ := h1
  obtain ⟨es, rfl, _, h4⟩ := h2
  obtain ⟨l, rfl⟩ := BQ h3
  obtain ⟨m, rfl⟩ := BS h4
  exact ⟨l, m, rfl⟩
theorem HM {a : A} (h0 : PH Tryz.prog 10 9 a) : ∃ s : List UInt8, a = .c (.str s) := by
  obtain ⟨T, hT, h⟩ := h0
  rw [CP] at hT
  obtain rfl := Option.some.inj hT
  rcases h with ⟨h1, _⟩ | ⟨_, d, rfl, h2⟩
  · have h3 : wJ Tryz.prog 9 = false := by kernel_rfl
    rw [h3] at h1; simp at h1
  · simp only [jV, My] at h2
    obtain ⟨d1, r1, e, ⟨s, rfl, _⟩, rfl⟩ := h2
    obtain rfl : d = .str s := by simpa using e
    exact ⟨s, rfl⟩
end Eng
end
