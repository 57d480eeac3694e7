/- Chapter 22's cards: drawings as they come in. -/
import Derived.Test.YtbehlcfelmbmlaaGreatDoorCardA
import Derived.Test.YtbehlcfelmbmlaaGreatDoorDaB
section
namespace Eng
open Go Go.Proofs
set_option maxRecDepth 100000
def SA : CT := .int .u32
def Rl : List CT := [.bool, .sl [SA], .bool, .sl [SA]]
theorem XB : ∀ {es : List (List D)}, (∀ r ∈ es, jl [SA] r) → ∃ l : List Nat, es = raw l
  | [], _ => ⟨[], rfl⟩
  | r :: es, h => by
    obtain ⟨l, hl⟩ := XB (es := es) fun r hr => h r (by simp [hr])
    have h1 := h r (by simp)
    simp only [SA, jl, Gm] at h1
    obtain ⟨d1, r1, rfl, ⟨n1, rfl, hw⟩, rfl⟩ := h1
    have hn : 0 ≤ n1 := by
      have e : IntKind.min .u32 = 0 := rfl
      simp only [Lit.wf, e, Bool.and_eq_true, decide_eq_true_eq] at hw
      omega
    refine ⟨n1.toNat :: l, ?_⟩
    rw [hl]
    simp only [raw, List.map_cons]
    rw [Int.toNat_of_nonneg hn]
theorem NL {ds : List D} (h : jl Rl ds) : ∃ x : Rw, ds = x.cs := by
  simp only [Rl, jl] at h
  obtain ⟨d1, r1, rfl, c1, d2, r2, rfl, c2, d3, r3, rfl, c3, d4, r4, rfl, c4, rfl⟩ := h
  simp only [Gm] at c1 c2 c3 c4
  obtain ⟨p, rfl⟩ := c1
  obtain ⟨es, rfl, _, h2⟩ := c2
  obtain ⟨q, rfl⟩ := c3
  obtain ⟨fs, rfl, _, h4⟩ := c4
  obtain ⟨l, rfl⟩ := XB h2
  obtain ⟨m, rfl⟩ := XB h4
  exact ⟨⟨p, l, q, m⟩, rfl⟩
theorem vh : ∀ {T R : List CT} {ds : List D}, jl (T ++ R) ds → ∃ a b, ds = a ++ b ∧ jl T a ∧ jl R b
  | [], R, ds, h => ⟨[], ds, rfl, rfl, h⟩
  | _ :: T, R, ds, h => by
    have h : jl (_ :: (T ++ R)) ds := h
    rw [jl] at h
    obtain ⟨d, r, rfl, h1, h2⟩ := h
    obtain ⟨a, b, rfl, h3, h4⟩ := vh h2
    exact ⟨d :: a, b, rfl, by rw [jl]; exact ⟨d, a, rfl, h1, h3⟩, h4⟩
theorem Be {t : TypeId} {T : List CT} {a : A} (hT : xV Tryz.prog 10 t = some T) (ht : kg Tryz.prog t = true) (h : MH Tryz.prog 10 t a) : ∃ ds, a = .ag ds ∧ jl T ds := by
  obtain ⟨T', hT', h⟩ := h
  rw [hT] at hT'
  obtain rfl := Option.some.inj hT'
  rcases h with ⟨_, ds, rfl, h2⟩ | ⟨h1, _⟩
  · exact ⟨ds, rfl, h2⟩
  · rw [ht] at h1; simp at h1
def Rm : CT := .int .i64
def lyT : List CT := [.str, Rm, Rm]
def ptT : List CT := Rl ++ Rl
def enT : List CT := [Rm, .str, .sl ptT] ++ Rl
theorem Rn : xV Tryz.prog 10 25 = some [.sl lyT, .sl enT] := by kernel_rfl
theorem NM : xV Tryz.prog 10 9 = some [.str] := by kernel_rfl
theorem Nh : ∀ {es : List (List D)}, (∀ r ∈ es, jl lyT r) → ∃ l : List Ly, es = l.map GP
  | [], _ => ⟨[], rfl⟩
  | r :: es, h => by
    obtain ⟨l, rfl⟩ := Nh (es := es) fun r hr => h r (by simp [hr])
    have h := h r (by simp)
    simp only [lyT, Rm, jl, Gm] at h
    obtain ⟨d1, r1, rfl, ⟨s, rfl, _⟩, d2, r2, rfl, ⟨k, rfl, _⟩, d3, r3, rfl, ⟨d, rfl, _⟩, rfl⟩ := h
    exact ⟨⟨s, k, d⟩ :: l, rfl⟩
theorem Ni : ∀ {es : List (List D)}, (∀ r ∈ es, jl ptT r) → ∃ l : List (Rw × Rw), es = l.map ZQ
  | [], _ => ⟨[], rfl⟩
  | r :: es, h => by
    obtain ⟨l, rfl⟩ := Ni (es := es) fun r hr => h r (by simp [hr])
    obtain ⟨a, b, rfl, h1, h2⟩ := vh (h r (by simp))
    obtain ⟨x, rfl⟩ := NL h1
    obtain ⟨y, rfl⟩ := NL h2
    exact ⟨(x, y) :: l, rfl⟩
theorem Nj : ∀ {es : List (List D)}, (∀ r ∈ es, jl enT r) → ∃ l : List Er, es = l.map ZD
  | [], _ => ⟨[], rfl⟩
  | r :: es, h => by
    obtain ⟨l, rfl⟩ := Nj (es := es) fun r hr => h r (by simp [hr])
    obtain ⟨a, b, rfl, h1, h2⟩ := vh (h r (by simp))
    obtain ⟨x, rfl⟩ := NL h2
    simp only [Rm, jl, Gm] at h1
    obtain ⟨d1, r1, rfl, ⟨k, rfl, _⟩, d2, r2, rfl, ⟨s, rfl, _⟩, d3, r3, rfl, ⟨ps, rfl, _, h3⟩, rfl⟩ := h1
    obtain ⟨q, rfl⟩ := Ni h3
    exact ⟨⟨k, s, q, x⟩ :: l, rfl⟩
theorem NN {a : A} (h0 : MH Tryz.prog 10 25 a) : ∃ ls es, a = drA ls es := by
  obtain ⟨ds, e0, h⟩ := Be Rn (by kernel_rfl) h0
  clear h0
  subst e0
  simp only [jl] at h
  obtain ⟨d1, r1, rfl, h1, d2, r2, rfl, h2, rfl⟩ := h
  simp only [Gm] at h1 h2
  obtain ⟨ls, rfl, _, h3⟩ := h1
  obtain ⟨es, rfl, _, h4⟩ := h2
  obtain ⟨l, rfl⟩ := Nh h3
  obtain ⟨m, rfl⟩ := Nj h4
  exact ⟨l, m, rfl⟩
theorem SB {a : A} (h0 : MH Tryz.prog 10 9 a) : ∃ s : List UInt8, a = .c (.str s) := by
  obtain ⟨T, hT, h⟩ := h0
  rw [NM] at hT
  obtain rfl := Option.some.inj hT
  rcases h with ⟨h1, _⟩ | ⟨_, d, rfl, h2⟩
  · have h3 : kg Tryz.prog 9 = false := by kernel_rfl
    rw [h3] at h1; simp at h1
  · simp only [jl, Gm] at h2
    obtain ⟨d1, r1, e, ⟨s, rfl, _⟩, rfl⟩ := h2
    obtain rfl : d = .str s := by simpa using e
    exact ⟨s, rfl⟩
end Eng
end
