/- Chapter 22's cards: drawings as they come in. -/
import Derived.Test.YtbehlcfelmbmlaaGreatDoorCardA
import Derived.Test.YtbehlcfelmbmlaaGreatDoorDaB
section
namespace Eng
open Go Go.Proofs
set_option maxRecDepth 100000
def u32T : CT := .int .u32
def ratT : List CT := [.bool, .sl [u32T], .bool, .sl [u32T]]
theorem rows_u32 : ∀ {es : List (List D)}, (∀ r ∈ es, hasL [u32T] r) → ∃ l : List Nat, es = raw l
  | [], _ => ⟨[], rfl⟩
  | r :: es, h => by
    obtain ⟨l, hl⟩ := rows_u32 (es := es) fun r hr => h r (by simp [hr])
    have h1 := h r (by simp)
    simp only [u32T, hasL, hasC] at h1
    obtain ⟨d1, r1, rfl, ⟨n1, rfl, hw⟩, rfl⟩ := h1
    have hn : 0 ≤ n1 := by
      have e : IntKind.min .u32 = 0 := rfl
      simp only [Lit.wf, e, Bool.and_eq_true, decide_eq_true_eq] at hw
      omega
    refine ⟨n1.toNat :: l, ?_⟩
    rw [hl]
    simp only [raw, List.map_cons]
    rw [Int.toNat_of_nonneg hn]
theorem rw_of {ds : List D} (h : hasL ratT ds) : ∃ x : Rw, ds = x.cs := by
  simp only [ratT, hasL] at h
  obtain ⟨d1, r1, rfl, c1, d2, r2, rfl, c2, d3, r3, rfl, c3, d4, r4, rfl, c4, rfl⟩ := h
  simp only [hasC] at c1 c2 c3 c4
  obtain ⟨p, rfl⟩ := c1
  obtain ⟨es, rfl, _, h2⟩ := c2
  obtain ⟨q, rfl⟩ := c3
  obtain ⟨fs, rfl, _, h4⟩ := c4
  obtain ⟨l, rfl⟩ := rows_u32 h2
  obtain ⟨m, rfl⟩ := rows_u32 h4
  exact ⟨⟨p, l, q, m⟩, rfl⟩
theorem hasL_split : ∀ {T R : List CT} {ds : List D}, hasL (T ++ R) ds → ∃ a b, ds = a ++ b ∧ hasL T a ∧ hasL R b
  | [], R, ds, h => ⟨[], ds, rfl, rfl, h⟩
  | _ :: T, R, ds, h => by
    have h : hasL (_ :: (T ++ R)) ds := h
    rw [hasL] at h
    obtain ⟨d, r, rfl, h1, h2⟩ := h
    obtain ⟨a, b, rfl, h3, h4⟩ := hasL_split h2
    exact ⟨d :: a, b, rfl, by rw [hasL]; exact ⟨d, a, rfl, h1, h3⟩, h4⟩
theorem ag_of {t : TypeId} {T : List CT} {a : A} (hT : cellTys Tryz.prog 10 t = some T) (ht : tAgg Tryz.prog t = true) (h : hasA Tryz.prog 10 t a) : ∃ ds, a = .ag ds ∧ hasL T ds := by
  obtain ⟨T', hT', h⟩ := h
  rw [hT] at hT'
  obtain rfl := Option.some.inj hT'
  rcases h with ⟨_, ds, rfl, h2⟩ | ⟨h1, _⟩
  · exact ⟨ds, rfl, h2⟩
  · rw [ht] at h1; simp at h1
def i64T : CT := .int .i64
def lyT : List CT := [.str, i64T, i64T]
def ptT : List CT := ratT ++ ratT
def enT : List CT := [i64T, .str, .sl ptT] ++ ratT
theorem drT_ok : cellTys Tryz.prog 10 25 = some [.sl lyT, .sl enT] := by kernel_rfl
theorem strT_ok : cellTys Tryz.prog 10 9 = some [.str] := by kernel_rfl
theorem lys_of : ∀ {es : List (List D)}, (∀ r ∈ es, hasL lyT r) → ∃ l : List Ly, es = l.map rowL
  | [], _ => ⟨[], rfl⟩
  | r :: es, h => by
    obtain ⟨l, rfl⟩ := lys_of (es := es) fun r hr => h r (by simp [hr])
    have h := h r (by simp)
    simp only [lyT, i64T, hasL, hasC] at h
    obtain ⟨d1, r1, rfl, ⟨s, rfl, _⟩, d2, r2, rfl, ⟨k, rfl, _⟩, d3, r3, rfl, ⟨d, rfl, _⟩, rfl⟩ := h
    exact ⟨⟨s, k, d⟩ :: l, rfl⟩
theorem pts_of : ∀ {es : List (List D)}, (∀ r ∈ es, hasL ptT r) → ∃ l : List (Rw × Rw), es = l.map rowP
  | [], _ => ⟨[], rfl⟩
  | r :: es, h => by
    obtain ⟨l, rfl⟩ := pts_of (es := es) fun r hr => h r (by simp [hr])
    obtain ⟨a, b, rfl, h1, h2⟩ := hasL_split (h r (by simp))
    obtain ⟨x, rfl⟩ := rw_of h1
    obtain ⟨y, rfl⟩ := rw_of h2
    exact ⟨(x, y) :: l, rfl⟩
theorem ens_of : ∀ {es : List (List D)}, (∀ r ∈ es, hasL enT r) → ∃ l : List Er, es = l.map rowE
  | [], _ => ⟨[], rfl⟩
  | r :: es, h => by
    obtain ⟨l, rfl⟩ := ens_of (es := es) fun r hr => h r (by simp [hr])
    obtain ⟨a, b, rfl, h1, h2⟩ := hasL_split (h r (by simp))
    obtain ⟨x, rfl⟩ := rw_of h2
    simp only [i64T, hasL, hasC] at h1
    obtain ⟨d1, r1, rfl, ⟨k, rfl, _⟩, d2, r2, rfl, ⟨s, rfl, _⟩, d3, r3, rfl, ⟨ps, rfl, _, h3⟩, rfl⟩ := h1
    obtain ⟨q, rfl⟩ := pts_of h3
    exact ⟨⟨k, s, q, x⟩ :: l, rfl⟩
theorem hasA_dr {a : A} (h0 : hasA Tryz.prog 10 25 a) : ∃ ls es, a = drA ls es := by
  obtain ⟨ds, e0, h⟩ := ag_of drT_ok (by kernel_rfl) h0
  clear h0
  subst e0
  simp only [hasL] at h
  obtain ⟨d1, r1, rfl, h1, d2, r2, rfl, h2, rfl⟩ := h
  simp only [hasC] at h1 h2
  obtain ⟨ls, rfl, _, h3⟩ := h1
  obtain ⟨es, rfl, _, h4⟩ := h2
  obtain ⟨l, rfl⟩ := lys_of h3
  obtain ⟨m, rfl⟩ := ens_of h4
  exact ⟨l, m, rfl⟩
theorem hasA_str {a : A} (h0 : hasA Tryz.prog 10 9 a) : ∃ s : List UInt8, a = .c (.str s) := by
  obtain ⟨T, hT, h⟩ := h0
  rw [strT_ok] at hT
  obtain rfl := Option.some.inj hT
  rcases h with ⟨h1, _⟩ | ⟨_, d, rfl, h2⟩
  · have h3 : tAgg Tryz.prog 9 = false := by kernel_rfl
    rw [h3] at h1; simp at h1
  · simp only [hasL, hasC] at h2
    obtain ⟨d1, r1, e, ⟨s, rfl, _⟩, rfl⟩ := h2
    obtain rfl : d = .str s := by simpa using e
    exact ⟨s, rfl⟩
end Eng
end
