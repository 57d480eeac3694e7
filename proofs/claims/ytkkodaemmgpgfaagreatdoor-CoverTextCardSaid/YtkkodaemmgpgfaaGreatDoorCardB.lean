/- What comes in as plain data: boxes, lists of them, small numbers. -/
import Derived.Test.YtkkodaemmgpgfaaGreatDoorCardA
import Derived.Test.YtkkodaemmgpgfaaGreatDoorCvA
import Derived.Test.YtkkodaemmgpgfaaGreatDoorRdA
section
namespace Eng
open Go Go.Proofs
set_option maxRecDepth 100000
def u32T : CT := .int .u32
def ratT : List CT := [.bool, .sl [u32T], .bool, .sl [u32T]]
theorem boxT_ok : cellTys Tryz.prog 10 28 = some (ratT ++ (ratT ++ (ratT ++ ratT))) := by kernel_rfl
theorem vecT_ok : cellTys Tryz.prog 10 30 = some (ratT ++ ratT) := by kernel_rfl
theorem ratT_ok : cellTys Tryz.prog 10 26 = some ratT := by kernel_rfl
theorem rows_u32 : ∀ {es : List (List D)}, (∀ r ∈ es, hasL [u32T] r) → ∃ l : List Nat, es = raw l
  | [], _ => ⟨[], rfl⟩
  | r :: es, h => by
    obtain ⟨l, hl⟩ := rows_u32 (es := es) fun r hr => h r (by simp [hr])
    have h1 := h r (by simp)
    simp only [u32T, hasL, hasC] at h1
    obtain ⟨d1, r1, rfl, ⟨n1, rfl, hw⟩, rfl⟩ := h1
    have hn : 0 ≤ n1 := by
      have e : IntKind.min .u32 = 0 := rfl
      simp only [Lit.wf, e, Bool.and_eq_true, decide_eq_true_eq] at hw
      omega
    refine ⟨n1.toNat :: l, ?_⟩
    rw [hl]
    simp only [raw, List.map_cons]
    rw [Int.toNat_of_nonneg hn]
theorem rw_of {ds : List D} (h : hasL ratT ds) : ∃ x : Rw, ds = x.cs := by
  simp only [ratT, hasL] at h
  obtain ⟨d1, r1, rfl, c1, d2, r2, rfl, c2, d3, r3, rfl, c3, d4, r4, rfl, c4, rfl⟩ := h
  simp only [hasC] at c1 c2 c3 c4
  obtain ⟨p, rfl⟩ := c1
  obtain ⟨es, rfl, _, h2⟩ := c2
  obtain ⟨q, rfl⟩ := c3
  obtain ⟨fs, rfl, _, h4⟩ := c4
  obtain ⟨l, rfl⟩ := rows_u32 h2
  obtain ⟨m, rfl⟩ := rows_u32 h4
  exact ⟨⟨p, l, q, m⟩, rfl⟩
theorem hasL_split : ∀ {T R : List CT} {ds : List D}, hasL (T ++ R) ds → ∃ a b, ds = a ++ b ∧ hasL T a ∧ hasL R b
  | [], R, ds, h => ⟨[], ds, rfl, rfl, h⟩
  | _ :: T, R, ds, h => by
    have h : hasL (_ :: (T ++ R)) ds := h
    rw [hasL] at h
    obtain ⟨d, r, rfl, h1, h2⟩ := h
    obtain ⟨a, b, rfl, h3, h4⟩ := hasL_split h2
    exact ⟨d :: a, b, rfl, by rw [hasL]; exact ⟨d, a, rfl, h1, h3⟩, h4⟩
theorem ag_of {t : TypeId} {T : List CT} {a : A} (hT : cellTys Tryz.prog 10 t = some T) (ht : tAgg Tryz.prog t = true) (h : hasA Tryz.prog 10 t a) : ∃ ds, a = .ag ds ∧ hasL T ds := by
  obtain ⟨T', hT', h⟩ := h
  rw [hT] at hT'
  obtain rfl := Option.some.inj hT'
  rcases h with ⟨_, ds, rfl, h2⟩ | ⟨h1, _⟩
  · exact ⟨ds, rfl, h2⟩
  · rw [ht] at h1; simp at h1
theorem hasA_box {a : A} (h0 : hasA Tryz.prog 10 28 a) : ∃ x y z w : Rw, a = boxA x y z w := by
  obtain ⟨ds, e0, h⟩ := ag_of boxT_ok (by kernel_rfl) h0
  clear h0
  subst e0
  obtain ⟨d1, r1, rfl, h1, k1⟩ := hasL_split h
  obtain ⟨d2, r2, rfl, h2, k2⟩ := hasL_split k1
  obtain ⟨d3, r3, rfl, h3, h4⟩ := hasL_split k2
  obtain ⟨x, rfl⟩ := rw_of h1
  obtain ⟨y, rfl⟩ := rw_of h2
  obtain ⟨z, rfl⟩ := rw_of h3
  obtain ⟨w, rfl⟩ := rw_of h4
  exact ⟨x, y, z, w, rfl⟩
theorem u8T_ok : cellTys Tryz.prog 10 5 = some [.int .u8] := by kernel_rfl
theorem hasA_u8 {a : A} (h0 : hasA Tryz.prog 10 5 a) : ∃ n : Int, a = .c (.int .u8 n) ∧ 0 ≤ n ∧ n < 256 := by
  obtain ⟨T, hT, h⟩ := h0
  rw [u8T_ok] at hT
  obtain rfl := Option.some.inj hT
  rcases h with ⟨h1, _⟩ | ⟨_, d, rfl, h2⟩
  · have h3 : tAgg Tryz.prog 5 = false := by kernel_rfl
    rw [h3] at h1; simp at h1
  · simp only [hasL, hasC] at h2
    obtain ⟨d1, r1, e, ⟨n, rfl, hw⟩, rfl⟩ := h2
    obtain rfl : d = .int .u8 n := by simpa using e
    have e1 : IntKind.min .u8 = 0 := rfl
    have e2 : IntKind.max .u8 = 255 := rfl
    simp only [Lit.wf, e1, e2, Bool.and_eq_true, decide_eq_true_eq] at hw
    exact ⟨n, rfl, by omega, by omega⟩
theorem boxes_of : ∀ {es : List (List D)}, (∀ r ∈ es, hasL (ratT ++ (ratT ++ (ratT ++ ratT))) r) → ∃ l : List Rb, es = rbs l
  | [], _ => ⟨[], rfl⟩
  | r :: es, h => by
    obtain ⟨l, rfl⟩ := boxes_of (es := es) fun r hr => h r (by simp [hr])
    have h := h r (by simp)
    obtain ⟨d1, r1, rfl, h1, k1⟩ := hasL_split h
    obtain ⟨d2, r2, rfl, h2, k2⟩ := hasL_split k1
    obtain ⟨d3, r3, rfl, h3, h4⟩ := hasL_split k2
    obtain ⟨x, rfl⟩ := rw_of h1
    obtain ⟨y, rfl⟩ := rw_of h2
    obtain ⟨z, rfl⟩ := rw_of h3
    obtain ⟨w, rfl⟩ := rw_of h4
    exact ⟨⟨x, y, z, w⟩ :: l, rfl⟩
theorem boxesT_ok : cellTys Tryz.prog 10 36 = some [.sl (ratT ++ (ratT ++ (ratT ++ ratT)))] := by kernel_rfl
theorem hasA_boxes {a : A} (h0 : hasA Tryz.prog 10 36 a) : ∃ l : List Rb, a = .c (.sl (rbs l)) := by
  obtain ⟨T, hT, h⟩ := h0
  rw [boxesT_ok] at hT
  obtain rfl := Option.some.inj hT
  rcases h with ⟨h1, _⟩ | ⟨_, d, rfl, h2⟩
  · have h3 : tAgg Tryz.prog 36 = false := by kernel_rfl
    rw [h3] at h1; simp at h1
  · simp only [hasL] at h2
    obtain ⟨d1, r1, e, h4, rfl⟩ := h2
    obtain rfl : d = d1 := by simpa using e
    simp only [hasC] at h4
    obtain ⟨es, rfl, _, h5⟩ := h4
    obtain ⟨l, rfl⟩ := boxes_of h5
    exact ⟨l, rfl⟩
end Eng
end
