/- slices.Delete[[]api.Box]: its walk. -/
import Derived.Test.YtkkodaemmgpgfaaGreatDoorCvC
import Derived.Shelf.Lays2
import Derived.Shelf.RegionOpenPlain
import Derived.WalkKit
import Derived.Deep.LoopGhost
import Derived.Deep.RegionLaw
import Derived.Lib.Walk
import Derived.Lib.SliceRun
section
namespace Eng
open Go Go.Proofs Go.RowKit Go.Lib Go.Shelf
set_option maxRecDepth 1000000
theorem setCells_blk' {b : Nat} {t : TypeId} : ∀ (vs : List Value) (o : Nat) (w : World) (cs : Array Value), w.heap[b]? = some (.cells cs t (0, 0)) → w.setCells b o vs = setBlk w b (.cells (updsL cs.toList o vs).toArray t (0, 0))
 | [], o, w, cs, h => by
  simp only [World.setCells, updsL, Array.toArray_toList]
  rw [setBlk_self h]
 | v :: vs, o, w, cs, h => by
  have hlt : b < w.heap.size := by
   rcases Nat.lt_or_ge b w.heap.size with h1 | h1
   ·exact h1
   ·simp [h1] at h
  rw [World.setCells, setCell_blk h, setCells_blk' vs (o + 1) _ _ (setBlk_at hlt), setBlk_setBlk]
  simp only [updsL, Array.toList_setIfInBounds, ← upd_eq]
def boxZ : List Value := [.bool false, .slice none 0 0, .bool false, .slice none 0 0, .bool false, .slice none 0 0, .bool false, .slice none 0 0, .bool false, .slice none 0 0, .bool false, .slice none 0 0, .bool false, .slice none 0 0, .bool false, .slice none 0 0]
theorem zeros28 : zeros Tryz.prog 28 = some boxZ := by kernel_rfl
theorem und36 : Tryz.prog.underlying 36 = some (.slice 28) := by kernel_rfl
set_option maxHeartbeats 4000000 in
theorem del_run (b n c i j : Nat) (cs : Array Value) (t : TypeId) (w : World) (hblk : w.heap[b]? = some (.cells cs t (0, 0))) (hsz : cs.size = c * 16) (hn : n ≤ c) (_hm : c ≤ 9223372036854775807) (hij : i < j) (hj : j ≤ n) (one : ∀ v ∈ cs.toList.take (n * 16), v.oneCell' = true)
 (zs : List Value) (hzs : zs = (Builtin.zeroCells boxZ.toArray (j - i)).toList) :
 Calls Tryz.prog 33 #[.slice (some ⟨b, 0, none⟩) n c, .int .i64 i, .int .i64 j] w fun e w' => e = .returned (.slice (some ⟨b, 0, none⟩) (i + (n - j)) c) ∧
  w' = setBlk w.drew b (.cells (updsL (updsL cs.toList (i * 16) ((cs.toList.take (n * 16)).drop (j * 16))) ((i + (n - j)) * 16) zs).toArray t (0, 0)) := by
 have t22 := und36
 have mixed : Tryz.prog.follows .mixedOrders = true := by kernel_rfl
 have z28 : ∀ w, (Go.sizeOf 28).run Tryz.prog w = .ok 16 w := fun w => run_sizeOf' zeros28 w
 have a36 : ∀ w, (isAgg 36).run Tryz.prog w = .ok false w := fun w => by kernel_rfl
 obtain ⟨i0, zv, hi0, hz0, hzc, hz1, hone, _⟩ := zeros_ok zeros28
 have hz1 : i0.size = 16 := hz1
 obtain ⟨news, hnews⟩ : ∃ news, news = (cs.toList.take (n * 16)).drop (j * 16) := ⟨_, rfl⟩
 have hlen : news.length = (n - j) * 16 := by rw [hnews, List.length_drop, List.length_take]; simp; omega
 rw [← hnews]
 obtain ⟨A, hA, hsrc⟩ : ∃ A : Addr, (if c = j then some (⟨b, 0, none⟩ : Addr) else some ⟨b, j * 16, none⟩) = some A ∧ Hid (∀ t u, news[t]? = some u → w.drew.cell? (A.add t) = some u) := by
  by_cases h : c = j
  ·refine ⟨⟨b, 0, none⟩, by simp [h], fun t u hu => ?_⟩
   have h0 : news.length = 0 := by rw [hlen]; omega
   rw [List.length_eq_zero_iff.1 h0] at hu
   simp at hu
  ·refine ⟨⟨b, j * 16, none⟩, by simp [h], fun q u hu => ?_⟩
   rw [Addr.add_lit, cell_blk (w := w.drew) (by exact hblk)]
   rw [hnews, List.getElem?_drop, List.getElem?_take] at hu
   split at hu
   ·simpa using hu
   ·simp at hu
 have s1 : Hid (news.length = (n - j) * 16) := hlen
 have s2 : Hid (∀ u ∈ news, u.oneCell' = true) := fun u hu => one u (List.mem_of_mem_drop (hnews ▸ hu))
 have s3 : Hid (∀ q, q < news.length → (w.drew.cell? ⟨b, 0 + i * 16 + q, none⟩).isSome = true ∧ w.drew.frozen? ⟨b, 0 + i * 16 + q, none⟩ = false) := by
  intro q hq
  rw [hlen] at hq
  rw [cell_blk (w := w.drew) (by exact hblk), frozen_blk (w := w.drew) (by exact hblk)]
  refine ⟨?_, rfl⟩
  rw [Array.getElem?_eq_getElem (by omega)]; rfl
 obtain ⟨W1, hW1⟩ : ∃ W1, W1 = w.drew.setCells b (0 + i * 16) news := ⟨_, rfl⟩
 have hW1' : W1 = setBlk w.drew b (.cells (updsL cs.toList (i * 16) news).toArray t (0, 0)) := by
  rw [hW1, Nat.zero_add]
  exact setCells_blk' news _ w.drew cs hblk
 have hblt : b < w.heap.size := by
  rcases Nat.lt_or_ge b w.heap.size with h1 | h1
  ·exact h1
  ·simp [h1] at hblk
 have hb1 : W1.heap[b]? = some (.cells (updsL cs.toList (i * 16) news).toArray t (0, 0)) := by
  rw [hW1']; exact setBlk_at hblt
 have hZl : (Builtin.zeroCells zv.cells (n - (i + (n - j)))).toList = zs := by
  rw [hzs, show n - (i + (n - j)) = j - i by omega, ← hzc]
 have hZn : zs.length = (j - i) * 16 := by
  rw [hzs]; simp [Builtin.zeroCells, boxZ]
 have hZo : ∀ v ∈ zs, v.oneCell' = true := by
  rw [hzs]
  have := made_ok (w := w) (F' := fun _ => False) (z := boxZ.toArray) (n := j - i) (by simp [boxZ]) (by simpa using hone)
  intro v hv
  obtain ⟨d, hd⟩ := all2_right this v hv
  exact hd.one
 have hcl : ∀ ty, (Builtin.clear_ #[36] ty #[.slice (some ⟨b, (i + (n - j)) * 16, none⟩) (n - (i + (n - j))) (c - (i + (n - j)))]).run Tryz.prog W1 = .ok (.tuple #[]) (setBlk W1 b (.cells (updsL (updsL cs.toList (i * 16) news) ((i + (n - j)) * 16) zs).toArray t (0, 0))) := fun ty => by
  have hst := run_storeCells_blk (P := Tryz.prog) (b := b) (o := (i + (n - j)) * 16) zs 0 W1 _ hb1 (by rw [hZn]; simp only [List.size_toArray, length_updsL, Array.length_toList, hsz]; omega) hZo
  have hzr : ∀ w, (zeroValue 28).run Tryz.prog w = .ok zv w := fun w => by simp [zeroValue, typeInfo, hi0, hz0]
  obtain ⟨m, hm'⟩ : ∃ m, n - (i + (n - j)) = m + 1 := ⟨n - (i + (n - j)) - 1, by omega⟩
  rw [hm'] at hZl
  rw [Nat.add_zero] at hst
  rw [hm']
  simp [Builtin.clear_, run_und t22, hzr, hZl, hst]
 have X : Aside (W1 = setBlk w.drew b (.cells (updsL cs.toList (i * 16) news).toArray t (0, 0))) := hW1'
 have hW : Hid (W1 = w.drew.setCells b (0 + i * 16) news) := hW1
 have hic : i ≤ c := by omega
 have hjc : j ≤ c := by omega
 have Hone : Hid _ := one
 have Hblk : Hid _ := hblk
 have Hsz : Hid _ := hsz
 have HZ : Hid _ := hZl
 clear hW1 hW1' hb1 hnews hlen one hblk hsz hZl hZn hZo hzs hone hzc
 go_enter Tryz.func33, Tryz.ntmps33
 go_wp2_with fail
 go_region_law_o (refine step_append_room rfl (.tmp 22) (.tmp 25) 36 rfl 28 i0 16 t22 hi0 hz1 b 0 i c (by simp [Act.eval, Act.put]) A (n - j) (c - j) news (by simp [Act.eval, Act.put]) s1.out hsrc.out s2.out (by omega) s3.out ?_; rw [← hW.out])
 go_wp2
 go_ret
 exact ⟨rfl, by rw [X.out, setBlk_setBlk]⟩
theorem delD_nth {es : List (List D)} {s i j q : Nat} (h1 : ∀ e ∈ es, e.length = s) (hij : i ≤ j) (hj : j ≤ es.length) :
 nth .undef (es.take i ++ es.drop j).flatten q = if q < i * s then nth .undef es.flatten q else nth .undef es.flatten (j * s + (q - i * s)) := by
 have l1 : (es.take i).flatten.length = i * s := by
  rw [length_flatten (size := s) fun e he => h1 e (List.mem_of_mem_take he), List.length_take, Nat.min_eq_left (by omega)]
 have l2 : (es.take j).flatten.length = j * s := by
  rw [length_flatten (size := s) fun e he => h1 e (List.mem_of_mem_take he), List.length_take, Nat.min_eq_left (by omega)]
 have e1 : es.flatten = (es.take i).flatten ++ (es.drop i).flatten := by rw [← List.flatten_append, List.take_append_drop]
 have e2 : es.flatten = (es.take j).flatten ++ (es.drop j).flatten := by rw [← List.flatten_append, List.take_append_drop]
 rw [List.flatten_append]
 simp only [nth_eq, List.getElem?_append, l1]
 by_cases q1 : q < i * s
 ·rw [if_pos q1, if_pos q1, e1, List.getElem?_append_left (by rw [l1]; exact q1)]
 ·rw [if_neg q1, if_neg q1, e2, List.getElem?_append_right (by rw [l2]; omega), l2]
  rw [show j * s + (q - i * s) - j * s = q - i * s by omega]
theorem delete_ok {C : Cx} (hP : C.P = Tryz.prog) {es : List (List D)} {i j : Nat} (hij : i < j) (hj : j ≤ es.length) (h16 : ∀ e ∈ es, e.length = 16) :
 GivesC C 33 [] (some (16, es)) [.c (.int .i64 i), .c (.int .i64 j)] 16 (es.take i ++ es.drop j) := by
 intro w F vs1 vs2 g c0 cs0 t0 hb hinv h1 h2 hl
 have L := hl _ _ rfl
 obtain rfl : vs1 = [] := by
  match vs1, h1 with
  | [], _ => rfl
 obtain ⟨v1, v2, rfl, q1, q2⟩ : ∃ v1 v2, vs2 = [v1, v2] ∧ v1 = .int .i64 i ∧ v2 = .int .i64 j := by
  match vs2, h2 with
  | [v1, v2], ⟨a1, a2, _⟩ => exact ⟨v1, v2, rfl, by cases (a1 : CD _ _ _ _); rfl, by cases (a2 : CD _ _ _ _); rfl⟩
 subst q1 q2
 have hsz := L.sz
 have hlc := L.lc
 have hcd : ∀ q, q < es.length * 16 → CD w F (nth .undef es.flatten q) (nth undef cs0.toList q) := fun q hq => by
  obtain ⟨v, e1, e2⟩ := L.cd q hq
  have : nth undef cs0.toList q = v := by rw [nth_eq]; simp [e1]
  rw [this]; exact e2
 rw [hP]
 refine (del_run g es.length c0 i j cs0 t0 w L.blk hsz hlc.1 hlc.2 hij hj (fun v hv => ?_) _ rfl).mono ?_
 ·obtain ⟨q, hq, rfl⟩ := List.mem_iff_getElem.1 hv
  have hq' := hq
  rw [List.length_take] at hq'
  have := (hcd q (by omega)).one
  rw [nth_of_lt _ (by omega)] at this
  rw [List.getElem_take]; exact this
 rintro e w' ⟨rfl, rfl⟩
 generalize hz : (Builtin.zeroCells boxZ.toArray (j - i)).toList = zs
 generalize hn : (cs0.toList.take (es.length * 16)).drop (j * 16) = news
 have hnl : news.length = (es.length - j) * 16 := by rw [← hn, List.length_drop, List.length_take]; simp; omega
 have hlr : (es.take i ++ es.drop j).length = i + (es.length - j) := by
  simp only [List.length_append, List.length_take, List.length_drop]; omega
 refine ⟨((BelowX.refl _ _).drew).setBlk (.inr rfl), F, g, c0, (updsL (updsL cs0.toList (i * 16) news) ((i + (es.length - j)) * 16) zs).toArray, t0, by rw [hlr], fun _ h => h, fun x hx => ⟨by rw [setBlk_size]; exact hb x hx, .inl hx⟩, .inr rfl,
  ⟨L.nF, by rw [setBlk_size]; exact L.lt, setBlk_at L.lt, by rw [List.size_toArray, length_updsL, length_updsL]; simpa using hsz, ⟨by rw [hlr]; omega, hlc.2⟩, by
   rw [hlr]; have := L.room; unfold Eng.room at *; omega, by omega, fun e he => ?_, by have := L.ct; rw [hP] at this; exact this, fun q hq => ?_⟩⟩
 ·rcases List.mem_append.1 he with he | he
  ·exact h16 e (List.mem_of_mem_take he)
  ·exact h16 e (List.mem_of_mem_drop he)
 ·rw [hlr] at hq
  refine ⟨nth undef (updsL (updsL cs0.toList (i * 16) news) ((i + (es.length - j)) * 16) zs) q, ?_, ?_⟩
  ·rw [nth_of_lt _ (by rw [length_updsL, length_updsL]; simp; omega)]; simp
  ·refine CD.mono (w := w) ?_ (fun _ h => h) fun b hbF => setBlk_ne (w := w.drew) (fun e => L.nF (e ▸ hbF))
   rw [nth_updsL_lt _ _ _ _ _ hq, delD_nth h16 (by omega) hj]
   by_cases q1 : q < i * 16
   ·rw [if_pos q1, nth_updsL_lt _ _ _ _ _ q1]
    exact hcd q (by omega)
   ·rw [if_neg q1]
    have := nth_updsL_in undef news cs0.toList (i * 16) (q - i * 16) (by omega) (by simp; omega)
    rw [show i * 16 + (q - i * 16) = q by omega] at this
    rw [this, ← hn, nth_eq (α := Value), List.getElem?_drop, List.getElem?_take, if_pos (by omega), ← nth_eq]
    exact hcd _ (by omega)
end Eng
end
