/- slices.Insert at []string: a call that takes two arrays over. -/
import Derived.Test.YtkkodaemmgpgfaaGreatDoorShfA
import Derived.Test.YtkkodaemmgpgfaaGreatDoorCtxB
import Derived.Test.YtkkodaemmgpgfaaGreatDoorEngF
import Derived.Test.YtkkodaemmgpgfaaGreatDoorTabB
section
namespace Eng
open Go Go.Proofs Go.RowKit
set_option maxRecDepth 100000
theorem lt_of_blk {w : World} {b : Nat} {o : Go.Obj} (h : w.heap[b]? = some o) : b < w.heap.size := by
 rcases Nat.lt_or_ge b w.heap.size with h1 | h1
 ·exact h1
 ·simp [h1] at h
theorem setCells_blk {b : Nat} {t : TypeId} : ∀ (vs : List Value) (o : Nat) (w : World) (cs : Array Value), w.heap[b]? = some (.cells cs t (0, 0)) → w.setCells b o vs = setBlk w b (.cells (updsL cs.toList o vs).toArray t (0, 0))
 | [], o, w, cs, h => by
  simp only [World.setCells, updsL, Array.toArray_toList]
  rw [setBlk_self h]
 | v :: vs, o, w, cs, h => by
  rw [World.setCells, setCell_blk h, setCells_blk vs (o + 1) _ _ (setBlk_at (lt_of_blk h)), setBlk_setBlk]
  simp only [updsL, Array.toList_setIfInBounds, ← upd_eq]
def insL (cs vs : List Value) (i n : Nat) : List Value := updsL (updsL cs (i + vs.length) ((cs.take n).drop i)) i vs
theorem insL_nth {cs vs : List Value} {i n j : Nat} (hi : i ≤ n) (hn : n + vs.length ≤ cs.length) (hj : j < n + vs.length) :
 nth undef (insL cs vs i n) j = if j < i then nth undef cs j else if j < i + vs.length then nth undef vs (j - i) else nth undef cs (j - vs.length) := by
 have hl : ((cs.take n).drop i).length = n - i := by rw [List.length_drop, List.length_take]; omega
 unfold insL
 by_cases h1 : j < i
 ·rw [if_pos h1, nth_updsL_lt _ _ _ _ _ h1, nth_updsL_lt _ _ _ _ _ (by omega)]
 ·rw [if_neg h1]
  by_cases h2 : j < i + vs.length
  ·rw [if_pos h2]
   have := nth_updsL_in undef vs (updsL cs (i + vs.length) ((cs.take n).drop i)) i (j - i) (by omega) (by rw [length_updsL]; omega)
   rw [show i + (j - i) = j by omega] at this
   exact this
  ·rw [if_neg h2, nth_updsL_ge _ _ _ _ _ (by omega)]
   have := nth_updsL_in undef ((cs.take n).drop i) cs (i + vs.length) (j - (i + vs.length)) (by rw [hl]; omega) (by omega)
   rw [show i + vs.length + (j - (i + vs.length)) = j by omega] at this
   rw [this, nth_eq, nth_eq, List.getElem?_drop, List.getElem?_take, if_pos (by omega), show i + (j - (i + vs.length)) = j - vs.length by omega]
theorem insD_nth {es vs : List (List D)} {i j : Nat} (h1 : ∀ e ∈ es, e.length = 1) (h2 : ∀ e ∈ vs, e.length = 1) (hi : i ≤ es.length) :
 nth .undef (es.take i ++ vs ++ es.drop i).flatten j = if j < i then nth .undef es.flatten j else if j < i + vs.length then nth .undef vs.flatten (j - i) else nth .undef es.flatten (j - vs.length) := by
 have l1 : (es.take i).flatten.length = i := by
  rw [length_flatten (size := 1) fun e he => h1 e (List.mem_of_mem_take he), List.length_take]; omega
 have l2 : vs.flatten.length = vs.length := by rw [length_flatten h2]; omega
 have hsp : es.flatten = (es.take i).flatten ++ (es.drop i).flatten := by rw [← List.flatten_append, List.take_append_drop]
 rw [hsp, List.flatten_append, List.flatten_append]
 generalize (es.take i).flatten = a at *
 generalize (es.drop i).flatten = b at *
 generalize vs.flatten = v at *
 simp only [nth_eq, List.getElem?_append, List.length_append, l1, l2]
 by_cases q1 : j < i
 ·rw [if_pos (by omega), if_pos q1, if_pos q1, if_pos q1]
 ·rw [if_neg q1]
  by_cases q2 : j < i + vs.length
  ·rw [if_pos q2, if_neg q1, if_pos q2]
  ·rw [if_neg q2, if_neg q2, if_neg (by omega)]
   rw [show j - (i + vs.length) = j - vs.length - i by omega, if_neg (show ¬ j - vs.length < i by omega)]
theorem ins_cells {w : World} {F : Nat → Prop} {es vs : List (List D)} {cs us out : List Value} {i : Nat} (h1 : ∀ e ∈ es, e.length = 1) (h2 : ∀ e ∈ vs, e.length = 1) (hi : i ≤ es.length)
 (c1 : ∀ j, j < es.length → ∃ v, nth undef cs j = v ∧ CD w F (nth .undef es.flatten j) v) (c2 : ∀ j, j < vs.length → ∃ v, nth undef us j = v ∧ CD w F (nth .undef vs.flatten j) v)
 (ho : ∀ j, j < es.length + vs.length → nth undef out j = if j < i then nth undef cs j else if j < i + vs.length then nth undef us (j - i) else nth undef cs (j - vs.length)) {j : Nat} (hj : j < es.length + vs.length) :
 CD w F (nth .undef (es.take i ++ vs ++ es.drop i).flatten j) (nth undef out j) := by
 rw [ho j hj, insD_nth h1 h2 hi]
 by_cases q1 : j < i
 ·rw [if_pos q1, if_pos q1]
  obtain ⟨v, rfl, h⟩ := c1 j (by omega); exact h
 ·rw [if_neg q1, if_neg q1]
  by_cases q2 : j < i + vs.length
  ·rw [if_pos q2, if_pos q2]
   obtain ⟨v, rfl, h⟩ := c2 (j - i) (by omega); exact h
  ·rw [if_neg q2, if_neg q2]
   obtain ⟨v, rfl, h⟩ := c1 (j - vs.length) (by omega); exact h
theorem lent_cells {C : Cx} {w : World} {F : Nat → Prop} {g c : Nat} {cs : Array Value} {t : TypeId} {es : List (List D)} (L : LentOk C.P w F g c cs t 1 es) : es.length ≤ cs.toList.length ∧ (∀ j, j < es.length → ∃ v, nth undef cs.toList j = v ∧ CD w F (nth .undef es.flatten j) v) ∧
 (∀ j, j < es.length → (nth undef cs.toList j).oneCell' = true) := by
 have hl : es.length ≤ cs.toList.length := by
  have := L.sz; have := L.lc; simp; omega
 refine ⟨hl, fun j hj => ?_, fun j hj => ?_⟩
 ·obtain ⟨v, h1, h2⟩ := L.cd j (by omega)
  exact ⟨v, by rw [nth_eq]; simp [h1], h2⟩
 ·obtain ⟨v, h1, h2⟩ := L.cd j (by omega)
  have : nth undef cs.toList j = v := by rw [nth_eq]; simp [h1]
  rw [this]; exact h2.one
theorem ins_ok {es vs : List (List D)} {i : Nat} (hi : i < es.length) (hv : vs ≠ []) (hroom : es.length + vs.length ≤ 1073741824) : GivesN CC 87 1 es i vs (es.take i ++ vs ++ es.drop i) := by
 intro w F g c0 cs0 t0 g2 c2 cs2 t2 hb hinv L1 L2 hgg
 obtain ⟨n1, d1, o1⟩ := lent_cells L1
 obtain ⟨n2, d2, o2⟩ := lent_cells L2
 have hm : 0 < vs.length := List.length_pos_iff.2 hv
 have k1 := L1.sz
 have k2 := L2.sz
 have hcl : (cs0.toList.take es.length).length = es.length := by rw [List.length_take]; omega
 have hvl : (cs2.toList.take vs.length).length = vs.length := by rw [List.length_take]; omega
 have hcs : ∀ j v, (cs0.toList.take es.length)[j]? = some v → w.cell? ⟨g, 0 + j, none⟩ = some v := fun j v h => by
  rw [cell_blk L1.blk, Nat.zero_add]
  rw [List.getElem?_take] at h
  split at h
  ·simpa using h
  ·simp at h
 have hvs : ∀ j v, (cs2.toList.take vs.length)[j]? = some v → w.cell? ⟨g2, 0 + j, none⟩ = some v := fun j v h => by
  rw [cell_blk L2.blk, Nat.zero_add]
  rw [List.getElem?_take] at h
  split at h
  ·simpa using h
  ·simp at h
 have one : ∀ (l : List Value) (n : Nat), (∀ j, j < n → (nth undef l j).oneCell' = true) → ∀ v ∈ l.take n, v.oneCell' = true := fun l n h v hv => by
  obtain ⟨j, hj, rfl⟩ := List.mem_iff_getElem.1 hv
  have hj' := hj
  rw [List.length_take] at hj'
  have := h j (by omega)
  rw [nth_of_lt _ (by omega)] at this
  rw [List.getElem_take]; exact this
 have hlr : (es.take i ++ vs ++ es.drop i).length = es.length + vs.length := by
  simp only [List.length_append, List.length_take, List.length_drop]; omega
 have hlens : ∀ e ∈ es.take i ++ vs ++ es.drop i, e.length = 1 := fun e he => by
  simp only [List.mem_append] at he
  rcases he with (he | he) | he
  ·exact L1.lens e (List.mem_of_mem_take he)
  ·exact L2.lens e he
  ·exact L1.lens e (List.mem_of_mem_drop he)
 by_cases hfit : es.length + vs.length ≤ c0
 ·refine (Any2.slices_Insert_string_shift Tryz.lays2_22 g 0 es.length c0 i g2 0 vs.length c2 (cs0.toList.take es.length) (cs2.toList.take vs.length) w hi hm hfit L1.lc.2 (Ne.symm hgg) hcl hvl hcs
   (fun j hj => by rw [cell_blk L1.blk, Nat.zero_add]; simp; omega) (fun j hj => frozen_blk L1.blk) hvs (one _ _ o1) (one _ _ o2) t2 t0 cs2.size cs0.size (by simp [World.shape?, L2.blk]) (by simp [World.shape?, L1.blk]) (by omega) (frozen_blk L2.blk) (frozen_blk L2.blk)).mono ?_
  rintro e w' ⟨rfl, rfl⟩
  have hw : (w.drew.setCells g (0 + (i + vs.length)) ((cs0.toList.take es.length).drop i)).setCells g (0 + i) (cs2.toList.take vs.length) = setBlk w.drew g (.cells (insL cs0.toList (cs2.toList.take vs.length) i es.length).toArray t0 (0, 0)) := by
   rw [setCells_blk _ _ w.drew cs0 L1.blk, setCells_blk _ _ _ _ (setBlk_at (w := w.drew) L1.lt), setBlk_setBlk]
   simp only [Nat.zero_add, insL, hvl]
  rw [hw]
  have hlen : (insL cs0.toList (cs2.toList.take vs.length) i es.length).length = cs0.size := by simp [insL, length_updsL]
  refine ⟨((BelowX.refl _ _).drew).setBlk (.inr (.inl rfl)), F, g, c0, (insL cs0.toList (cs2.toList.take vs.length) i es.length).toArray, t0, by rw [hlr], fun _ h => h, fun x hx => ⟨by rw [setBlk_size]; exact hb x hx, .inl hx⟩, .inr (.inl rfl),
   ⟨L1.nF, by rw [setBlk_size]; exact L1.lt, setBlk_at L1.lt, by rw [List.size_toArray, hlen]; exact k1, ⟨by rw [hlr]; exact hfit, L1.lc.2⟩, by rw [hlr]; exact hroom, L1.s0, hlens, L1.ct, fun j hj => ?_⟩⟩
  rw [hlr, Nat.mul_one] at hj
  refine ⟨nth undef (insL cs0.toList (cs2.toList.take vs.length) i es.length) j, ?_, ?_⟩
  ·rw [nth_of_lt _ (by rw [hlen]; omega)]; simp
  ·refine CD.mono (ins_cells (cs := cs0.toList) (us := cs2.toList.take vs.length) L1.lens L2.lens (by omega) d1 (fun q hq => ?_) (fun q hq => ?_) hj) (fun _ h => h) fun b hbF => setBlk_ne (fun e => L1.nF (e ▸ hbF))
   ·obtain ⟨v, e, h⟩ := d2 q hq
    refine ⟨v, ?_, h⟩
    rw [nth_eq, List.getElem?_take, if_pos hq, ← nth_eq]; exact e
   ·have := insL_nth (cs := cs0.toList) (vs := cs2.toList.take vs.length) (i := i) (n := es.length) (j := q) (by omega) (by rw [hvl]; simp; omega) (by rw [hvl]; exact hq)
    rw [hvl] at this; exact this
 ·have hcap := grownCap_ge w (es.length + vs.length) c0 (Tryz.lays2_22_ren.t 9)
  have hcap2 := grownCap_le_maxLen w (es.length + vs.length) c0 (Tryz.lays2_22_ren.t 9) (by simp only [maxLen]; omega)
  refine (Any2.slices_Insert_string_grow Tryz.lays2_22 g 0 es.length c0 i g2 0 vs.length c2 (cs0.toList.take es.length) (cs2.toList.take vs.length) w hi hm L1.lc.1 (by omega) (by omega) hcl hvl hcs hvs (one _ _ o1) (one _ _ o2)).mono ?_
  rintro e w' ⟨rfl, rfl⟩
  generalize hcg : grownCap w (es.length + vs.length) c0 (Tryz.lays2_22_ren.t 9) = cap at *
  generalize hX : ((cs0.toList.take es.length).take i).toArray ++ Builtin.zeroCells (Value.string ⟨#[]⟩).cells (es.length + vs.length - i) ++ Builtin.zeroCells (Value.string ⟨#[]⟩).cells (cap - (es.length + vs.length)) = X
  have hXs : X.size = cap := by
   rw [← hX, Array.size_append, Array.size_append, size_zeroCells, size_zeroCells, List.size_toArray, List.length_take, List.length_take]
   have : (Value.string ⟨#[]⟩).cells.size = 1 := rfl
   rw [this]
   have := n1
   omega
  have hXj : ∀ j, j < i → nth undef X.toList j = nth undef cs0.toList j := fun j hj => by
   rw [← hX, nth_eq, nth_eq]
   rw [Array.toList_append, Array.toList_append, List.append_assoc, List.getElem?_append_left (by simp; have := n1; simp at this; omega)]
   simp [hj, show j < es.length by omega]
  generalize hty : Tryz.lays2_22_ren.t 9 = ty
  have hct : CC.P.cellsOf ty = 1 := by rw [← hty]; rfl
  have hnb : (w.alloc (.cells X ty)).heap[w.heap.size]? = some (.cells X ty (0, 0)) := by show (w.heap.push _)[w.heap.size]? = _; simp
  have hnl : w.heap.size < (w.alloc (.cells X ty)).heap.size := by rw [World.size_alloc]; omega
  generalize hout : updsL (updsL X.toList i (cs2.toList.take vs.length)) (i + vs.length) ((cs0.toList.take es.length).drop i) = out
  have hw : (((w.alloc (.cells X ty)).drew.setCells w.heap.size i (cs2.toList.take vs.length)).drew).setCells w.heap.size (i + vs.length) ((cs0.toList.take es.length).drop i) = (setBlk (w.alloc (.cells X ty)).drew w.heap.size (.cells out.toArray ty (0, 0))).drew := by
   rw [setCells_blk _ _ (w.alloc (.cells X ty)).drew X hnb]
   show World.setCells (setBlk (w.alloc (.cells X ty)).drew.drew w.heap.size _) _ _ _ = _
   rw [setCells_blk _ _ _ _ (setBlk_at (w := (w.alloc (.cells X ty)).drew.drew) hnl), setBlk_setBlk, ← hout]
   rfl
  rw [hw]
  have hol : out.length = cap := by rw [← hout, length_updsL, length_updsL]; simpa using hXs
  have hon : ∀ j, j < es.length + vs.length → nth undef out j = if j < i then nth undef cs0.toList j else if j < i + vs.length then nth undef (cs2.toList.take vs.length) (j - i) else nth undef cs0.toList (j - vs.length) := fun j hj => by
   rw [← hout]
   by_cases h1 : j < i
   ·rw [if_pos h1, nth_updsL_lt _ _ _ _ _ (by omega), nth_updsL_lt _ _ _ _ _ h1, hXj j h1]
   ·rw [if_neg h1]
    by_cases h2 : j < i + vs.length
    ·rw [if_pos h2, nth_updsL_lt _ _ _ _ _ h2]
     have := nth_updsL_in undef (cs2.toList.take vs.length) X.toList i (j - i) (by omega) (by simp; omega)
     rw [show i + (j - i) = j by omega] at this
     exact this
    ·rw [if_neg h2]
     have := nth_updsL_in undef ((cs0.toList.take es.length).drop i) (updsL X.toList i (cs2.toList.take vs.length)) (i + vs.length) (j - (i + vs.length)) (by rw [List.length_drop, hcl]; omega) (by rw [length_updsL]; simp; omega)
     rw [show i + vs.length + (j - (i + vs.length)) = j by omega] at this
     rw [this, nth_eq, nth_eq, List.getElem?_drop, List.getElem?_take, if_pos (by omega), show i + (j - (i + vs.length)) = j - vs.length by omega]
  refine ⟨((((BelowX.refl _ _).alloc (Nat.le_refl _) _).drew).setBlk (.inl (Nat.le_refl _))).drew, F, w.heap.size, cap, out.toArray, ty, by rw [hlr], fun _ h => h, fun x hx => ⟨by
   show x < (setBlk (w.alloc (.cells X ty)).drew w.heap.size (.cells out.toArray ty (0, 0))).heap.size
   rw [setBlk_size]; exact Nat.lt_trans (hb x hx) hnl, .inl hx⟩, .inl (Nat.le_refl _),
   ⟨fun h => Nat.lt_irrefl _ (hb _ h), by
    show w.heap.size < (setBlk (w.alloc (.cells X ty)).drew w.heap.size (.cells out.toArray ty (0, 0))).heap.size
    rw [setBlk_size]; exact hnl, setBlk_at (w := (w.alloc (.cells X ty)).drew) hnl, by rw [List.size_toArray, hol, Nat.mul_one], ⟨by rw [hlr]; exact hcap, by simpa [maxLen] using hcap2⟩, by rw [hlr]; exact hroom, L1.s0, hlens, hct, fun j hj => ?_⟩⟩
  rw [hlr, Nat.mul_one] at hj
  refine ⟨nth undef out j, ?_, ?_⟩
  ·rw [nth_of_lt _ (by omega)]; simp
  ·refine CD.mono (ins_cells (cs := cs0.toList) (us := cs2.toList.take vs.length) L1.lens L2.lens (by omega) d1 (fun q hq => ?_) (fun q hq => hon q hq) hj) (fun _ h => h) fun b hbF => ?_
   ·obtain ⟨v, e, h⟩ := d2 q hq
    refine ⟨v, ?_, h⟩
    rw [nth_eq, List.getElem?_take, if_pos hq, ← nth_eq]; exact e
   ·have hlt := hb b hbF
    show (setBlk (w.alloc (.cells X ty)).drew w.heap.size (.cells out.toArray ty (0, 0))).heap[b]? = _
    rw [setBlk_ne (fun e => by omega)]
    show (w.heap.push _)[b]? = _
    rw [Array.getElem?_push_lt hlt, Array.getElem?_eq_getElem hlt]
end Eng
end

section
namespace Eng
open Go Go.Proofs
theorem givesN_cx {C C' : Cx} (hP : C'.P = C.P) (hG : C'.G = C.G) {f s : Nat} {es vs res : List (List D)} {i : Int} (h : GivesN C f s es i vs res) : GivesN C' f s es i vs res := by
  intro w F g c0 cs0 t0 g2 c2 cs2 t2 hb hi L1 L2 hgg
  rw [hP] at L1 L2 ⊢
  exact h w F g c0 cs0 t0 g2 c2 cs2 t2 hb (inv_cx hG.symm hi) L1 L2 hgg
def insChk (es : List (List D)) (i : Int) (vs : List (List D)) : Bool := decide (0 ≤ i) && (Nat.blt i.toNat es.length && (Nat.blt 0 vs.length && Nat.ble (es.length + vs.length) 1073741824))
def insMk (es : List (List D)) (i : Int) (vs : List (List D)) : List (List D) := es.take i.toNat ++ vs ++ es.drop i.toNat
def effI : EffF := effIns 1 insChk insMk
theorem effAt_I {C : Cx} (hP : C.P = CC.P) (hG : C.G = CC.G) {fn : Func} (hf : C.P.funcs[87]? = some fn) (hb : fn.body ≠ none) (hn : fn.name ≠ "runtime.NumGoroutine") : EffAt C 87 effI := by
  refine effAt_ins hf hb hn fun es i vs hc => ?_
  unfold insChk at hc
  simp only [Bool.and_eq_true, decide_eq_true_eq] at hc
  obtain ⟨h0, h1, h2, h3⟩ := hc
  rw [Nat.blt_eq] at h1 h2
  have h3 := Nat.le_of_ble_eq_true h3
  have hv : vs ≠ [] := List.length_pos_iff.1 h2
  refine ⟨fun e => by rw [e] at h1; simp at h1, hv, fun e => ?_, ?_⟩
  · have := congrArg List.length e
    simp only [insMk, List.length_append, List.length_take, List.length_drop, List.length_nil] at this
    omega
  · have h := givesN_cx hP hG (ins_ok (i := i.toNat) h1 hv h3)
    rw [show ((i.toNat : Nat) : Int) = i by omega] at h
    exact h
end Eng
end

section
namespace Eng
open Go Go.Proofs
def rowS (l : List (List UInt8)) : List (List D) := l.map fun s => [D.str s]
theorem rowS_flat (l : List (List UInt8)) : (rowS l).flatten = l.map D.str := by
  induction l with
  | nil => rfl
  | cons s l ih => simp only [rowS, List.map_cons, List.flatten_cons] at ih ⊢; rw [ih]; rfl
theorem join_ok {l : List (List UInt8)} {sep : List UInt8} (hne : l ≠ []) (hN : l.length ≤ 1073741824) (hlen : (Lib.join l sep).length ≤ 1073741824) : Gives CC 89 [.c (.sl (rowS l)), .c (.str sep)] [.c (.str (Lib.join l sep))] := by
  intro w F vs hb _ ha
  match vs, ha with
  | [x, y], ha =>
    obtain ⟨hx, hy, _⟩ := ha
    have hx : CD w F (.sl (rowS l)) x := hx
    have hy := str_inv (show CD w F (.str sep) y from hy)
    subst hy
    obtain ⟨ad, c, rfl, hlc, hr⟩ := hx.slice_inv
    have hll : (rowS l).length = l.length := by simp [rowS]
    rcases hr with hr | ⟨b, o, size, rfl, hs, hF, hc⟩
    · exact absurd (by simpa [rowS] using hr) hne
    obtain ⟨s0, l', rfl⟩ : ∃ s0 l', l = s0 :: l' := by
      cases l with
      | nil => exact absurd rfl hne
      | cons s0 l' => exact ⟨s0, l', rfl⟩
    have hsz : size = 1 := by
      have := hs [D.str s0] (by simp [rowS]); simpa using this.symm
    subst hsz
    have hm : ((s0 :: l').map fun s => (⟨⟨s⟩⟩ : ByteArray)).map (·.data.toList) = s0 :: l' := by
      rw [List.map_map]; exact List.map_id _
    have := Tryz.strings_Join b o c ((s0 :: l').map fun s => (⟨⟨s⟩⟩ : ByteArray)) ⟨⟨sep⟩⟩ w (fun j u hj => by
        rw [List.getElem?_map] at hj
        cases hq : (s0 :: l')[j]? with
        | none => rw [hq] at hj; simp at hj
        | some s =>
          rw [hq] at hj
          simp only [Option.map_some, Option.some.injEq] at hj
          subst hj
          have hjl := (List.getElem?_eq_some_iff.1 hq).1
          obtain ⟨v, h1, h2⟩ := hc j (by rw [hll]; omega)
          rw [rowS_flat] at h2
          have e : nth D.undef ((s0 :: l').map D.str) j = D.str s := by rw [nth_eq, List.getElem?_map, hq]; rfl
          rw [e] at h2
          rw [h1, str_inv h2]) (hb _ hF) (by rw [List.length_map]; omega) (by rw [List.length_map]; omega) (by rw [hm]; show (Lib.join (s0 :: l') sep).length ≤ _; omega)
    rw [hm, List.length_map] at this
    rw [hll]
    refine this.mono fun e w' he => ?_
    obtain ⟨rfl, hbel⟩ := he
    exact ⟨hbel, _, rfl, CD.str _⟩
end Eng
end

section
namespace Eng
open Go Go.Proofs
def strsD : List (List D) → Option (List (List UInt8))
  | [] => some []
  | [.str s] :: r => match strsD r with
    | some l => some (s :: l)
    | none => none
  | _ => none
theorem strsD_ok : ∀ {es : List (List D)} {l : List (List UInt8)}, strsD es = some l → es = rowS l
  | [], l, h => by simp only [strsD, Option.some.injEq] at h; subst h; rfl
  | e :: r, l, h => by
    unfold strsD at h
    split at h
    · simp at *
    · rename_i s r' heq
      split at h
      · rename_i l' hl
        simp only [Option.some.injEq] at h
        simp only [List.cons.injEq] at heq
        obtain ⟨rfl, rfl⟩ := heq
        subst h
        rw [strsD_ok hl]; rfl
      · simp at h
    · simp at h
def tabJ (f : Nat) (al : List A) : Option (List A) :=
  match Nat.beq f 89 with
  | false => tabU f al
  | true => match al with
    | [.c (.sl es), .c (.str sep)] => match strsD es with
      | some l => match Nat.blt 0 l.length && (Nat.ble l.length 1073741824 && Nat.ble (Lib.join l sep).length 1073741824) with
        | true => some [.c (.str (Lib.join l sep))]
        | false => none
      | none => none
    | _ => none
theorem tabJ_ok (f : Nat) (al rs : List A) (h : tabJ f al = some rs) : Gives CC f al rs := by
  unfold tabJ at h
  split at h
  · exact tabU_ok f al rs h
  · rename_i hf
    obtain rfl := Nat.eq_of_beq_eq_true hf
    split at h
    · split at h
      · rename_i l hl
        split at h
        · rename_i hb
          simp only [Bool.and_eq_true] at hb
          obtain ⟨h1, h2, h3⟩ := hb
          rw [Nat.blt_eq] at h1
          simp only [Option.some.injEq] at h; subst h
          rw [strsD_ok hl]
          exact join_ok (List.length_pos_iff.1 h1) (Nat.le_of_ble_eq_true h2) (Nat.le_of_ble_eq_true h3)
        · simp at h
      · simp at h
    · simp at h
theorem tabJ_okX {ex : List (Nat × EffF)} (f : Nat) (al rs : List A) (h : tabJ f al = some rs) : Gives (CX ex) f al rs := upX (tabJ_ok f al rs h)
end Eng
end
