/- The law CoverDistances: Far and Near (the program's and the reference's). -/
import Derived.Test.YtkkodaemmgpgfaaGreatDoorCdA
section
namespace Eng
open Go Go.Proofs
set_option maxRecDepth 100000
def encB (a b c d : Rat) : A := .ag (cR a ++ (cR b ++ (cR c ++ cR d)))
theorem encV_cells' (v : V2) : encV v = .ag [.bool (decide (v.x.num < 0)), .sl (raw (lim v.x.num.natAbs)), .bool (decide ((v.x.den : Int) < 0)), .sl (raw (lim (v.x.den : Int).natAbs)),
  .bool (decide (v.y.num < 0)), .sl (raw (lim v.y.num.natAbs)), .bool (decide ((v.y.den : Int) < 0)), .sl (raw (lim (v.y.den : Int).natAbs))] := rfl
theorem encB_cells (a b c d : Rat) : encB a b c d = .ag [.bool (decide (a.num < 0)), .sl (raw (lim a.num.natAbs)), .bool (decide ((a.den : Int) < 0)), .sl (raw (lim (a.den : Int).natAbs)),
  .bool (decide (b.num < 0)), .sl (raw (lim b.num.natAbs)), .bool (decide ((b.den : Int) < 0)), .sl (raw (lim (b.den : Int).natAbs)),
  .bool (decide (c.num < 0)), .sl (raw (lim c.num.natAbs)), .bool (decide ((c.den : Int) < 0)), .sl (raw (lim (c.den : Int).natAbs)),
  .bool (decide (d.num < 0)), .sl (raw (lim d.num.natAbs)), .bool (decide ((d.den : Int) < 0)), .sl (raw (lim (d.den : Int).natAbs))] := rfl
def clR (x lo hi : Rat) : Rat := if x < lo then lo else if hi < x then hi else x
def sqR (x : Rat) : Rat := x * x
def frV (v w : V2) : Rat := sqR (v.x - w.x) + sqR (v.y - w.y)
theorem Sz.cl {k : Nat} {x lo hi : Rat} (hx : Sz k x) (hl : Sz k lo) (hh : Sz k hi) : Sz k (clR x lo hi) := by
  unfold clR; split
  · exact hl
  · split
    · exact hh
    · exact hx
theorem Sz.sqd {x y : Rat} (hx : Sz 18 x) (hy : Sz 18 y) : Sz 74 (sqR (x - y)) := ((hx.sub hy).mul (hx.sub hy)).mono (by omega)
theorem csquare_ok {x : Rat} (hx : Sr x) : Gives CC 51 [encR x] [encR (sqR x)] := by
  have h := rMul_ok divOk hx hx
  refine wpF_ok (anns := fun _ => ⟨[], [], fun _ _ => True, fun _ => 0⟩) mixedT Tryz.func51 ?_
  rw [encR_cells, vc_csquare]
  rw [encR_cells x, encR_cells (x * x)] at h
  exact ⟨_, _, _, _, h, rfl⟩
theorem cclamped_ok {x lo hi : Rat} (hx : Sr x) (hl : Sr lo) (hh : Sr hi) : Gives CC 48 [encR x, encR lo, encR hi] [encR (clR x lo hi)] := by
  have h1 := rCmp_ok hx hl
  have h2 := rCmp_ok hx hh
  refine wpF_ok (anns := fun _ => ⟨[], [], fun _ _ => True, fun _ => 0⟩) mixedT Tryz.func48 ?_
  rw [encR_cells x, encR_cells lo, encR_cells hi, vc_cclamped]
  refine ⟨_, h1, brd (fun h => ?_) (fun h => ⟨_, h2, brd (fun h' => ?_) (fun h' => ?_)⟩)⟩
  · rw [cmpR_lt] at h; unfold clR; rw [if_pos h]; rfl
  · rw [cmpR_lt] at h; rw [cmpR_gt] at h'; unfold clR; rw [if_neg h, if_pos h']; rfl
  · rw [cmpR_lt] at h; rw [cmpR_gt] at h'; unfold clR; rw [if_neg h, if_neg h']; rfl
theorem eclamp_ok {x lo hi : Rat} (hx : Sr x) (hl : Sr lo) (hh : Sr hi) : Gives CC 54 [encR x, encR lo, encR hi] [encR (clR x lo hi)] := by
  have h1 := uCmp_ok hx hl
  have h2 := uCmp_ok hx hh
  refine wpF_ok (anns := fun _ => ⟨[], [], fun _ _ => True, fun _ => 0⟩) mixedT Tryz.func54 ?_
  rw [encR_cells x, encR_cells lo, encR_cells hi, vc_eclamp]
  refine ⟨_, h1, brd (fun h => ?_) (fun h => ⟨_, h2, brd (fun h' => ?_) (fun h' => ?_)⟩)⟩
  · rw [cmpR_lt] at h; unfold clR; rw [if_pos h]; rfl
  · rw [cmpR_lt] at h; rw [cmpR_gt] at h'; unfold clR; rw [if_neg h, if_pos h']; rfl
  · rw [cmpR_lt] at h; rw [cmpR_gt] at h'; unfold clR; rw [if_neg h, if_neg h']; rfl
theorem cfar_ok {v w : V2} (hv : Sv 18 v) (hw : Sv 18 w) : Gives CC 50 [encV v, encV w] [encR (frV v w)] := by
  have zx := hv.1.sub hw.1
  have zy := hv.2.sub hw.2
  have h1 := rSub_ok divOk (hv.1.sr (by omega)) (hw.1.sr (by omega))
  have h2 := csquare_ok (zx.sr (by omega))
  have h3 := rSub_ok divOk (hv.2.sr (by omega)) (hw.2.sr (by omega))
  have h4 := csquare_ok (zy.sr (by omega))
  have h5 := rAdd_ok divOk ((hv.1.sqd hw.1).sr (by omega)) ((hv.2.sqd hw.2).sr (by omega))
  refine wpF_ok (anns := fun _ => ⟨[], [], fun _ _ => True, fun _ => 0⟩) mixedT Tryz.func50 ?_
  rw [encV_cells' v, encV_cells' w, vc_cfar]
  exact ⟨_, _, _, _, h1, _, _, _, _, h2, _, _, _, _, h3, _, _, _, _, h4, _, _, _, _, h5, rfl⟩
theorem esquare_ok {x y : Rat} (hx : Sz 18 x) (hy : Sz 18 y) : Gives CC 53 [encR x, encR y] [encR (sqR (x - y))] := by
  have h1 := uSub_ok partsOk (hx.sr (by omega)) (hy.sr (by omega))
  have h2 := uSquare_ok partsOk ((hx.sub hy).sr (by omega))
  refine wpF_ok (anns := fun _ => ⟨[], [], fun _ _ => True, fun _ => 0⟩) mixedT Tryz.func53 ?_
  rw [encR_cells x, encR_cells y, vc_esquare]
  exact ⟨_, _, _, _, h1, _, _, _, _, h2, rfl⟩
def mxR (x y : Rat) : Rat := if x < y then y else x
theorem uMax_ok {x y : Rat} (hx : Sr x) (hy : Sr y) : Gives CC 57 [encR x, encR y] [encR (mxR x y)] := by
  have h1 := uCmp_ok hx hy
  refine wpF_ok (anns := fun _ => ⟨[], [], fun _ _ => True, fun _ => 0⟩) mixedT Tryz.func57 ?_
  rw [encR_cells x, encR_cells y, vc_uMax]
  refine ⟨_, h1, brd (fun h => ?_) (fun h => ?_)⟩
  · rw [cmpR_lt] at h; unfold mxR; rw [if_pos h]; rfl
  · rw [cmpR_lt] at h; unfold mxR; rw [if_neg h]; rfl
theorem cFar_no {B V R : A} {p1 q1 p2 q2 p3 q3 p4 q4 p5 q5 p6 q6 p7 q7 : Bool} {l1 m1 l2 m2 l3 m3 l4 m4 l5 m5 l6 m6 l7 m7 : List (List D)}
    (hB : B = .ag [.bool p1, .sl l1, .bool q1, .sl m1, .bool p2, .sl l2, .bool q2, .sl m2, .bool p3, .sl l3, .bool q3, .sl m3, .bool p4, .sl l4, .bool q4, .sl m4])
    (hV : V = .ag [.bool p5, .sl l5, .bool q5, .sl m5, .bool p6, .sl l6, .bool q6, .sl m6]) (hR : R = .ag [.bool p7, .sl l7, .bool q7, .sl m7])
    (h : Gives CC 46 [B] [.c (.bool false)]) : Gives CC 13 [B, V, R] [.c (.bool false)] := by
  subst hB hV hR
  refine wpF_ok (anns := fun _ => ⟨[], [], fun _ _ => True, fun _ => 0⟩) mixedT Tryz.func13 ?_
  rw [vc_cFar]
  exact ⟨_, h, brb (fun _ => rfl) (fun h => by simp at h)⟩
theorem eFar_no {B V R : A} {p1 q1 p2 q2 p3 q3 p4 q4 p5 q5 p6 q6 p7 q7 : Bool} {l1 m1 l2 m2 l3 m3 l4 m4 l5 m5 l6 m6 l7 m7 : List (List D)}
    (hB : B = .ag [.bool p1, .sl l1, .bool q1, .sl m1, .bool p2, .sl l2, .bool q2, .sl m2, .bool p3, .sl l3, .bool q3, .sl m3, .bool p4, .sl l4, .bool q4, .sl m4])
    (hV : V = .ag [.bool p5, .sl l5, .bool q5, .sl m5, .bool p6, .sl l6, .bool q6, .sl m6]) (hR : R = .ag [.bool p7, .sl l7, .bool q7, .sl m7])
    (h : Gives CC 32 [B] [.c (.bool false)]) : Gives CC 14 [B, V, R] [.c (.bool false)] := by
  subst hB hV hR
  refine wpF_ok (anns := fun _ => ⟨[], [], fun _ _ => True, fun _ => 0⟩) mixedT Tryz.func14 ?_
  rw [vc_eFar]
  exact ⟨_, h, brb (fun _ => rfl) (fun h => by simp at h)⟩
theorem cNear_no {B V R : A} {p1 q1 p2 q2 p3 q3 p4 q4 p5 q5 p6 q6 p7 q7 : Bool} {l1 m1 l2 m2 l3 m3 l4 m4 l5 m5 l6 m6 l7 m7 : List (List D)}
    (hB : B = .ag [.bool p1, .sl l1, .bool q1, .sl m1, .bool p2, .sl l2, .bool q2, .sl m2, .bool p3, .sl l3, .bool q3, .sl m3, .bool p4, .sl l4, .bool q4, .sl m4])
    (hV : V = .ag [.bool p5, .sl l5, .bool q5, .sl m5, .bool p6, .sl l6, .bool q6, .sl m6]) (hR : R = .ag [.bool p7, .sl l7, .bool q7, .sl m7])
    (h : Gives CC 46 [B] [.c (.bool false)]) : Gives CC 15 [B, V, R] [.c (.bool false)] := by
  subst hB hV hR
  refine wpF_ok (anns := ann2 ⟨[.slot 25 (.int .i64 0)], [], fun _ _ => False, fun _ => 0⟩ ⟨[.slot 35 (.int .i64 0)], [.slot 25 (.int .i64 0)], fun _ _ => False, fun _ => 0⟩) mixedT Tryz.func15 ?_
  rw [vc_cNear]
  exact ⟨_, h, brb (fun _ => rfl) (fun h => by simp at h)⟩
theorem eNear_no {B V R : A} {p1 q1 p2 q2 p3 q3 p4 q4 p5 q5 p6 q6 p7 q7 : Bool} {l1 m1 l2 m2 l3 m3 l4 m4 l5 m5 l6 m6 l7 m7 : List (List D)}
    (hB : B = .ag [.bool p1, .sl l1, .bool q1, .sl m1, .bool p2, .sl l2, .bool q2, .sl m2, .bool p3, .sl l3, .bool q3, .sl m3, .bool p4, .sl l4, .bool q4, .sl m4])
    (hV : V = .ag [.bool p5, .sl l5, .bool q5, .sl m5, .bool p6, .sl l6, .bool q6, .sl m6]) (hR : R = .ag [.bool p7, .sl l7, .bool q7, .sl m7])
    (h : Gives CC 32 [B] [.c (.bool false)]) : Gives CC 16 [B, V, R] [.c (.bool false)] := by
  subst hB hV hR
  refine wpF_ok (anns := fun _ => ⟨[], [], fun _ _ => True, fun _ => 0⟩) mixedT Tryz.func16 ?_
  rw [vc_eNear]
  exact ⟨_, h, brb (fun _ => rfl) (fun h => by simp at h)⟩
def farB (x0 y0 x1 y1 : Rat) (v : V2) (r : Rat) : Bool := !decide (r < 0) && decide (sqR r < frV v ⟨clR v.x x0 x1, clR v.y y0 y1⟩)
def nearB (x0 y0 x1 y1 : Rat) (v : V2) (r : Rat) : Bool := !decide (r < 0) && decide (mxR (sqR (x0 - v.x)) (sqR (x1 - v.x)) + mxR (sqR (y0 - v.y)) (sqR (y1 - v.y)) < sqR r)
theorem Sz.sq {r : Rat} (h : Sz 18 r) : Sz 36 (sqR r) := h.mul h
theorem sqR_comm (x y : Rat) : sqR (x - y) = sqR (y - x) := by unfold sqR; grind
theorem frV_sz {v w : V2} (hv : Sv 18 v) (hw : Sv 18 w) : Sz 149 (frV v w) := ((hv.1.sqd hw.1).add (hv.2.sqd hw.2)).mono (by omega)
theorem cFar_ok {x0 y0 x1 y1 : Rat} {v : V2} {r : Rat} (z1 : Sz 18 x0) (z2 : Sz 18 y0) (z3 : Sz 18 x1) (z4 : Sz 18 y1) (hv : Sv 18 v) (hr : Sz 18 r) (h : Gives CC 46 [encB x0 y0 x1 y1] [.c (.bool true)]) :
    Gives CC 13 [encB x0 y0 x1 y1, encV v, encR r] [.c (.bool (farB x0 y0 x1 y1 v r))] := by
  have hs := rSign_ok r
  have h1 := cclamped_ok (hv.1.sr (by omega)) (z1.sr (by omega)) (z3.sr (by omega))
  have h2 := cclamped_ok (hv.2.sr (by omega)) (z2.sr (by omega)) (z4.sr (by omega))
  have hw : Sv 18 ⟨clR v.x x0 x1, clR v.y y0 y1⟩ := ⟨hv.1.cl z1 z3, hv.2.cl z2 z4⟩
  have h3 := cfar_ok hv hw
  have h4 := csquare_ok (hr.sr (by omega))
  have h5 := rCmp_ok ((frV_sz hv hw).sr (by omega)) (hr.sq.sr (by omega))
  refine wpF_ok (anns := fun _ => ⟨[], [], fun _ _ => True, fun _ => 0⟩) mixedT Tryz.func13 ?_
  rw [encB_cells, encV_cells', encR_cells, vc_cFar]
  refine ⟨_, h, brb (fun h => by simp at h) (fun _ => ⟨_, hs, brd (fun h' => ?_) (fun h' => ⟨_, _, _, _, h1, _, _, _, _, h2, _, _, _, _, h3, _, _, _, _, h4, _, h5, ?_⟩)⟩)⟩
  · rw [sgn_lt] at h'; unfold farB; rw [decide_eq_true h']; rfl
  · rw [sgn_lt] at h'; unfold farB; rw [decide_eq_false h', decide_eq_decide.2 cmpR_gt]; rfl
theorem eFar_ok {x0 y0 x1 y1 : Rat} {v : V2} {r : Rat} (z1 : Sz 18 x0) (z2 : Sz 18 y0) (z3 : Sz 18 x1) (z4 : Sz 18 y1) (hv : Sv 18 v) (hr : Sz 18 r) (h : Gives CC 32 [encB x0 y0 x1 y1] [.c (.bool true)]) :
    Gives CC 14 [encB x0 y0 x1 y1, encV v, encR r] [.c (.bool (farB x0 y0 x1 y1 v r))] := by
  have hs := uSign_ok r
  have hw : Sv 18 ⟨clR v.x x0 x1, clR v.y y0 y1⟩ := ⟨hv.1.cl z1 z3, hv.2.cl z2 z4⟩
  have h1 := eclamp_ok (hv.1.sr (by omega)) (z1.sr (by omega)) (z3.sr (by omega))
  have h2 := esquare_ok hw.1 hv.1
  have h3 := eclamp_ok (hv.2.sr (by omega)) (z2.sr (by omega)) (z4.sr (by omega))
  have h4 := esquare_ok hw.2 hv.2
  have s1 := hw.1.sqd hv.1
  have s2 := hw.2.sqd hv.2
  have h5 := uAdd_ok partsOk (s1.sr (by omega)) (s2.sr (by omega))
  have h6 := uSquare_ok partsOk (hr.sr (by omega))
  have h7 := uCmp_ok ((s1.add s2).sr (by omega)) (hr.sq.sr (by omega))
  have e : sqR (clR v.x x0 x1 - v.x) + sqR (clR v.y y0 y1 - v.y) = frV v ⟨clR v.x x0 x1, clR v.y y0 y1⟩ := by
    unfold frV; rw [sqR_comm _ v.x, sqR_comm _ v.y]
  simp only at h2 h4 h5 h7
  rw [e] at h5 h7
  refine wpF_ok (anns := fun _ => ⟨[], [], fun _ _ => True, fun _ => 0⟩) mixedT Tryz.func14 ?_
  rw [encB_cells, encV_cells', encR_cells, vc_eFar]
  refine ⟨_, h, brb (fun h => by simp at h) (fun _ => ⟨_, hs, brd (fun h' => ?_) (fun h' => ⟨_, _, _, _, h1, _, _, _, _, h2, _, _, _, _, h3, _, _, _, _, h4, _, _, _, _, h5, _, _, _, _, h6, _, h7, ?_⟩)⟩)⟩
  · rw [sgn_lt] at h'; unfold farB; rw [decide_eq_true h']; rfl
  · rw [sgn_lt] at h'; unfold farB; rw [decide_eq_false h', decide_eq_decide.2 cmpR_gt]; rfl
theorem Sz.mx {k : Nat} {x y : Rat} (hx : Sz k x) (hy : Sz k y) : Sz k (mxR x y) := by
  unfold mxR; split
  · exact hy
  · exact hx
theorem eNear_ok {x0 y0 x1 y1 : Rat} {v : V2} {r : Rat} (z1 : Sz 18 x0) (z2 : Sz 18 y0) (z3 : Sz 18 x1) (z4 : Sz 18 y1) (hv : Sv 18 v) (hr : Sz 18 r) (h : Gives CC 32 [encB x0 y0 x1 y1] [.c (.bool true)]) :
    Gives CC 16 [encB x0 y0 x1 y1, encV v, encR r] [.c (.bool (nearB x0 y0 x1 y1 v r))] := by
  have hs := uSign_ok r
  have s1 := z1.sqd hv.1
  have s2 := z3.sqd hv.1
  have s3 := z2.sqd hv.2
  have s4 := z4.sqd hv.2
  have h1 := esquare_ok z1 hv.1
  have h2 := esquare_ok z3 hv.1
  have h3 := uMax_ok (s1.sr (by omega)) (s2.sr (by omega))
  have h4 := esquare_ok z2 hv.2
  have h5 := esquare_ok z4 hv.2
  have h6 := uMax_ok (s3.sr (by omega)) (s4.sr (by omega))
  have h7 := uAdd_ok partsOk ((s1.mx s2).sr (by omega)) ((s3.mx s4).sr (by omega))
  have h8 := uSquare_ok partsOk (hr.sr (by omega))
  have h9 := uCmp_ok (((s1.mx s2).add (s3.mx s4)).sr (by omega)) (hr.sq.sr (by omega))
  refine wpF_ok (anns := fun _ => ⟨[], [], fun _ _ => True, fun _ => 0⟩) mixedT Tryz.func16 ?_
  rw [encB_cells, encV_cells', encR_cells, vc_eNear]
  refine ⟨_, h, brb (fun h => by simp at h) (fun _ => ⟨_, hs, brd (fun h' => ?_) (fun h' => ⟨_, _, _, _, h1, _, _, _, _, h2, _, _, _, _, h3, _, _, _, _, h4, _, _, _, _, h5, _, _, _, _, h6, _, _, _, _, h7, _, _, _, _, h8, _, h9, ?_⟩)⟩)⟩
  · rw [sgn_lt] at h'; unfold nearB; rw [decide_eq_true h']; rfl
  · rw [sgn_lt] at h'; unfold nearB; rw [decide_eq_false h', decide_eq_decide.2 cmpR_lt]; rfl
end Eng
end

section
namespace Eng
open Go Go.Proofs
set_option maxRecDepth 100000
def cx (a b : Rat) (i : Nat) : Rat := if i = 0 then a else b
theorem cx_sz {k : Nat} {a b : Rat} (ha : Sz k a) (hb : Sz k b) (i : Nat) : Sz k (cx a b i) := by
  unfold cx; split
  · exact ha
  · exact hb
theorem cut_cx {a b : Rat} {i : Nat} (hi : i < 2) : cut (nth [] [[.bool (decide (a.num < 0)), .sl (raw (lim a.num.natAbs)), .bool (decide ((a.den : Int) < 0)), .sl (raw (lim (a.den : Int).natAbs))],
    [.bool (decide (b.num < 0)), .sl (raw (lim b.num.natAbs)), .bool (decide ((b.den : Int) < 0)), .sl (raw (lim (b.den : Int).natAbs))]] i) 0 4
    [.bool (decide ((cx a b i).num < 0)), .sl (raw (lim (cx a b i).num.natAbs)), .bool (decide (((cx a b i).den : Int) < 0)), .sl (raw (lim ((cx a b i).den : Int).natAbs))] := by
  have : i = 0 ∨ i = 1 := by omega
  rcases this with rfl | rfl
  · exact ⟨rfl, by simp [nth]⟩
  · exact ⟨rfl, by simp [nth]⟩
theorem near_all {x0 y0 x1 y1 : Rat} {v : V2} {r : Rat} (h : ¬ r < 0) : nearB x0 y0 x1 y1 v r = true ↔ ∀ i, i < 2 → ∀ j, j < 2 → frV v ⟨cx x0 x1 i, cx y0 y1 j⟩ < sqR r := by
  unfold nearB
  rw [decide_eq_false h, Bool.not_false, Bool.true_and, decide_eq_true_eq]
  have e : ∀ i j, frV v ⟨cx x0 x1 i, cx y0 y1 j⟩ = sqR (cx x0 x1 i - v.x) + sqR (cx y0 y1 j - v.y) := fun i j => by
    unfold frV; rw [sqR_comm v.x, sqR_comm v.y]
  have k : (∀ i, i < 2 → ∀ j, j < 2 → frV v ⟨cx x0 x1 i, cx y0 y1 j⟩ < sqR r) ↔
      (sqR (x0 - v.x) + sqR (y0 - v.y) < sqR r ∧ sqR (x0 - v.x) + sqR (y1 - v.y) < sqR r) ∧ (sqR (x1 - v.x) + sqR (y0 - v.y) < sqR r ∧ sqR (x1 - v.x) + sqR (y1 - v.y) < sqR r) := by
    constructor
    · intro h
      have a := h 0 (by omega) 0 (by omega)
      have b := h 0 (by omega) 1 (by omega)
      have c := h 1 (by omega) 0 (by omega)
      have d := h 1 (by omega) 1 (by omega)
      rw [e] at a b c d
      exact ⟨⟨a, b⟩, c, d⟩
    · rintro ⟨⟨a, b⟩, c, d⟩ i hi j hj
      rw [e]
      have hi : i = 0 ∨ i = 1 := by omega
      have hj : j = 0 ∨ j = 1 := by omega
      rcases hi with rfl | rfl <;> rcases hj with rfl | rfl <;> assumption
  rw [k]
  generalize sqR (x0 - v.x) = a
  generalize sqR (x1 - v.x) = b
  generalize sqR (y0 - v.y) = c
  generalize sqR (y1 - v.y) = d
  generalize sqR r = s
  unfold mxR
  split <;> split <;> grind
theorem cNear_ok {x0 y0 x1 y1 : Rat} {v : V2} {r : Rat} (z1 : Sz 18 x0) (z2 : Sz 18 y0) (z3 : Sz 18 x1) (z4 : Sz 18 y1) (hv : Sv 18 v) (hr : Sz 18 r) (h : Gives CC 46 [encB x0 y0 x1 y1] [.c (.bool true)]) :
    Gives CC 15 [encB x0 y0 x1 y1, encV v, encR r] [.c (.bool (nearB x0 y0 x1 y1 v r))] := by
  have hs := rSign_ok r
  have h4 := csquare_ok (hr.sr (by omega))
  have hw : ∀ i j, Sv 18 ⟨cx x0 x1 i, cx y0 y1 j⟩ := fun i j => ⟨cx_sz z1 z3 i, cx_sz z2 z4 j⟩
  have h3 := fun i j => cfar_ok hv (hw i j)
  have h5 := fun i j => rCmp_ok ((frV_sz hv (hw i j)).sr (by omega)) (hr.sq.sr (by omega))
  refine wpF_ok (anns := ann2
    ⟨[.slot 25 (.int .i64 0)], [], fun _ ds => ∃ i : Nat, i ≤ 2 ∧ ds = [.int .i64 (i : Int)] ∧ ∀ i', i' < i → ∀ j, j < 2 → frV v ⟨cx x0 x1 i', cx y0 y1 j⟩ < sqR r, fun ds => (2 - toI (nth .undef ds 0)).toNat⟩
    ⟨[.slot 35 (.int .i64 0)], [.slot 25 (.int .i64 0)], fun gs ds => ∃ i j : Nat, j ≤ 2 ∧ gs = [.int .i64 (i : Int)] ∧ ds = [.int .i64 (j : Int)] ∧ ∀ j', j' < j → frV v ⟨cx x0 x1 i, cx y0 y1 j'⟩ < sqR r, fun ds => (2 - toI (nth .undef ds 0)).toNat⟩) mixedT Tryz.func15 ?_
  rw [encB_cells, encV_cells', encR_cells, vc_cNear]
  refine ⟨_, h, brb (fun h => by simp at h) (fun _ => ⟨_, hs, brd (fun h' => ?_) (fun h' => ⟨⟨0, by omega, rfl, by omega⟩, ?_⟩)⟩)⟩
  · rw [sgn_lt] at h'; unfold nearB; rw [decide_eq_true h']; rfl
  rw [sgn_lt] at h'
  rintro n ⟨i, hi, he, hT⟩
  simp only [List.cons.injEq, D.int.injEq, true_and, and_true] at he
  subst he
  refine brd (fun h1 => ?_) (fun h1 => ?_)
  · have hi2 : i < 2 := by omega
    have hwi : IntKind.wrap .i64 ((i : Int) + 1) = ((i + 1 : Nat) : Int) := by rw [i64w (by omega) (by omega)]; omega
    rw [hwi, Int.toNat_natCast]
    refine ⟨⟨by omega, by omega⟩, _, _, _, _, cut_cx hi2, ⟨i, 0, by omega, rfl, rfl, by omega⟩, ?_⟩
    rintro n1 ⟨i', j, hj, hg, he, hT2⟩
    simp only [List.cons.injEq, D.int.injEq, true_and, and_true] at hg he
    have hii : i' = i := by omega
    subst hii he
    refine brd (fun h2 => ?_) (fun h2 => ?_)
    · have hj2 : j < 2 := by omega
      have hwj : IntKind.wrap .i64 ((j : Int) + 1) = ((j + 1 : Nat) : Int) := by rw [i64w (by omega) (by omega)]; omega
      rw [hwj, Int.toNat_natCast]
      have k3 := h3 i' j
      have k5 := h5 i' j
      rw [encV_cells', encV_cells', encR_cells] at k3
      rw [encR_cells, encR_cells] at k5
      refine ⟨⟨by omega, by omega⟩, _, _, _, _, cut_cx hj2, _, _, _, _, k3, _, _, _, _, h4, _, k5, brd (fun h6 => ?_) (fun h6 => ⟨⟨i', j + 1, by omega, rfl, rfl, fun j' hj' => ?_⟩, by simp only [nth, toI]; omega⟩)⟩
      · have : nearB x0 y0 x1 y1 v r = false := by
          rw [← Bool.not_eq_true, near_all h']
          intro hall
          have := hall i' hi2 j hj2
          rw [← cmpR_lt] at this
          omega
        rw [this]
      · rcases Nat.lt_or_ge j' j with h7 | h7
        · exact hT2 j' h7
        · have : j' = j := by omega
          subst this
          rw [← cmpR_lt]; omega
    · have hj2 : j = 2 := by omega
      subst hj2
      refine ⟨⟨i' + 1, by omega, rfl, fun i'' hi'' => ?_⟩, by simp only [nth, toI]; omega⟩
      rcases Nat.lt_or_ge i'' i' with h7 | h7
      · exact hT i'' h7
      · have : i'' = i' := by omega
        subst this
        exact hT2
  · have hi2 : i = 2 := by omega
    subst hi2
    rw [(near_all h').2 hT]
theorem lDistances_ok (haw : Gives CC 9 [] [.c (.bool true)]) (a b c d x y r : Rw) : Gives CC 3 [boxA a b c d, vecA x y, .ag r.cs] [.c (.bool true)] := by
  have hS := cSmall_ok a b c d 2
  have hV := csmallVec_ok x y
  have hR := uSmall_ok r
  have key : (fewN a 2 && (fewN b 2 && (fewN c 2 && fewN d 2))) = true → ((fewN x 2 && x.ok) && (fewN y 2 && y.ok)) = true → (fewN r 2 && r.ok) = true →
      ∃ f n : Bool, Gives CC 13 [boxA a b c d, vecA x y, .ag r.cs] [.c (.bool f)] ∧ Gives CC 14 [boxA a b c d, vecA x y, .ag r.cs] [.c (.bool f)] ∧
        Gives CC 15 [boxA a b c d, vecA x y, .ag r.cs] [.c (.bool n)] ∧ Gives CC 16 [boxA a b c d, vecA x y, .ag r.cs] [.c (.bool n)] := by
    intro k1 k2 k3
    simp only [Bool.and_eq_true] at k1 k2 k3
    obtain ⟨fa, fb, fc, fd⟩ := k1
    rw [few_iff] at fa fb fc fd
    have g1 := cvalidBox_ok fa fb fc fd
    have g2 := eValid_ok fa fb fc fd
    cases ho : okB a b c d with
    | false =>
      rw [ho] at g1 g2
      exact ⟨false, false, cFar_no rfl rfl rfl g1, eFar_no rfl rfl rfl g2, cNear_no rfl rfl rfl g1, eNear_no rfl rfl rfl g2⟩
    | true =>
      rw [ho] at g1 g2
      simp only [okB, Bool.and_eq_true] at ho
      obtain ⟨oa, ob, oc, od, _⟩ := ho
      obtain ⟨⟨f1, o1⟩, f2, o2⟩ := k2
      obtain ⟨f3, o3⟩ := k3
      rw [few_iff] at f1 f2 f3
      obtain ⟨ea, za⟩ := Rw.val_ok oa fa
      obtain ⟨eb, zb⟩ := Rw.val_ok ob fb
      obtain ⟨ec, zc⟩ := Rw.val_ok oc fc
      obtain ⟨ed, zd⟩ := Rw.val_ok od fd
      obtain ⟨ex, zx⟩ := Rw.val_ok o1 f1
      obtain ⟨ey, zy⟩ := Rw.val_ok o2 f2
      obtain ⟨er, zr⟩ := Rw.val_ok o3 f3
      have e1 : boxA a b c d = encB a.val b.val c.val d.val := by unfold boxA; rw [ea, eb, ec, ed]; rfl
      have e2 : vecA x y = encV ⟨x.val, y.val⟩ := by unfold vecA; rw [ex, ey]; rfl
      have e3 : A.ag r.cs = encR r.val := by rw [er]; rfl
      rw [e1] at g1 g2 ⊢
      rw [e2, e3]
      exact ⟨_, _, cFar_ok za zb zc zd ⟨zx, zy⟩ zr g1, eFar_ok za zb zc zd ⟨zx, zy⟩ zr g2, cNear_ok za zb zc zd ⟨zx, zy⟩ zr g1, eNear_ok za zb zc zd ⟨zx, zy⟩ zr g2⟩
  refine wpF_ok (anns := fun _ => ⟨[], [], fun _ _ => True, fun _ => 0⟩) mixedT Tryz.func3 ?_
  have e : boxA a b c d = .ag [.bool a.p, .sl (raw a.l), .bool a.q, .sl (raw a.m), .bool b.p, .sl (raw b.l), .bool b.q, .sl (raw b.m), .bool c.p, .sl (raw c.l), .bool c.q, .sl (raw c.m), .bool d.p, .sl (raw d.l), .bool d.q, .sl (raw d.m)] := rfl
  have e' : vecA x y = .ag [.bool x.p, .sl (raw x.l), .bool x.q, .sl (raw x.m), .bool y.p, .sl (raw y.l), .bool y.q, .sl (raw y.m)] := rfl
  have e'' : A.ag r.cs = .ag [.bool r.p, .sl (raw r.l), .bool r.q, .sl (raw r.m)] := rfl
  rw [e] at hS key ⊢
  rw [e'] at hV key ⊢
  rw [e''] at hR key ⊢
  rw [vc_lDistances]
  refine ⟨_, haw, brb (fun h => by simp at h) (fun _ => ⟨_, hS, brb (fun _ => ⟨_, haw, rfl⟩) (fun h1 => ⟨_, hV, brb (fun _ => ⟨_, haw, rfl⟩) (fun h2 => ⟨_, hR, brb (fun _ => ⟨_, haw, rfl⟩) (fun h3 => ?_)⟩)⟩)⟩)⟩
  obtain ⟨f, n, w1, w2, w3, w4⟩ := key (by simpa using h1) (by simpa using h2) (by simpa using h3)
  refine ⟨_, w1, _, w2, brb (fun _ => ⟨_, w3, _, w4, ?_⟩) (fun h => by simp at h)⟩
  simp
end Eng
end
