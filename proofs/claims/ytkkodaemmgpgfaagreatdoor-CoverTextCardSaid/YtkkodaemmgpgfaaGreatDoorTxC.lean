/- The verification conditions of functions, printed by a program (vcgen.py) and checked by the kernel. -/
import Derived.Test.YtkkodaemmgpgfaaGreatDoorInsA
import Derived.Test.YtkkodaemmgpgfaaGreatDoorCvX
import Derived.Test.YtkkodaemmgpgfaaGreatDoorCtxB
import Derived.Test.YtkkodaemmgpgfaaGreatDoorTxB
import Derived.KernelRfl
section
open Go Go.Proofs Eng
set_option maxRecDepth 1000000
namespace Eng
theorem vc_cFmt (Gv : Nat → List A → List A → Prop) (I0 : List D → List D → Prop) (M0 : List D → Nat) (I1 : List D → List D → Prop) (M1 : List D → Nat) (ck : Ck1) (mk : Mk1) (es : List (List D)) (Q : List A → Prop) :
 wpF (CX [(87, effI), (26, effCl ck 25 mk)]) Gv (ann2 ⟨[.slot 12 (.int .i64 0), .bld 3 115 70], [], I0, M0⟩ ⟨[.slot 43 (.int .i64 0), .own 7 16 1], [.slot 12 (.int .i64 0), .bld 3 115 70], I1, M1⟩) Tryz.f35 [.c (.sl es)] Q = (
 I0 [] [D.int .i64 (0 : Int), D.sl []] ∧
 ∀ (n : Int) (es_1 : List (List D)),
 I0 [] [D.int .i64 n, D.sl es_1] →
 br (toB (D.bool (decide (n < (Int.ofNat (List.length es))))))
 (((0 : Int) ≤ n ∧ n < (Int.ofNat (List.length es)) ∧ List.length (nth [] es (Int.toNat n)) = 25) ∧
 ∃ b es_2 b_1 es_3 b_2 es_4 b_3 es_5 b_4 es_6 b_5 es_7 b_6 es_8 b_7 es_9 b_8 b_9 es_10 b_10 es_11 b_11 es_12 b_12 es_13,
 cut (nth [] es (Int.toNat n)) 0 25
 [D.bool b, D.sl es_2, D.bool b_1, D.sl es_3, D.bool b_2, D.sl es_4, D.bool b_3, D.sl es_5, D.bool b_4, D.sl es_6, D.bool b_5, D.sl es_7,
 D.bool b_6, D.sl es_8, D.bool b_7, D.sl es_9, D.bool b_8, D.bool b_9, D.sl es_10, D.bool b_10, D.sl es_11, D.bool b_11, D.sl es_12,
 D.bool b_12, D.sl es_13] ∧
 br (toB (D.bool !b_8))
 ((room 6 ∧ lens 4 [[D.bool b_9, D.sl es_10, D.bool b_10, D.sl es_11], [D.bool b_11, D.sl es_12, D.bool b_12, D.sl es_13]]) ∧
 I1 [D.int .i64 n, D.sl es_1] [D.int .i64 (0 : Int), D.sl []] ∧
 ∀ (n_1 : Int) (es : List (List D)),
 I1 [D.int .i64 n, D.sl es_1] [D.int .i64 n_1, D.sl es] →
 br (toB (D.bool (decide (n_1 < (6 : Int)))))
 (((0 : Int) ≤ n_1 ∧ n_1 < (6 : Int)) ∧
 ∃ b_13 es_14 b_14 es_15,
 cut
 (nth []
 [[D.bool b, D.sl es_2, D.bool b_1, D.sl es_3], [D.bool b_2, D.sl es_4, D.bool b_3, D.sl es_5],
 [D.bool b_4, D.sl es_6, D.bool b_5, D.sl es_7], [D.bool b_6, D.sl es_8, D.bool b_7, D.sl es_9],
 [D.bool b_9, D.sl es_10, D.bool b_10, D.sl es_11], [D.bool b_11, D.sl es_12, D.bool b_12, D.sl es_13]]
 (Int.toNat n_1))
 0 4 [D.bool b_13, D.sl es_14, D.bool b_14, D.sl es_15] ∧
 ∃ b,
 Gv 85 [A.ag [D.bool b_13, D.sl es_14, D.bool b_14, D.sl es_15]] [A.c (D.bool b)] ∧
 br (toB (D.bool !b)) (Q [A.c (D.str [])])
 (∃ s,
 Gv 86 [A.ag [D.bool b_13, D.sl es_14, D.bool b_14, D.sl es_15]] [A.c (D.str s)] ∧
 (room (List.length es + 1) ∧ lens 1 [[D.str s]]) ∧
 I1 [D.int .i64 n, D.sl es_1]
 [D.int .i64 (IntKind.wrap .i64 (n_1 + (1 : Int))), D.sl (es ++ [[D.str s]])] ∧
 M1 [D.int .i64 (IntKind.wrap .i64 (n_1 + (1 : Int))), D.sl (es ++ [[D.str s]])] <
 M1 [D.int .i64 n_1, D.sl es]))
 (br b_8
 ((room (List.length es + 1) ∧ lens 1 [[D.str [(102 : UInt8), (97 : UInt8), (114 : UInt8)]]]) ∧
 ∃ s,
 Gv 89 [A.c (D.sl (es ++ [[D.str [(102 : UInt8), (97 : UInt8), (114 : UInt8)]]])), A.c (D.str [(32 : UInt8)])]
 [A.c (D.str s)] ∧
 room (List.length s + 1) ∧
 room (List.length es_1 + List.length (rowsOf (s ++ [(10 : UInt8)]))) ∧
 I0 [] [D.int .i64 (IntKind.wrap .i64 (n + (1 : Int))), D.sl (es_1 ++ rowsOf (s ++ [(10 : UInt8)]))] ∧
 M0 [D.int .i64 (IntKind.wrap .i64 (n + (1 : Int))), D.sl (es_1 ++ rowsOf (s ++ [(10 : UInt8)]))] <
 M0 [D.int .i64 n, D.sl es_1])
 (insChk es (4 : Int) [[D.str [(107 : UInt8), (101 : UInt8), (101 : UInt8), (112 : UInt8)]]] = true ∧
 ∃ s,
 Gv 89
 [A.c (D.sl (insMk es (4 : Int) [[D.str [(107 : UInt8), (101 : UInt8), (101 : UInt8), (112 : UInt8)]]])),
 A.c (D.str [(32 : UInt8)])]
 [A.c (D.str s)] ∧
 room (List.length s + 1) ∧
 room (List.length es_1 + List.length (rowsOf (s ++ [(10 : UInt8)]))) ∧
 I0 [] [D.int .i64 (IntKind.wrap .i64 (n + (1 : Int))), D.sl (es_1 ++ rowsOf (s ++ [(10 : UInt8)]))] ∧
 M0 [D.int .i64 (IntKind.wrap .i64 (n + (1 : Int))), D.sl (es_1 ++ rowsOf (s ++ [(10 : UInt8)]))] <
 M0 [D.int .i64 n, D.sl es_1])))
 (I1 [D.int .i64 n, D.sl es_1] [D.int .i64 (0 : Int), D.sl []] ∧
 ∀ (n_1 : Int) (es : List (List D)),
 I1 [D.int .i64 n, D.sl es_1] [D.int .i64 n_1, D.sl es] →
 br (toB (D.bool (decide (n_1 < (4 : Int)))))
 (((0 : Int) ≤ n_1 ∧ n_1 < (4 : Int)) ∧
 ∃ b_13 es_14 b_14 es_15,
 cut
 (nth []
 [[D.bool b, D.sl es_2, D.bool b_1, D.sl es_3], [D.bool b_2, D.sl es_4, D.bool b_3, D.sl es_5],
 [D.bool b_4, D.sl es_6, D.bool b_5, D.sl es_7], [D.bool b_6, D.sl es_8, D.bool b_7, D.sl es_9]]
 (Int.toNat n_1))
 0 4 [D.bool b_13, D.sl es_14, D.bool b_14, D.sl es_15] ∧
 ∃ b,
 Gv 85 [A.ag [D.bool b_13, D.sl es_14, D.bool b_14, D.sl es_15]] [A.c (D.bool b)] ∧
 br (toB (D.bool !b)) (Q [A.c (D.str [])])
 (∃ s,
 Gv 86 [A.ag [D.bool b_13, D.sl es_14, D.bool b_14, D.sl es_15]] [A.c (D.str s)] ∧
 (room (List.length es + 1) ∧ lens 1 [[D.str s]]) ∧
 I1 [D.int .i64 n, D.sl es_1]
 [D.int .i64 (IntKind.wrap .i64 (n_1 + (1 : Int))), D.sl (es ++ [[D.str s]])] ∧
 M1 [D.int .i64 (IntKind.wrap .i64 (n_1 + (1 : Int))), D.sl (es ++ [[D.str s]])] <
 M1 [D.int .i64 n_1, D.sl es]))
 (br b_8
 ((room (List.length es + 1) ∧ lens 1 [[D.str [(102 : UInt8), (97 : UInt8), (114 : UInt8)]]]) ∧
 ∃ s,
 Gv 89 [A.c (D.sl (es ++ [[D.str [(102 : UInt8), (97 : UInt8), (114 : UInt8)]]])), A.c (D.str [(32 : UInt8)])]
 [A.c (D.str s)] ∧
 room (List.length s + 1) ∧
 room (List.length es_1 + List.length (rowsOf (s ++ [(10 : UInt8)]))) ∧
 I0 [] [D.int .i64 (IntKind.wrap .i64 (n + (1 : Int))), D.sl (es_1 ++ rowsOf (s ++ [(10 : UInt8)]))] ∧
 M0 [D.int .i64 (IntKind.wrap .i64 (n + (1 : Int))), D.sl (es_1 ++ rowsOf (s ++ [(10 : UInt8)]))] <
 M0 [D.int .i64 n, D.sl es_1])
 (insChk es (4 : Int) [[D.str [(107 : UInt8), (101 : UInt8), (101 : UInt8), (112 : UInt8)]]] = true ∧
 ∃ s,
 Gv 89
 [A.c (D.sl (insMk es (4 : Int) [[D.str [(107 : UInt8), (101 : UInt8), (101 : UInt8), (112 : UInt8)]]])),
 A.c (D.str [(32 : UInt8)])]
 [A.c (D.str s)] ∧
 room (List.length s + 1) ∧
 room (List.length es_1 + List.length (rowsOf (s ++ [(10 : UInt8)]))) ∧
 I0 [] [D.int .i64 (IntKind.wrap .i64 (n + (1 : Int))), D.sl (es_1 ++ rowsOf (s ++ [(10 : UInt8)]))] ∧
 M0 [D.int .i64 (IntKind.wrap .i64 (n + (1 : Int))), D.sl (es_1 ++ rowsOf (s ++ [(10 : UInt8)]))] <
 M0 [D.int .i64 n, D.sl es_1]))))
 ((es_1 ≠ [] ∧ bytesOk es_1 = true) ∧ Q [A.c (D.str (toBytes es_1))])) := by kernel_rfl
theorem vc_lText (Gv : Nat → List A → List A → Prop) (ck : Ck1) (mk : Mk1) (es : List (List D)) (Q : List A → Prop) :
 wpF (CX [(87, effI), (26, effCl ck 25 mk)]) Gv (fun _ => ⟨[], [], fun _ _ => True, fun _ => 0⟩) Tryz.f7 [.c (.sl es)] Q = (
 ∃ b,
 Gv 9 [] [A.c (D.bool b)] ∧
 br (toB (D.bool !b)) (∃ b, Gv 9 [] [A.c (D.bool b)] ∧ Q [A.c (D.bool b)])
 (∃ b,
 Gv 34 [A.c (D.sl es), A.c (D.int .i64 (20 : Int))] [A.c (D.bool b)] ∧
 br (toB (D.bool !b)) (∃ b, Gv 9 [] [A.c (D.bool b)] ∧ Q [A.c (D.bool b)])
 (ck [A.c (D.sl es)] = true ∧
 ∃ s,
 Gv 35 [A.c (D.sl (mk [A.c (D.sl es)]))] [A.c (D.str s)] ∧
 ∃ s_1,
 Gv 36 [A.c (D.sl es)] [A.c (D.str s_1)] ∧
 br (toB (D.bool !s == s_1)) (Q [A.c (D.bool false)])
 (br (toB (D.bool (s == []))) (Q [A.c (D.bool true)])
 (∃ es_1 n n_1,
 Gv 37 [A.c (D.str s)] [A.c (D.sl es_1), A.c (D.int .i64 n), A.c (D.int .i64 n_1)] ∧
 br (toB (D.bool (n_1 == (0 : Int))))
 (br (toB (D.bool (n == (0 : Int)))) (∃ b, Gv 38 [A.c (D.sl es_1), A.c (D.sl es)] [A.c (D.bool b)] ∧ Q [A.c (D.bool b)])
 (Q [A.c (D.bool false)]))
 (Q [A.c (D.bool false)])))))) := by kernel_rfl
end Eng
end

section
open Go Go.Proofs Eng
set_option maxRecDepth 1000000
namespace Eng
theorem vc_tSameR (Gv : Nat → List A → List A → Prop) (p1 q1 p2 q2 : Bool) (l1 m1 l2 m2 : List (List D)) (Q : List A → Prop) :
 wpF CC Gv (fun _ => ⟨[], [], fun _ _ => True, fun _ => 0⟩) Tryz.f83 [.ag [.bool p1, .sl l1, .bool q1, .sl m1], .ag [.bool p2, .sl l2, .bool q2, .sl m2]] Q = (
 ∃ b,
 Gv 101 [A.ag [D.bool p1, D.sl l1], A.ag [D.bool p2, D.sl l2]] [A.c (D.bool b)] ∧
 br b (∃ b, Gv 101 [A.ag [D.bool q1, D.sl m1], A.ag [D.bool q2, D.sl m2]] [A.c (D.bool b)] ∧ Q [A.c (D.bool b)]) (Q [A.c (D.bool false)])) := by kernel_rfl
theorem vc_tSameB (Gv : Nat → List A → List A → Prop) (p1 q1 p2 q2 p3 q3 p4 q4 p5 q5 p6 q6 p7 q7 p8 q8 : Bool) (l1 m1 l2 m2 l3 m3 l4 m4 l5 m5 l6 m6 l7 m7 l8 m8 : List (List D)) (Q : List A → Prop) :
 wpF CC Gv (fun _ => ⟨[], [], fun _ _ => True, fun _ => 0⟩) Tryz.f31 [.ag [.bool p1, .sl l1, .bool q1, .sl m1, .bool p2, .sl l2, .bool q2, .sl m2, .bool p3, .sl l3, .bool q3, .sl m3, .bool p4, .sl l4, .bool q4, .sl m4], .ag [.bool p5, .sl l5, .bool q5, .sl m5, .bool p6, .sl l6, .bool q6, .sl m6, .bool p7, .sl l7, .bool q7, .sl m7, .bool p8, .sl l8, .bool q8, .sl m8]] Q = (
 ∃ b,
 Gv 83 [A.ag [D.bool p1, D.sl l1, D.bool q1, D.sl m1], A.ag [D.bool p5, D.sl l5, D.bool q5, D.sl m5]] [A.c (D.bool b)] ∧
 br b
 (∃ b,
 Gv 83 [A.ag [D.bool p2, D.sl l2, D.bool q2, D.sl m2], A.ag [D.bool p6, D.sl l6, D.bool q6, D.sl m6]] [A.c (D.bool b)] ∧
 br b
 (∃ b,
 Gv 83 [A.ag [D.bool p3, D.sl l3, D.bool q3, D.sl m3], A.ag [D.bool p7, D.sl l7, D.bool q7, D.sl m7]] [A.c (D.bool b)] ∧
 br b
 (∃ b,
 Gv 83 [A.ag [D.bool p4, D.sl l4, D.bool q4, D.sl m4], A.ag [D.bool p8, D.sl l8, D.bool q8, D.sl m8]] [A.c (D.bool b)] ∧
 Q [A.c (D.bool b)])
 (Q [A.c (D.bool false)]))
 (Q [A.c (D.bool false)]))
 (Q [A.c (D.bool false)])) := by kernel_rfl
end Eng
end

section
namespace Eng
open Go Go.Proofs
set_option maxRecDepth 100000
theorem joinC_eq (c : UInt8) : ∀ l, Lib.join l [c] = joinC c l
 | [] => rfl
 | [w] => Lib.join_one w [c]
 | w :: v :: r => by
  have ih := joinC_eq c (v :: r)
  rw [joinC, ← ih, Lib.join_cons, Lib.join_cons]
  simp [Lib.joinTail]
def rcs (l : List Rc) : List (List D) := l.map Rc.cs
theorem rcs_length (l : List Rc) : (rcs l).length = l.length := by simp [rcs]
theorem nth_rcs {l : List Rc} {k : Nat} (h : k < l.length) : nth [] (rcs l) k = l[k].cs := by
 rw [nth_of_lt _ (by rw [rcs_length]; exact h)]; simp [rcs]
def Rc.mid (x : Rc) : Prop := x.b.mid ∧ x.u.mid ∧ x.v.mid
def Rc.nums (x : Rc) : List Rw := match x.far with
 | true => [x.b.a, x.b.b, x.b.c, x.b.d]
 | false => [x.b.a, x.b.b, x.b.c, x.b.d, x.u, x.v]
def Rc.ok (x : Rc) : Bool := x.nums.all Rw.ok
def Rc.ce (x : Rc) : Ce := ⟨⟨x.b.a.val, x.b.b.val, x.b.c.val, x.b.d.val⟩, match x.far with | true => none | false => some ⟨x.u.val, x.v.val⟩⟩
def fmtT (l : List Rc) : List UInt8 := match l.all Rc.ok with
 | true => textX (l.map Rc.ce)
 | false => []
theorem nums_mid {x : Rc} (h : x.mid) : ∀ w ∈ x.nums, w.mid := fun w hw => by
 obtain ⟨⟨a, b, c, d⟩, far, u, v⟩ := x
 obtain ⟨⟨h1, h2, h3, h4⟩, h5, h6⟩ := h
 cases far
 ·have hw : w ∈ [a, b, c, d, u, v] := hw
  simp only [List.mem_cons, List.not_mem_nil, or_false] at hw
  rcases hw with rfl | rfl | rfl | rfl | rfl | rfl <;> assumption
 ·have hw : w ∈ [a, b, c, d] := hw
  simp only [List.mem_cons, List.not_mem_nil, or_false] at hw
  rcases hw with rfl | rfl | rfl | rfl <;> assumption
theorem Sr.sm {q : Rat} (h : Sr q) : Sm q.num ∧ Sm (q.den : Int) := ⟨h.1.sm, h.2.sm⟩
theorem ratX_len {q : Rat} (h : Sr q) : (ratX q).length ≤ 18004 := by
 have h1 := sm_len h.sm.1
 have h2 := sm_len h.sm.2
 have hd := q.den_pos
 rw [decZt_pos (by omega), Int.natAbs_natCast] at h2
 unfold ratX
 split
 ·omega
 ·rw [List.length_append, List.length_cons]; omega
theorem mid_txt {x : Rw} (h : x.ok = true) (hm : x.mid) : Gives CC 86 [.ag x.cs] [.c (.str (ratX x.val))] ∧ (ratX x.val).length ≤ 18004 := by
 obtain ⟨e, hs⟩ := x.val_mid h hm
 have := rFmt_ok hs.sm.1 hs.sm.2
 rw [e]
 exact ⟨this, ratX_len hs⟩
theorem joinC_len (c : UInt8) : ∀ {l : List (List UInt8)} {n : Nat}, (∀ w ∈ l, w.length ≤ n) → (joinC c l).length ≤ l.length * (n + 1)
 | [], n, _ => by simp [joinC]
 | [w], n, h => by
  have := h w (by simp)
  simp only [joinC, List.length_cons, List.length_nil]; omega
 | w :: v :: r, n, h => by
  have h1 := h w (by simp)
  have h2 := joinC_len c (l := v :: r) (n := n) fun u hu => h u (by simp [hu])
  rw [joinC, List.length_append, List.length_cons, List.length_cons (a := w), Nat.add_mul]
  omega
theorem cellW_len {c : Ce} {n : Nat} (hn : 4 ≤ n) (hb : (ratX c.b.x0).length ≤ n ∧ (ratX c.b.y0).length ≤ n ∧ (ratX c.b.x1).length ≤ n ∧ (ratX c.b.y1).length ≤ n) (hk : ∀ v, c.k = some v → (ratX v.x).length ≤ n ∧ (ratX v.y).length ≤ n) :
 (∀ w ∈ cellW c, w.length ≤ n) ∧ (cellW c).length ≤ 7 := by
 obtain ⟨b, k⟩ := c
 cases k with
 | none =>
  refine ⟨fun w hw => ?_, by simp [cellW]⟩
  simp only [cellW, List.mem_append, List.mem_cons, List.not_mem_nil, or_false] at hw
  rcases hw with (rfl | rfl | rfl | rfl) | rfl
  ·exact hb.1
  ·exact hb.2.1
  ·exact hb.2.2.1
  ·exact hb.2.2.2
  ·simp [farB3]; omega
 | some v =>
  have hv := hk v rfl
  refine ⟨fun w hw => ?_, by simp [cellW]⟩
  simp only [cellW, List.mem_append, List.mem_cons, List.not_mem_nil, or_false] at hw
  rcases hw with (rfl | rfl | rfl | rfl) | rfl | rfl | rfl
  ·exact hb.1
  ·exact hb.2.1
  ·exact hb.2.2.1
  ·exact hb.2.2.2
  ·simp [keepB4]; omega
  ·exact hv.1
  ·exact hv.2
theorem cellX_len {x : Rc} (h : x.ok = true) (hm : x.mid) : (cellX x.ce).length ≤ 126035 := by
 have h1 : ∀ w ∈ x.nums, (ratX w.val).length ≤ 18004 := fun w hw => (mid_txt (List.all_eq_true.1 h w hw) (nums_mid hm w hw)).2
 have h2 : (∀ w ∈ cellW x.ce, w.length ≤ 18004) ∧ (cellW x.ce).length ≤ 7 := by
  obtain ⟨⟨a, b, c, d⟩, far, u, v⟩ := x
  cases far
  ·exact cellW_len (by omega) ⟨h1 a (by simp [Rc.nums]), h1 b (by simp [Rc.nums]), h1 c (by simp [Rc.nums]), h1 d (by simp [Rc.nums])⟩ (fun w hw => by
    obtain rfl := Option.some.inj hw
    exact ⟨h1 u (by simp [Rc.nums]), h1 v (by simp [Rc.nums])⟩)
  ·exact cellW_len (by omega) ⟨h1 a (by simp [Rc.nums]), h1 b (by simp [Rc.nums]), h1 c (by simp [Rc.nums]), h1 d (by simp [Rc.nums])⟩ (fun w hw => by simp [Rc.ce] at hw)
 have h3 := joinC_len 32 h2.1
 have h4 : (cellW x.ce).length * (18004 + 1) ≤ 7 * (18004 + 1) := Nat.mul_le_mul_right _ h2.2
 unfold cellX
 omega
theorem textX_append (a b : List Ce) : textX (a ++ b) = textX a ++ textX b := by simp [textX]
theorem textX_one (c : Ce) : textX [c] = cellX c ++ [10] := by simp [textX]
theorem textX_len : ∀ {l : List Rc}, l.all Rc.ok = true → (∀ x ∈ l, x.mid) → (textX (l.map Rc.ce)).length ≤ l.length * 126036
 | [], _, _ => by simp [textX]
 | x :: l, h, hm => by
  simp only [List.all_cons, Bool.and_eq_true] at h
  have h1 := cellX_len h.1 (hm x (by simp))
  have h2 := textX_len h.2 fun y hy => hm y (by simp [hy])
  have e : textX ((x :: l).map Rc.ce) = (cellX x.ce ++ [10]) ++ textX (l.map Rc.ce) := rfl
  rw [e, List.length_append, List.length_append, List.length_cons, List.length_cons, List.length_nil, Nat.add_mul]
  omega
def no1 : Ck1 := fun _ => false
def nil1 : Mk1 := fun _ => []
noncomputable def CF : Cx := CX [(87, effI), (26, effCl no1 25 nil1)]
instance : EffOk CF := effOk_all (effX_ok ⟨effAt_I rfl rfl Tryz.func87 (by simp [Tryz.f87]) (by decide),
 effAt_cl Tryz.func26 (by simp [Tryz.f26]) (by decide) fun al h => by simp [no1] at h, trivial⟩)
theorem nth_map_cs {l : List Rw} {j : Nat} (h : j < l.length) : nth [] (l.map Rw.cs) j = l[j].cs := by
 rw [nth_of_lt _ (by simpa using h)]; simp
theorem lens_two2 {x y : Rw} : lens 4 [x.cs, y.cs] := fun e he => by
 simp only [List.mem_cons, List.not_mem_nil, or_false] at he
 rcases he with rfl | rfl <;> rfl
def txts (l : List Rw) : List (List UInt8) := l.map fun w => ratX w.val
theorem txts_snoc {l : List Rw} {j : Nat} (h : j < l.length) : rowS (txts (l.take j)) ++ [[D.str (ratX l[j].val)]] = rowS (txts (l.take (j + 1))) := by
 rw [List.take_succ_eq_append_getElem h, txts, txts, List.map_append, rowS_append]
 rfl
theorem txts_len (l : List Rw) (j : Nat) : (rowS (txts (l.take j))).length ≤ l.length := by
 rw [rowS_length]
 simp only [txts, List.length_map, List.length_take]; omega
theorem ok_snoc {l : List Rw} {j : Nat} (h : j < l.length) (ha : (l.take j).all Rw.ok = true) (ho : l[j].ok = true) : (l.take (j + 1)).all Rw.ok = true := by
 rw [List.take_succ_eq_append_getElem h, List.all_append, ha]; simp [ho]
theorem allc_snoc {l : List Rc} {k : Nat} (h : k < l.length) (ha : (l.take k).all Rc.ok = true) (ho : l[k].ok = true) : (l.take (k + 1)).all Rc.ok = true := by
 rw [List.take_succ_eq_append_getElem h, List.all_append, ha]; simp [ho]
theorem text_snoc {l : List Rc} {k : Nat} (h : k < l.length) : rowsOf (textX ((l.take k).map Rc.ce)) ++ rowsOf (cellX l[k].ce ++ [10]) = rowsOf (textX ((l.take (k + 1)).map Rc.ce)) := by
 rw [List.take_succ_eq_append_getElem h, List.map_append, textX_append, List.map_cons, List.map_nil, textX_one, ← rowsOf_append]
theorem fmt_bad {l : List Rc} {x : Rc} (h : x ∈ l) {w : Rw} (hw : w ∈ x.nums) (hb : w.ok = false) : fmtT l = [] := by
 have h1 : x.ok = false := by
  rw [Bool.eq_false_iff]
  intro h2
  have := List.all_eq_true.1 h2 w hw
  rw [hb] at this; simp at this
 have h2 : l.all Rc.ok = false := by
  rw [Bool.eq_false_iff]
  intro h2
  have := List.all_eq_true.1 h2 x h
  rw [h1] at this; simp at this
 unfold fmtT
 rw [h2]
def numsAt (l : List Rc) (n : Int) : List Rw := match l[n.toNat]? with
 | some x => x.nums
 | none => []
theorem cell_join {x : Rc} (h : x.ok = true) (hm : x.mid) : Gives CC 89 [.c (.sl (rowS (cellW x.ce))), .c (.str [32])] [.c (.str (cellX x.ce))] := by
 have h1 := cellX_len h hm
 have hne : cellW x.ce ≠ [] := by unfold cellW; split <;> simp
 have hl : (cellW x.ce).length ≤ 7 := by unfold cellW; split <;> simp
 have := join_ok (l := cellW x.ce) (sep := [32]) hne (by omega) (by rw [joinC_eq]; show (cellX x.ce).length ≤ _; omega)
 rw [joinC_eq] at this
 exact this
theorem cFmt_ne {l : List Rc} (hne : l ≠ []) (hl : l.length ≤ 8000) (hm : ∀ x ∈ l, x.mid) : Gives CC 35 [.c (.sl (rcs l))] [.c (.str (fmtT l))] := by
 have up : ∀ {f : Nat} {al rs : List A}, Gives CC f al rs → Gives CF f al rs := fun h => gives_cx (C := CC) rfl rfl h
 refine gives_cx (C := CF) rfl rfl (wpF_ok (C := CF) (anns := ann2
  ⟨[.slot 12 (.int .i64 0), .bld 3 115 70], [], fun _ ds => ∃ k : Nat, k ≤ l.length ∧ ds = [.int .i64 (k : Int), .sl (rowsOf (textX ((l.take k).map Rc.ce)))] ∧ (l.take k).all Rc.ok = true, fun ds => (l.length - toI (nth .undef ds 0)).toNat⟩
  ⟨[.slot 43 (.int .i64 0), .own 7 16 1], [.slot 12 (.int .i64 0), .bld 3 115 70], fun gs ds => ∃ j : Nat, j ≤ (numsAt l (toI (nth .undef gs 0))).length ∧ ds = [.int .i64 (j : Int), .sl (rowS (txts ((numsAt l (toI (nth .undef gs 0))).take j)))] ∧ ((numsAt l (toI (nth .undef gs 0))).take j).all Rw.ok = true, fun ds => (6 - toI (nth .undef ds 0)).toNat⟩) mixedT Tryz.func35 ?_)
 rw [CF, vc_cFmt]
 simp only [Int.ofNat_eq_natCast, rcs_length]
 refine ⟨⟨0, by omega, rfl, rfl⟩, ?_⟩
 rintro n es ⟨k, hk, he, hall⟩
 simp only [List.cons.injEq, D.int.injEq, D.sl.injEq, true_and, and_true] at he
 obtain ⟨rfl, rfl⟩ := he
 refine brd (fun h => ?_) (fun h => ?_)
 ·have hkl : k < l.length := by omega
  have hmem : l[k] ∈ l := List.getElem_mem hkl
  have hkm := hm _ hmem
  have hnm := nums_mid hkm
  have hasn := allc_snoc hkl hall
  have htx := text_snoc hkl
  have htl : (rowsOf (textX ((l.take k).map Rc.ce))).length ≤ 1008288000 := by
   rw [rowsOf_length]
   have h1 := textX_len hall fun x hx => hm x (List.mem_of_mem_take hx)
   rw [List.length_take] at h1
   have := Nat.mul_le_mul_right 126036 (show min k l.length ≤ 8000 by omega)
   omega
  have hcl := fun (ho : l[k].ok = true) => cellX_len ho hkm
  have hjoin := fun (ho : l[k].ok = true) => cell_join ho hkm
  have wk : IntKind.wrap .i64 ((k : Int) + 1) = ((k + 1 : Nat) : Int) := by rw [i64w (by omega) (by omega)]; omega
  have hnk : numsAt l (k : Int) = l[k].nums := by unfold numsAt; rw [Int.toNat_natCast, List.getElem?_eq_getElem hkl]
  rw [Int.toNat_natCast, nth_rcs hkl, wk]
  have step : ∀ w ∈ l[k].nums, Gives CC 85 [.ag w.cs] [.c (.bool w.ok)] ∧ (w.ok = true → Gives CC 86 [.ag w.cs] [.c (.str (ratX w.val))]) ∧ (w.ok = false → [A.c (D.str [])] = [A.c (D.str (fmtT l))]) := fun w hw =>
   ⟨rValid_mid (hnm w hw).1 (hnm w hw).2, fun ho => (mid_txt ho (hnm w hw)).1, fun hb => by rw [fmt_bad hmem hw hb]⟩
  generalize l[k] = x at *
  refine ⟨⟨by omega, by omega, rfl⟩, _, _, _, _, _, _, _, _, _, _, _, _, _, _, _, _, _, _, _, _, _, _, _, _, _, cut_all (l := x.cs) rfl, ?_⟩
  obtain ⟨⟨a, b, c, d⟩, far, u, v⟩ := x
  cases far
  ·refine brb (fun _ => ?_) (fun h => by simp at h)
   have hna : numsAt l (k : Int) = [a, b, c, d, u, v] := hnk
   refine ⟨⟨by unfold room; omega, lens_two2⟩, ⟨0, by omega, rfl, rfl⟩, ?_⟩
   rintro n1 es ⟨j, hj, he, hja⟩
   have hj : j ≤ (numsAt l (k : Int)).length := hj
   have he : [D.int .i64 n1, D.sl es] = [.int .i64 (j : Int), .sl (rowS (txts ((numsAt l (k : Int)).take j)))] := he
   have hja : ((numsAt l (k : Int)).take j).all Rw.ok = true := hja
   rw [hna] at hj he hja
   have hN : [a, b, c, d, u, v].length = 6 := rfl
   simp only [List.cons.injEq, D.int.injEq, D.sl.injEq, true_and, and_true] at he
   obtain ⟨rfl, rfl⟩ := he
   refine brd (fun h2 => ?_) (fun h2 => ?_)
   ·have hjl : j < [a, b, c, d, u, v].length := by omega
    have wj : IntKind.wrap .i64 ((j : Int) + 1) = ((j + 1 : Nat) : Int) := by rw [i64w (by omega) (by omega)]; omega
    obtain ⟨s1, s2, s3⟩ := step _ (List.getElem_mem hjl)
    have hcut : cut (nth [] ([a, b, c, d, u, v].map Rw.cs) j) 0 4 [.bool [a, b, c, d, u, v][j].p, .sl (raw [a, b, c, d, u, v][j].l), .bool [a, b, c, d, u, v][j].q, .sl (raw [a, b, c, d, u, v][j].m)] := by rw [nth_map_cs hjl]; exact cut_all rfl
    have htn := txts_len [a, b, c, d, u, v] j
    have hsn := txts_snoc hjl
    have hok := ok_snoc hjl hja
    have hI : ∀ ds : List D, ds = [.int .i64 ((j + 1 : Nat) : Int), .sl (rowS (txts ([a, b, c, d, u, v].take (j + 1))))] → ([a, b, c, d, u, v].take (j + 1)).all Rw.ok = true → ∃ j, j ≤ (numsAt l (k : Int)).length ∧ ds = [.int .i64 (j : Int), .sl (rowS (txts ((numsAt l (k : Int)).take j)))] ∧ ((numsAt l (k : Int)).take j).all Rw.ok = true := fun ds h h' => ⟨j + 1, by rw [hna]; omega, by rw [hna]; exact h, by rw [hna]; exact h'⟩
    refine ⟨⟨by omega, by omega⟩, _, _, _, _, hcut, _, up s1, brb (fun hb => s3 (by simpa using hb)) (fun hb => ?_)⟩
    have hb : [a, b, c, d, u, v][j].ok = true := by simpa using hb
    refine ⟨_, up (s2 hb), ⟨?_, lens_rowS [_]⟩, hI _ ?_ (hok hb), ?_⟩
    ·unfold room; omega
    ·rw [wj, hsn]
    ·rw [wj]; simp only [nth, toI]; omega
   ·have hj6 : j = 6 := by omega
    subst hj6
    have hxo : [a, b, c, d, u, v].all Rw.ok = true := hja
    refine brb' (fun h => by simp at h) (fun _ => ⟨rfl, _, up (hjoin hxo), ?_, ?_, ⟨k + 1, by omega, ?_, hasn hxo⟩, ?_⟩)
    ·unfold room; have := hcl hxo; omega
    ·unfold room; rw [rowsOf_length (_ ++ _), List.length_append]; have := hcl hxo; simp only [List.length_cons, List.length_nil]; omega
    ·rw [htx]
    ·simp only [nth, toI]; omega
  ·refine brb (fun h => by simp at h) (fun _ => ?_)
   have hna : numsAt l (k : Int) = [a, b, c, d] := hnk
   refine ⟨⟨0, by omega, rfl, rfl⟩, ?_⟩
   rintro n1 es ⟨j, hj, he, hja⟩
   have hj : j ≤ (numsAt l (k : Int)).length := hj
   have he : [D.int .i64 n1, D.sl es] = [.int .i64 (j : Int), .sl (rowS (txts ((numsAt l (k : Int)).take j)))] := he
   have hja : ((numsAt l (k : Int)).take j).all Rw.ok = true := hja
   rw [hna] at hj he hja
   have hN : [a, b, c, d].length = 4 := rfl
   simp only [List.cons.injEq, D.int.injEq, D.sl.injEq, true_and, and_true] at he
   obtain ⟨rfl, rfl⟩ := he
   refine brd (fun h2 => ?_) (fun h2 => ?_)
   ·have hjl : j < [a, b, c, d].length := by omega
    have wj : IntKind.wrap .i64 ((j : Int) + 1) = ((j + 1 : Nat) : Int) := by rw [i64w (by omega) (by omega)]; omega
    obtain ⟨s1, s2, s3⟩ := step _ (List.getElem_mem hjl)
    have hcut : cut (nth [] ([a, b, c, d].map Rw.cs) j) 0 4 [.bool [a, b, c, d][j].p, .sl (raw [a, b, c, d][j].l), .bool [a, b, c, d][j].q, .sl (raw [a, b, c, d][j].m)] := by rw [nth_map_cs hjl]; exact cut_all rfl
    have htn := txts_len [a, b, c, d] j
    have hsn := txts_snoc hjl
    have hok := ok_snoc hjl hja
    have hI : ∀ ds : List D, ds = [.int .i64 ((j + 1 : Nat) : Int), .sl (rowS (txts ([a, b, c, d].take (j + 1))))] → ([a, b, c, d].take (j + 1)).all Rw.ok = true → ∃ j, j ≤ (numsAt l (k : Int)).length ∧ ds = [.int .i64 (j : Int), .sl (rowS (txts ((numsAt l (k : Int)).take j)))] ∧ ((numsAt l (k : Int)).take j).all Rw.ok = true := fun ds h h' => ⟨j + 1, by rw [hna]; omega, by rw [hna]; exact h, by rw [hna]; exact h'⟩
    refine ⟨⟨by omega, by omega⟩, _, _, _, _, hcut, _, up s1, brb (fun hb => s3 (by simpa using hb)) (fun hb => ?_)⟩
    have hb : [a, b, c, d][j].ok = true := by simpa using hb
    refine ⟨_, up (s2 hb), ⟨?_, lens_rowS [_]⟩, hI _ ?_ (hok hb), ?_⟩
    ·unfold room; omega
    ·rw [wj, hsn]
    ·rw [wj]; simp only [nth, toI]; omega
   ·have hj6 : j = 4 := by omega
    subst hj6
    have hxo : [a, b, c, d].all Rw.ok = true := hja
    refine brb' (fun _ => ⟨⟨?_, lens_rowS [_]⟩, _, up (hjoin hxo), ?_, ?_, ⟨k + 1, by omega, ?_, hasn hxo⟩, ?_⟩) (fun h => by simp at h)
    ·unfold room; have := txts_len [a, b, c, d] 4; simp only [List.length_cons, List.length_nil] at this; omega
    ·unfold room; have := hcl hxo; omega
    ·unfold room; rw [rowsOf_length (_ ++ _), List.length_append]; have := hcl hxo; simp only [List.length_cons, List.length_nil]; omega
    ·rw [htx]
    ·simp only [nth, toI]; omega
 ·have hkl : k = l.length := by omega
  subst hkl
  rw [List.take_length] at hall ⊢
  refine ⟨⟨fun e => ?_, bytesOk_rowsOf _⟩, ?_⟩
  ·have := congrArg List.length e
   rw [rowsOf_length, List.length_nil] at this
   have h2 := List.eq_nil_of_length_eq_zero this
   match l, hne with
   | x :: l, _ =>
    have e : textX ((x :: l).map Rc.ce) = (cellX x.ce ++ [10]) ++ textX (l.map Rc.ce) := rfl
    rw [e] at h2
    simp at h2
  ·rw [toBytes_rowsOf]
   unfold fmtT
   rw [hall]
end Eng
end

section
namespace Eng
open Go Go.Proofs
set_option maxRecDepth 100000
def fine (w : Rw) : Prop := ∃ q : Rat, w.cs = cR q ∧ Sm q.num ∧ Sm (q.den : Int)
theorem sameR_ok {w z : Rw} (hw : fine w) (h : w.cs = z.cs) : Gives CC 83 [.ag w.cs, .ag z.cs] [.c (.bool true)] := by
 obtain ⟨q, e, h1, h2⟩ := hw
 rw [← h, e]
 have c : A.ag (cR q) = encR q := rfl
 rw [c, encR_cells]
 refine wpF_ok (C := CC) (anns := fun _ => ⟨[], [], fun _ _ => True, fun _ => 0⟩) mixedT Tryz.func83 ?_
 rw [vc_tSameR]
 have s1 := qSame_ok h1 h1
 have s2 := qSame_ok h2 h2
 rw [decide_eq_true rfl] at s1 s2
 exact ⟨_, s1, brb' (fun _ => ⟨_, s2, rfl⟩) (fun h => by simp at h)⟩
def sameW (w z : Rw) : Prop := fine w ∧ w.cs = z.cs
def sameC (x y : Rc) : Prop := x.far = y.far ∧ sameW x.b.a y.b.a ∧ sameW x.b.b y.b.b ∧ sameW x.b.c y.b.c ∧ sameW x.b.d y.b.d ∧ (x.far = false → sameW x.u y.u ∧ sameW x.v y.v)
theorem sameB_ok {x y : Rb} (h1 : sameW x.a y.a) (h2 : sameW x.b y.b) (h3 : sameW x.c y.c) (h4 : sameW x.d y.d) : Gives CC 31 [.ag x.cs, .ag y.cs] [.c (.bool true)] := by
 refine wpF_ok (C := CC) (anns := fun _ => ⟨[], [], fun _ _ => True, fun _ => 0⟩) mixedT Tryz.func31 ?_
 rw [Rb.cs_eq, Rb.cs_eq, vc_tSameB]
 exact ⟨_, sameR_ok h1.1 h1.2, brb' (fun _ => ⟨_, sameR_ok h2.1 h2.2, brb' (fun _ => ⟨_, sameR_ok h3.1 h3.2, brb' (fun _ => ⟨_, sameR_ok h4.1 h4.2, rfl⟩) (fun h => by simp at h)⟩) (fun h => by simp at h)⟩) (fun h => by simp at h)⟩
theorem sameV_ok {u v w z : Rw} (h1 : sameW u w) (h2 : sameW v z) : Gives CC 94 [.ag (u.cs ++ v.cs), .ag (w.cs ++ z.cs)] [.c (.bool true)] := by
 refine wpF_ok (C := CC) (anns := fun _ => ⟨[], [], fun _ _ => True, fun _ => 0⟩) mixedT Tryz.func94 ?_
 have e : ∀ u v : Rw, u.cs ++ v.cs = [.bool u.p, .sl (raw u.l), .bool u.q, .sl (raw u.m), .bool v.p, .sl (raw v.l), .bool v.q, .sl (raw v.m)] := fun _ _ => rfl
 rw [e, e, vc_sameVec]
 exact ⟨_, sameR_ok h1.1 h1.2, brb' (fun _ => ⟨_, sameR_ok h2.1 h2.2, rfl⟩) (fun h => by simp at h)⟩
theorem eSame_ok {X Y : List Rc} (hl : X.length = Y.length) (hb : X.length ≤ 1000000) (h : ∀ k (h1 : k < X.length) (h2 : k < Y.length), sameC X[k] Y[k]) : Gives CC 38 [.c (.sl (rcs X)), .c (.sl (rcs Y))] [.c (.bool true)] := by
 refine wpF_ok (C := CC) (anns := fun _ => ⟨[.slot 5 (.int .i64 0)], [], fun _ ds => ∃ k : Nat, k ≤ X.length ∧ ds = [.int .i64 (k : Int)], fun ds => (X.length - toI (nth .undef ds 0)).toNat⟩) mixedT Tryz.func38 ?_
 rw [vc_eSame]
 simp only [Int.ofNat_eq_natCast, rcs_length]
 refine brb (fun h2 => by rw [hl] at h2; simp at h2) (fun _ => ⟨⟨0, by omega, rfl⟩, ?_⟩)
 rintro n ⟨k, hk, he⟩
 simp only [List.cons.injEq, D.int.injEq, true_and, and_true] at he
 subst he
 refine brd (fun h2 => ?_) (fun _ => trivial)
 have h1 : k < X.length := by omega
 have h3 : k < Y.length := by omega
 have hs := h k h1 h3
 have w1 : IntKind.wrap .i64 ((k : Int) + 1) = ((k + 1 : Nat) : Int) := by rw [i64w (by omega) (by omega)]; omega
 rw [Int.toNat_natCast, nth_rcs h1, nth_rcs h3, w1]
 have hI : (∃ k_1 : Nat, k_1 ≤ X.length ∧ [D.int .i64 ((k + 1 : Nat) : Int)] = [.int .i64 (k_1 : Int)]) ∧ (X.length - toI (nth .undef [D.int .i64 ((k + 1 : Nat) : Int)] 0)).toNat < (X.length - toI (nth .undef [D.int .i64 (k : Int)] 0)).toNat :=
  ⟨⟨k + 1, by omega, rfl⟩, by simp only [nth, toI]; omega⟩
 generalize X[k] = x at *
 generalize Y[k] = y at *
 obtain ⟨hf, a1, a2, a3, a4, a5⟩ := hs
 have hB := sameB_ok a1 a2 a3 a4
 rw [Rb.cs_eq, Rb.cs_eq] at hB
 refine ⟨⟨by omega, by omega, rfl⟩, _, _, _, _, _, _, _, _, _, _, _, _, _, _, _, _, _, _, _, _, _, _, _, _, _, cut_all (l := x.cs) rfl, ⟨by omega, by omega, rfl⟩, _, _, _, _, _, _, _, _, _, _, _, _, _, _, _, _, _, _, _, _, _, _, _, _, _, cut_all (l := y.cs) rfl,
  brb (fun h => by rw [hf] at h; simp at h) (fun _ => ⟨_, hB, brb (fun h => by simp at h) (fun _ => brb (fun h => ?_) (fun _ => hI))⟩)⟩
 have hxf : x.far = false := by simpa using h
 obtain ⟨b1, b2⟩ := a5 hxf
 exact ⟨_, sameV_ok b1 b2, brb (fun h => by simp at h) (fun _ => hI)⟩
theorem half_eq (k : Nat) (hk : k = 9 * 100 * 4) : halfN = 10 ^ k := by
 rw [pow_three hk]
 rfl
theorem sq_pow {z : Int} {n : Nat} (h : z.natAbs < 10 ^ n) (hn : n ≤ 3600) : Sq z := by
 obtain ⟨k, hk⟩ : ∃ k, k = 9 * 100 * 4 := ⟨_, rfl⟩
 unfold Sq
 rw [half_eq k hk]
 exact Nat.lt_of_lt_of_le h (Nat.pow_le_pow_right (by omega) (by omega))
theorem dec_lt (u : Nat) : u < 10 ^ (Lib.decDigits u).length := by
 have := natT_lt (dec_isD u)
 rw [natT_dec] at this
 exact this
theorem ratX_sr {q : Rat} (h : (ratX q).length ≤ 3600) : Sr q := by
 have h1 := dec_lt q.num.natAbs
 have h2 := dec_lt q.den
 have hz : (Lib.decDigits q.num.natAbs).length ≤ (decZt q.num).length := by unfold decZt; rw [List.length_append]; omega
 unfold ratX at h
 by_cases hd : q.den = 1
 ·rw [if_pos hd] at h
  refine ⟨sq_pow h1 (by omega), sq_pow (n := 1) ?_ (by omega)⟩
  rw [Int.natAbs_natCast, hd]; decide
 ·rw [if_neg hd, List.length_append, List.length_cons] at h
  refine ⟨sq_pow h1 (by omega), sq_pow (n := (Lib.decDigits q.den).length) ?_ (by omega)⟩
  rw [Int.natAbs_natCast]; exact h2
theorem text_cell : ∀ {l : List Ce} {c : Ce}, c ∈ l → (cellX c).length ≤ (textX l).length
 | d :: l, c, h => by
  have e : textX (d :: l) = (cellX d ++ [10]) ++ textX l := rfl
  rw [e, List.length_append, List.length_append]
  simp only [List.mem_cons] at h
  rcases h with rfl | h
  ·omega
  ·have := text_cell h; omega
theorem text_count : ∀ (l : List Ce), l.length ≤ (textX l).length
 | [] => by simp
 | d :: l => by
  have e : textX (d :: l) = (cellX d ++ [10]) ++ textX l := rfl
  have := text_count l
  rw [e, List.length_append, List.length_append]
  simp only [List.length_cons, List.length_nil]; omega
theorem cell_word {c : Ce} {w : List UInt8} (h : w ∈ cellW c) : w.length ≤ (cellX c).length := by
 rw [← cellX_words] at h
 exact wordsC_len w h
def Ce.sr (c : Ce) : Prop := (Sr c.b.x0 ∧ Sr c.b.y0 ∧ Sr c.b.x1 ∧ Sr c.b.y1) ∧ ∀ v, c.k = some v → Sr v.x ∧ Sr v.y
theorem cell_sr {c : Ce} (h : (cellX c).length ≤ 3600) : c.sr := by
 have hw := fun w hw => Nat.le_trans (@cell_word c w hw) h
 obtain ⟨b, k⟩ := c
 refine ⟨⟨ratX_sr (hw _ ?_), ratX_sr (hw _ ?_), ratX_sr (hw _ ?_), ratX_sr (hw _ ?_)⟩, fun v hv => ?_⟩
 ·simp [cellW]
 ·simp [cellW]
 ·simp [cellW]
 ·simp [cellW]
 ·have hv : k = some v := hv
  subst hv
  exact ⟨ratX_sr (hw _ (by simp [cellW])), ratX_sr (hw _ (by simp [cellW]))⟩
theorem fine_ofR {q : Rat} (h : Sr q) : fine (ofR q) := ⟨q, ofR_cs q, h.sm.1, h.sm.2⟩
theorem sameC_rc {c : Ce} (h : c.sr) : sameC c.rc c.rc := by
 obtain ⟨⟨h1, h2, h3, h4⟩, h5⟩ := h
 refine ⟨rfl, ⟨fine_ofR h1, rfl⟩, ⟨fine_ofR h2, rfl⟩, ⟨fine_ofR h3, rfl⟩, ⟨fine_ofR h4, rfl⟩, fun hf => ?_⟩
 obtain ⟨b, k⟩ := c
 cases k with
 | none => simp [Ce.rc] at hf
 | some v => exact ⟨⟨fine_ofR (h5 v rfl).1, rfl⟩, ⟨fine_ofR (h5 v rfl).2, rfl⟩⟩
theorem zw_mid : zw.mid := ⟨by simp [zw], by simp [zw]⟩
theorem rc_mid {c : Ce} (h : c.sr) : c.rc.mid := by
 obtain ⟨⟨h1, h2, h3, h4⟩, h5⟩ := h
 obtain ⟨b, k⟩ := c
 cases k with
 | none => exact ⟨⟨ofR_mid h1, ofR_mid h2, ofR_mid h3, ofR_mid h4⟩, zw_mid, zw_mid⟩
 | some v => exact ⟨⟨ofR_mid h1, ofR_mid h2, ofR_mid h3, ofR_mid h4⟩, ofR_mid (h5 v rfl).1, ofR_mid (h5 v rfl).2⟩
theorem rc_ok (c : Ce) : c.rc.ok = true ∧ c.rc.ce = c := by
 obtain ⟨⟨x0, y0, x1, y1⟩, k⟩ := c
 cases k with
 | none =>
  refine ⟨?_, ?_⟩
  ·show [ofR x0, ofR y0, ofR x1, ofR y1].all Rw.ok = true
   simp [(ofR_ok _).1]
  ·show Ce.mk ⟨(ofR x0).val, (ofR y0).val, (ofR x1).val, (ofR y1).val⟩ none = _
   simp only [(ofR_ok _).2]
 | some v =>
  obtain ⟨p, q⟩ := v
  refine ⟨?_, ?_⟩
  ·show [ofR x0, ofR y0, ofR x1, ofR y1, ofR p, ofR q].all Rw.ok = true
   simp [(ofR_ok _).1]
  ·show Ce.mk ⟨(ofR x0).val, (ofR y0).val, (ofR x1).val, (ofR y1).val⟩ (some ⟨(ofR p).val, (ofR q).val⟩) = _
   simp only [(ofR_ok _).2]
theorem fmt_rc (l : List Ce) : fmtT (l.map Ce.rc) = textX l := by
 have h1 : (l.map Ce.rc).all Rc.ok = true := by
  rw [List.all_eq_true]
  intro x hx
  simp only [List.mem_map] at hx
  obtain ⟨c, _, rfl⟩ := hx
  exact (rc_ok c).1
 have h2 : (l.map Ce.rc).map Rc.ce = l := by
  rw [List.map_map]
  conv => rhs; rw [← List.map_id l]
  exact List.map_congr_left fun c _ => (rc_ok c).2
 unfold fmtT
 rw [h1, h2]
theorem rows_rc (l : List Ce) : cellRows l = rcs (l.map Ce.rc) := by simp [cellRows, rcs]
theorem cFmt0_ok : Gives CC 35 [.c (.sl [])] [.c (.str [])] := runF_ok (C := CC) (lim := 1000) mixedT tabJ_ok 6 35 [.c (.sl [])] [.c (.str [])] (by kernel_rfl)
theorem cFmt_rc {l : List Ce} (hl : l.length ≤ 8000) (h : ∀ c ∈ l, c.sr) : Gives CC 35 [.c (.sl (cellRows l))] [.c (.str (textX l))] := by
 by_cases hn : l = []
 ·subst hn; exact cFmt0_ok
 ·have := cFmt_ne (l := l.map Ce.rc) (by simpa using hn) (by simpa using hl) (fun x hx => by
   simp only [List.mem_map] at hx
   obtain ⟨c, hc, rfl⟩ := hx
   exact rc_mid (h c hc))
  rw [fmt_rc, ← rows_rc] at this
  exact this
theorem same_rc {l : List Ce} (hl : l.length ≤ 8000) (h : ∀ c ∈ l, c.sr) : Gives CC 38 [.c (.sl (cellRows l)), .c (.sl (cellRows l))] [.c (.bool true)] := by
 rw [rows_rc]
 refine eSame_ok rfl (by rw [List.length_map]; omega) fun k h1 _ => ?_
 rw [List.getElem_map]
 exact sameC_rc (h _ (List.getElem_mem _))
theorem lParse_ok (haw : Gives CC 9 [] [.c (.bool true)]) (s : List UInt8) : Gives CC 8 [.c (.str s)] [.c (.bool true)] := by
 refine wpF_ok (C := CC) (anns := fun _ => ⟨[], [], fun _ _ => True, fun _ => 0⟩) mixedT Tryz.func8 ?_
 rw [vc_lParse]
 simp only [Int.ofNat_eq_natCast]
 refine ⟨_, haw, brb (fun h => by simp at h) (fun _ => brd (fun _ => ⟨_, haw, rfl⟩) (fun h => ?_))⟩
 have hp := cParse_ok (s := s) (by omega)
 have he := eParse_ok (s := s) (by omega)
 cases hr : parT 1 s with
 | error k =>
  rw [hr] at hp he
  refine ⟨_, _, _, hp, _, _, _, he, brb (fun _ => brb (fun _ => ⟨_, same_rc (l := []) (by simp) (by simp), brb' (fun _ => brb (fun _ => trivial) (fun h => by simp at h)) (fun h => by simp at h)⟩) (fun h => by simp at h)) (fun h => by simp at h)⟩
 | ok l =>
  rw [hr] at hp he
  have ht := parT_some hr
  have hsr : ∀ c ∈ l, c.sr := fun c hc => cell_sr (by
   have := text_cell hc
   rw [← ht] at this
   omega)
  have hln : l.length ≤ 8000 := by
   have := text_count l
   rw [← ht] at this
   omega
  have hf := cFmt_rc hln hsr
  rw [← ht] at hf
  refine ⟨_, _, _, hp, _, _, _, he, brb (fun _ => brb (fun _ => ⟨_, same_rc hln hsr, brb' (fun _ => brb (fun h => by simp at h) (fun _ => ⟨_, hf, ?_⟩)) (fun h => by simp at h)⟩) (fun h => by simp at h)) (fun h => by simp at h)⟩
  rw [beq_self_eq_true]
end Eng
end
