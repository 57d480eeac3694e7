/- The verification conditions of functions, printed by a program (vcgen.py) and checked by the kernel. -/
import Derived.Test.YtkkodaemmgpgfaaGreatDoorCvC
import Derived.Test.YtkkodaemmgpgfaaGreatDoorCvF
import Derived.Test.YtkkodaemmgpgfaaGreatDoorCqA
import Derived.Test.YtkkodaemmgpgfaaGreatDoorCqB
import Derived.KernelRfl
section
open Go Go.Proofs Eng
set_option maxRecDepth 1000000
namespace Eng
theorem vc_eput (Gv : Nat → List A → List A → Prop) (I0 : List D → List D → Prop) (M0 : List D → Nat) (es : List (List D)) (p1 q1 : Bool) (l1 m1 : List (List D)) (Q : List A → Prop) :
 wpF CC Gv (fun _ => ⟨[.slot 5 (.int .i64 0)], [], I0, M0⟩) Tryz.f65 [.c (.sl es), .ag [.bool p1, .sl l1, .bool q1, .sl m1]] Q = (
 I0 [] [D.int .i64 (0 : Int)] ∧
 ∀ (n : Int),
 I0 [] [D.int .i64 n] →
 br (toB (D.bool (decide (n < (Int.ofNat (List.length es))))))
 (((0 : Int) ≤ n ∧ n < (Int.ofNat (List.length es)) ∧ List.length (nth [] es (Int.toNat n)) = 4) ∧
 ∃ b es_1 b_1 es_2,
 cut (nth [] es (Int.toNat n)) 0 4 [D.bool b, D.sl es_1, D.bool b_1, D.sl es_2] ∧
 ∃ n_1,
 Gv 55 [A.ag [D.bool b, D.sl es_1, D.bool b_1, D.sl es_2], A.ag [D.bool p1, D.sl l1, D.bool q1, D.sl m1]] [A.c (D.int .i64 n_1)] ∧
 br (toB (D.bool (decide (n_1 < (0 : Int)))))
 (I0 [] [D.int .i64 (IntKind.wrap .i64 (n + (1 : Int)))] ∧
 M0 [D.int .i64 (IntKind.wrap .i64 (n + (1 : Int)))] < M0 [D.int .i64 n])
 (br (toB (D.bool (decide (n < (Int.ofNat (List.length es))))))
 (((0 : Int) ≤ n ∧ n < (Int.ofNat (List.length es)) ∧ List.length (nth [] es (Int.toNat n)) = 4) ∧
 ∃ b es_3 b_2 es_4,
 cut (nth [] es (Int.toNat n)) 0 4 [D.bool b, D.sl es_3, D.bool b_2, D.sl es_4] ∧
 ∃ n_2,
 Gv 55 [A.ag [D.bool b, D.sl es_3, D.bool b_2, D.sl es_4], A.ag [D.bool p1, D.sl l1, D.bool q1, D.sl m1]]
 [A.c (D.int .i64 n_2)] ∧
 br (toB (D.bool (n_2 == (0 : Int)))) (Q [A.c (D.sl es)])
 (((0 : Int) ≤ (0 : Int) ∧ (0 : Int) ≤ n ∧ n ≤ (Int.ofNat (List.length es)) ∧ lens 4 es) ∧
 (room (0 + List.length (List.drop 0 (List.take (Int.toNat n) es))) ∧
 lens 4 (List.drop 0 (List.take (Int.toNat n) es))) ∧
 (room (List.length ([] ++ List.drop 0 (List.take (Int.toNat n) es)) + 1) ∧
 lens 4 [[D.bool p1, D.sl l1, D.bool q1, D.sl m1]]) ∧
 ((0 : Int) ≤ n ∧ n ≤ (Int.ofNat (List.length es)) ∧ (Int.ofNat (List.length es)) ≤ (Int.ofNat (List.length es)) ∧ lens 4 es) ∧
 (room
 (List.length
 ([] ++ List.drop 0 (List.take (Int.toNat n) es) ++ [[D.bool p1, D.sl l1, D.bool q1, D.sl m1]]) +
 List.length (List.drop (Int.toNat n) (List.take (Int.toNat (Int.ofNat (List.length es))) es))) ∧
 lens 4 (List.drop (Int.toNat n) (List.take (Int.toNat (Int.ofNat (List.length es))) es))) ∧
 Q
 [A.c
 (D.sl
 ([] ++ List.drop 0 (List.take (Int.toNat n) es) ++ [[D.bool p1, D.sl l1, D.bool q1, D.sl m1]] ++
 List.drop (Int.toNat n) (List.take (Int.toNat (Int.ofNat (List.length es))) es)))]))
 (((0 : Int) ≤ (0 : Int) ∧ (0 : Int) ≤ n ∧ n ≤ (Int.ofNat (List.length es)) ∧ lens 4 es) ∧
 (room (0 + List.length (List.drop 0 (List.take (Int.toNat n) es))) ∧
 lens 4 (List.drop 0 (List.take (Int.toNat n) es))) ∧
 (room (List.length ([] ++ List.drop 0 (List.take (Int.toNat n) es)) + 1) ∧
 lens 4 [[D.bool p1, D.sl l1, D.bool q1, D.sl m1]]) ∧
 ((0 : Int) ≤ n ∧ n ≤ (Int.ofNat (List.length es)) ∧ (Int.ofNat (List.length es)) ≤ (Int.ofNat (List.length es)) ∧ lens 4 es) ∧
 (room
 (List.length ([] ++ List.drop 0 (List.take (Int.toNat n) es) ++ [[D.bool p1, D.sl l1, D.bool q1, D.sl m1]]) +
 List.length (List.drop (Int.toNat n) (List.take (Int.toNat (Int.ofNat (List.length es))) es))) ∧
 lens 4 (List.drop (Int.toNat n) (List.take (Int.toNat (Int.ofNat (List.length es))) es))) ∧
 Q
 [A.c
 (D.sl
 ([] ++ List.drop 0 (List.take (Int.toNat n) es) ++ [[D.bool p1, D.sl l1, D.bool q1, D.sl m1]] ++
 List.drop (Int.toNat n) (List.take (Int.toNat (Int.ofNat (List.length es))) es)))])))
 (br (toB (D.bool (decide (n < (Int.ofNat (List.length es))))))
 (((0 : Int) ≤ n ∧ n < (Int.ofNat (List.length es)) ∧ List.length (nth [] es (Int.toNat n)) = 4) ∧
 ∃ b es_1 b_1 es_2,
 cut (nth [] es (Int.toNat n)) 0 4 [D.bool b, D.sl es_1, D.bool b_1, D.sl es_2] ∧
 ∃ n_1,
 Gv 55 [A.ag [D.bool b, D.sl es_1, D.bool b_1, D.sl es_2], A.ag [D.bool p1, D.sl l1, D.bool q1, D.sl m1]]
 [A.c (D.int .i64 n_1)] ∧
 br (toB (D.bool (n_1 == (0 : Int)))) (Q [A.c (D.sl es)])
 (((0 : Int) ≤ (0 : Int) ∧ (0 : Int) ≤ n ∧ n ≤ (Int.ofNat (List.length es)) ∧ lens 4 es) ∧
 (room (0 + List.length (List.drop 0 (List.take (Int.toNat n) es))) ∧
 lens 4 (List.drop 0 (List.take (Int.toNat n) es))) ∧
 (room (List.length ([] ++ List.drop 0 (List.take (Int.toNat n) es)) + 1) ∧
 lens 4 [[D.bool p1, D.sl l1, D.bool q1, D.sl m1]]) ∧
 ((0 : Int) ≤ n ∧ n ≤ (Int.ofNat (List.length es)) ∧ (Int.ofNat (List.length es)) ≤ (Int.ofNat (List.length es)) ∧ lens 4 es) ∧
 (room
 (List.length ([] ++ List.drop 0 (List.take (Int.toNat n) es) ++ [[D.bool p1, D.sl l1, D.bool q1, D.sl m1]]) +
 List.length (List.drop (Int.toNat n) (List.take (Int.toNat (Int.ofNat (List.length es))) es))) ∧
 lens 4 (List.drop (Int.toNat n) (List.take (Int.toNat (Int.ofNat (List.length es))) es))) ∧
 Q
 [A.c
 (D.sl
 ([] ++ List.drop 0 (List.take (Int.toNat n) es) ++ [[D.bool p1, D.sl l1, D.bool q1, D.sl m1]] ++
 List.drop (Int.toNat n) (List.take (Int.toNat (Int.ofNat (List.length es))) es)))]))
 (((0 : Int) ≤ (0 : Int) ∧ (0 : Int) ≤ n ∧ n ≤ (Int.ofNat (List.length es)) ∧ lens 4 es) ∧
 (room (0 + List.length (List.drop 0 (List.take (Int.toNat n) es))) ∧
 lens 4 (List.drop 0 (List.take (Int.toNat n) es))) ∧
 (room (List.length ([] ++ List.drop 0 (List.take (Int.toNat n) es)) + 1) ∧
 lens 4 [[D.bool p1, D.sl l1, D.bool q1, D.sl m1]]) ∧
 ((0 : Int) ≤ n ∧ n ≤ (Int.ofNat (List.length es)) ∧ (Int.ofNat (List.length es)) ≤ (Int.ofNat (List.length es)) ∧ lens 4 es) ∧
 (room
 (List.length ([] ++ List.drop 0 (List.take (Int.toNat n) es) ++ [[D.bool p1, D.sl l1, D.bool q1, D.sl m1]]) +
 List.length (List.drop (Int.toNat n) (List.take (Int.toNat (Int.ofNat (List.length es))) es))) ∧
 lens 4 (List.drop (Int.toNat n) (List.take (Int.toNat (Int.ofNat (List.length es))) es))) ∧
 Q
 [A.c
 (D.sl
 ([] ++ List.drop 0 (List.take (Int.toNat n) es) ++ [[D.bool p1, D.sl l1, D.bool q1, D.sl m1]] ++
 List.drop (Int.toNat n) (List.take (Int.toNat (Int.ofNat (List.length es))) es)))]))) := by kernel_rfl
theorem vc_ehas (Gv : Nat → List A → List A → Prop) (p1 q1 p2 q2 p3 q3 p4 q4 p5 q5 p6 q6 : Bool) (l1 m1 l2 m2 l3 m3 l4 m4 l5 m5 l6 m6 : List (List D)) (Q : List A → Prop) :
 wpF CC Gv (fun _ => ⟨[], [], fun _ _ => True, fun _ => 0⟩) Tryz.f67 [.ag [.bool p1, .sl l1, .bool q1, .sl m1, .bool p2, .sl l2, .bool q2, .sl m2, .bool p3, .sl l3, .bool q3, .sl m3, .bool p4, .sl l4, .bool q4, .sl m4], .ag [.bool p5, .sl l5, .bool q5, .sl m5], .ag [.bool p6, .sl l6, .bool q6, .sl m6]] Q = (
 ∃ n,
 Gv 55 [A.ag [D.bool p1, D.sl l1, D.bool q1, D.sl m1], A.ag [D.bool p5, D.sl l5, D.bool q5, D.sl m5]] [A.c (D.int .i64 n)] ∧
 br (toB (D.bool (decide (n ≤ (0 : Int)))))
 (∃ n,
 Gv 55 [A.ag [D.bool p5, D.sl l5, D.bool q5, D.sl m5], A.ag [D.bool p3, D.sl l3, D.bool q3, D.sl m3]] [A.c (D.int .i64 n)] ∧
 br (toB (D.bool (decide (n ≤ (0 : Int)))))
 (∃ n,
 Gv 55 [A.ag [D.bool p2, D.sl l2, D.bool q2, D.sl m2], A.ag [D.bool p6, D.sl l6, D.bool q6, D.sl m6]] [A.c (D.int .i64 n)] ∧
 br (toB (D.bool (decide (n ≤ (0 : Int)))))
 (∃ n,
 Gv 55 [A.ag [D.bool p6, D.sl l6, D.bool q6, D.sl m6], A.ag [D.bool p4, D.sl l4, D.bool q4, D.sl m4]] [A.c (D.int .i64 n)] ∧
 Q [A.c (D.bool (decide (n ≤ (0 : Int))))])
 (Q [A.c (D.bool false)]))
 (Q [A.c (D.bool false)]))
 (Q [A.c (D.bool false)])) := by kernel_rfl
theorem vc_eCover (Gv : Nat → List A → List A → Prop) (I0 : List D → List D → Prop) (M0 : List D → Nat) (I1 : List D → List D → Prop) (M1 : List D → Nat) (I2 : List D → List D → Prop) (M2 : List D → Nat) (I3 : List D → List D → Prop) (M3 : List D → Nat) (p1 q1 p2 q2 p3 q3 p4 q4 : Bool) (l1 m1 l2 m2 l3 m3 l4 m4 : List (List D)) (es : List (List D)) (Q : List A → Prop) :
 wpF CC Gv (ann4 ⟨[.slot 7 (.int .i64 0), .slot 5 (.slice none 0 0), .slot 6 (.slice none 0 0)], [], I0, M0⟩ ⟨[.slot 8 (.int .i64 0)], [], I1, M1⟩ ⟨[.slot 9 (.int .i64 0)], [.slot 8 (.int .i64 0)], I2, M2⟩ ⟨[.slot 13 (.int .i64 0), .slot 12 (.bool false)], [.slot 8 (.int .i64 0), .slot 9 (.int .i64 0)], I3, M3⟩) Tryz.f19 [.ag [.bool p1, .sl l1, .bool q1, .sl m1, .bool p2, .sl l2, .bool q2, .sl m2, .bool p3, .sl l3, .bool q3, .sl m3, .bool p4, .sl l4, .bool q4, .sl m4], .c (.sl es)] Q = (
 ∃ b,
 Gv 32
 [A.ag
 [D.bool p1, D.sl l1, D.bool q1, D.sl m1, D.bool p2, D.sl l2, D.bool q2, D.sl m2, D.bool p3, D.sl l3, D.bool q3, D.sl m3, D.bool p4, D.sl l4,
 D.bool q4, D.sl m4]]
 [A.c (D.bool b)] ∧
 br (toB (D.bool !b)) (Q [A.c (D.bool false)])
 (br (toB (D.bool (decide ((Int.ofNat (List.length es)) > (4096 : Int))))) (Q [A.c (D.bool false)])
 (I0 []
 [D.int .i64 (0 : Int), D.sl [[D.bool p1, D.sl l1, D.bool q1, D.sl m1], [D.bool p3, D.sl l3, D.bool q3, D.sl m3]],
 D.sl [[D.bool p2, D.sl l2, D.bool q2, D.sl m2], [D.bool p4, D.sl l4, D.bool q4, D.sl m4]]] ∧
 ∀ (n : Int) (es_1 es_2 : List (List D)),
 I0 [] [D.int .i64 n, D.sl es_1, D.sl es_2] →
 br (toB (D.bool (decide (n < (Int.ofNat (List.length es))))))
 (((0 : Int) ≤ n ∧ n < (Int.ofNat (List.length es)) ∧ List.length (nth [] es (Int.toNat n)) = 16) ∧
 ∃ b es_3 b_1 es_4 b_2 es_5 b_3 es_6 b_4 es_7 b_5 es_8 b_6 es_9 b_7 es_10,
 cut (nth [] es (Int.toNat n)) 0 16
 [D.bool b, D.sl es_3, D.bool b_1, D.sl es_4, D.bool b_2, D.sl es_5, D.bool b_3, D.sl es_6, D.bool b_4, D.sl es_7, D.bool b_5, D.sl es_8,
 D.bool b_6, D.sl es_9, D.bool b_7, D.sl es_10] ∧
 ∃ b_8,
 Gv 32
 [A.ag
 [D.bool b, D.sl es_3, D.bool b_1, D.sl es_4, D.bool b_2, D.sl es_5, D.bool b_3, D.sl es_6, D.bool b_4, D.sl es_7, D.bool b_5,
 D.sl es_8, D.bool b_6, D.sl es_9, D.bool b_7, D.sl es_10]]
 [A.c (D.bool b_8)] ∧
 br (toB (D.bool !b_8)) (Q [A.c (D.bool false)])
 (((0 : Int) ≤ n ∧ n < (Int.ofNat (List.length es)) ∧ List.length (nth [] es (Int.toNat n)) = 16) ∧
 ∃ b es_11 b_9 es_12,
 cut (nth [] es (Int.toNat n)) 0 4 [D.bool b, D.sl es_11, D.bool b_9, D.sl es_12] ∧
 ∃ b_10 es_13 b_11 es_14,
 Gv 54
 [A.ag [D.bool b, D.sl es_11, D.bool b_9, D.sl es_12], A.ag [D.bool p1, D.sl l1, D.bool q1, D.sl m1],
 A.ag [D.bool p3, D.sl l3, D.bool q3, D.sl m3]]
 [A.ag [D.bool b_10, D.sl es_13, D.bool b_11, D.sl es_14]] ∧
 ∃ es_15,
 Gv 65 [A.c (D.sl es_1), A.ag [D.bool b_10, D.sl es_13, D.bool b_11, D.sl es_14]] [A.c (D.sl es_15)] ∧
 ((0 : Int) ≤ n ∧ n < (Int.ofNat (List.length es)) ∧ List.length (nth [] es (Int.toNat n)) = 16) ∧
 ∃ b es_16 b_12 es_17,
 cut (nth [] es (Int.toNat n)) 8 4 [D.bool b, D.sl es_16, D.bool b_12, D.sl es_17] ∧
 ∃ b_13 es_18 b_14 es_19,
 Gv 54
 [A.ag [D.bool b, D.sl es_16, D.bool b_12, D.sl es_17], A.ag [D.bool p1, D.sl l1, D.bool q1, D.sl m1],
 A.ag [D.bool p3, D.sl l3, D.bool q3, D.sl m3]]
 [A.ag [D.bool b_13, D.sl es_18, D.bool b_14, D.sl es_19]] ∧
 ∃ es_20,
 Gv 65 [A.c (D.sl es_15), A.ag [D.bool b_13, D.sl es_18, D.bool b_14, D.sl es_19]]
 [A.c (D.sl es_20)] ∧
 ((0 : Int) ≤ n ∧ n < (Int.ofNat (List.length es)) ∧ List.length (nth [] es (Int.toNat n)) = 16) ∧
 ∃ b es_21 b_15 es_22,
 cut (nth [] es (Int.toNat n)) 4 4 [D.bool b, D.sl es_21, D.bool b_15, D.sl es_22] ∧
 ∃ b_16 es_23 b_17 es_24,
 Gv 54
 [A.ag [D.bool b, D.sl es_21, D.bool b_15, D.sl es_22],
 A.ag [D.bool p2, D.sl l2, D.bool q2, D.sl m2],
 A.ag [D.bool p4, D.sl l4, D.bool q4, D.sl m4]]
 [A.ag [D.bool b_16, D.sl es_23, D.bool b_17, D.sl es_24]] ∧
 ∃ es_25,
 Gv 65 [A.c (D.sl es_2), A.ag [D.bool b_16, D.sl es_23, D.bool b_17, D.sl es_24]]
 [A.c (D.sl es_25)] ∧
 ((0 : Int) ≤ n ∧
 n < (Int.ofNat (List.length es)) ∧ List.length (nth [] es (Int.toNat n)) = 16) ∧
 ∃ b es_26 b_18 es_27,
 cut (nth [] es (Int.toNat n)) 12 4
 [D.bool b, D.sl es_26, D.bool b_18, D.sl es_27] ∧
 ∃ b_19 es b_20 es_28,
 Gv 54
 [A.ag [D.bool b, D.sl es_26, D.bool b_18, D.sl es_27],
 A.ag [D.bool p2, D.sl l2, D.bool q2, D.sl m2],
 A.ag [D.bool p4, D.sl l4, D.bool q4, D.sl m4]]
 [A.ag [D.bool b_19, D.sl es, D.bool b_20, D.sl es_28]] ∧
 ∃ es_29,
 Gv 65
 [A.c (D.sl es_25), A.ag [D.bool b_19, D.sl es, D.bool b_20, D.sl es_28]]
 [A.c (D.sl es_29)] ∧
 I0 []
 [D.int .i64 (IntKind.wrap .i64 (n + (1 : Int))),
 D.sl es_20, D.sl es_29] ∧
 M0
 [D.int .i64 (IntKind.wrap .i64 (n + (1 : Int))),
 D.sl es_20, D.sl es_29] <
 M0 [D.int .i64 n, D.sl es_1, D.sl es_2]))
 (I1 [] [D.int .i64 (1 : Int)] ∧
 ∀ (n : Int),
 I1 [] [D.int .i64 n] →
 br (toB (D.bool (decide (n < (Int.ofNat (List.length es_1))))))
 (I2 [D.int .i64 n] [D.int .i64 (1 : Int)] ∧
 ∀ (n_1 : Int),
 I2 [D.int .i64 n] [D.int .i64 n_1] →
 br (toB (D.bool (decide (n_1 < (Int.ofNat (List.length es_2))))))
 (((0 : Int) ≤ IntKind.wrap .i64 (n - (1 : Int)) ∧
 IntKind.wrap .i64 (n - (1 : Int)) < (Int.ofNat (List.length es_1)) ∧
 List.length (nth [] es_1 (Int.toNat (IntKind.wrap .i64 (n - (1 : Int))))) = 4) ∧
 ∃ b es_3 b_1 es_4,
 cut (nth [] es_1 (Int.toNat (IntKind.wrap .i64 (n - (1 : Int))))) 0 4
 [D.bool b, D.sl es_3, D.bool b_1, D.sl es_4] ∧
 ((0 : Int) ≤ n ∧ n < (Int.ofNat (List.length es_1)) ∧ List.length (nth [] es_1 (Int.toNat n)) = 4) ∧
 ∃ b_2 es_5 b_3 es_6,
 cut (nth [] es_1 (Int.toNat n)) 0 4 [D.bool b_2, D.sl es_5, D.bool b_3, D.sl es_6] ∧
 ∃ b_4 es_7 b_5 es_8,
 Gv 66
 [A.ag [D.bool b, D.sl es_3, D.bool b_1, D.sl es_4], A.ag [D.bool b_2, D.sl es_5, D.bool b_3, D.sl es_6]]
 [A.ag [D.bool b_4, D.sl es_7, D.bool b_5, D.sl es_8]] ∧
 ((0 : Int) ≤ IntKind.wrap .i64 (n_1 - (1 : Int)) ∧
 IntKind.wrap .i64 (n_1 - (1 : Int)) < (Int.ofNat (List.length es_2)) ∧
 List.length (nth [] es_2 (Int.toNat (IntKind.wrap .i64 (n_1 - (1 : Int))))) = 4) ∧
 ∃ b es_9 b_6 es_10,
 cut (nth [] es_2 (Int.toNat (IntKind.wrap .i64 (n_1 - (1 : Int))))) 0 4
 [D.bool b, D.sl es_9, D.bool b_6, D.sl es_10] ∧
 ((0 : Int) ≤ n_1 ∧ n_1 < (Int.ofNat (List.length es_2)) ∧ List.length (nth [] es_2 (Int.toNat n_1)) = 4) ∧
 ∃ b_7 es_11 b_8 es_12,
 cut (nth [] es_2 (Int.toNat n_1)) 0 4
 [D.bool b_7, D.sl es_11, D.bool b_8, D.sl es_12] ∧
 ∃ b_9 es_13 b_10 es_14,
 Gv 66
 [A.ag [D.bool b, D.sl es_9, D.bool b_6, D.sl es_10],
 A.ag [D.bool b_7, D.sl es_11, D.bool b_8, D.sl es_12]]
 [A.ag [D.bool b_9, D.sl es_13, D.bool b_10, D.sl es_14]] ∧
 I3 [D.int .i64 n, D.int .i64 n_1] [D.int .i64 (0 : Int), D.bool false] ∧
 ∀ (n_2 : Int) (b : Bool),
 I3 [D.int .i64 n, D.int .i64 n_1] [D.int .i64 n_2, D.bool b] →
 br (toB (D.bool (decide (n_2 < (Int.ofNat (List.length es))))))
 (br (toB (D.bool !b))
 (((0 : Int) ≤ n_2 ∧
 n_2 < (Int.ofNat (List.length es)) ∧ List.length (nth [] es (Int.toNat n_2)) = 16) ∧
 ∃ b_11 es_15 b_12 es_16 b_13 es_17 b_14 es_18 b_15 es_19 b_16 es_20 b_17 es_21 b_18
 es_22,
 cut (nth [] es (Int.toNat n_2)) 0 16
 [D.bool b_11, D.sl es_15, D.bool b_12, D.sl es_16, D.bool b_13, D.sl es_17,
 D.bool b_14, D.sl es_18, D.bool b_15, D.sl es_19, D.bool b_16, D.sl es_20,
 D.bool b_17, D.sl es_21, D.bool b_18, D.sl es_22] ∧
 ∃ b_19,
 Gv 67
 [A.ag
 [D.bool b_11, D.sl es_15, D.bool b_12, D.sl es_16, D.bool b_13,
 D.sl es_17, D.bool b_14, D.sl es_18, D.bool b_15, D.sl es_19,
 D.bool b_16, D.sl es_20, D.bool b_17, D.sl es_21, D.bool b_18,
 D.sl es_22],
 A.ag [D.bool b_4, D.sl es_7, D.bool b_5, D.sl es_8],
 A.ag [D.bool b_9, D.sl es_13, D.bool b_10, D.sl es_14]]
 [A.c (D.bool b_19)] ∧
 I3 [D.int .i64 n, D.int .i64 n_1]
 [D.int .i64 (IntKind.wrap .i64 (n_2 + (1 : Int))),
 D.bool b_19] ∧
 M3
 [D.int .i64 (IntKind.wrap .i64 (n_2 + (1 : Int))),
 D.bool b_19] <
 M3 [D.int .i64 n_2, D.bool b])
 (br (toB (D.bool !b)) (Q [A.c (D.bool false)])
 (I2 [D.int .i64 n]
 [D.int .i64 (IntKind.wrap .i64 (n_1 + (1 : Int)))] ∧
 M2 [D.int .i64 (IntKind.wrap .i64 (n_1 + (1 : Int)))] <
 M2 [D.int .i64 n_1])))
 (br (toB (D.bool !b)) (Q [A.c (D.bool false)])
 (I2 [D.int .i64 n]
 [D.int .i64 (IntKind.wrap .i64 (n_1 + (1 : Int)))] ∧
 M2 [D.int .i64 (IntKind.wrap .i64 (n_1 + (1 : Int)))] <
 M2 [D.int .i64 n_1])))
 (I1 [] [D.int .i64 (IntKind.wrap .i64 (n + (1 : Int)))] ∧
 M1 [D.int .i64 (IntKind.wrap .i64 (n + (1 : Int)))] < M1 [D.int .i64 n]))
 (Q [A.c (D.bool true)]))))) := by kernel_rfl
end Eng
end

section
namespace Eng
open Go Go.Proofs
set_option maxRecDepth 100000
def putP (a : Rat) : List Rat → List Rat
 | [] => [a]
 | x :: r => if x < a then x :: putP a r else if x = a then x :: r else a :: x :: r
theorem putP_eq {a : Rat} : ∀ {rs : List Rat} {k : Nat}, k ≤ rs.length → (∀ j (hj : j < rs.length), j < k → rs[j] < a) → (∀ hk : k < rs.length, ¬ rs[k] < a) →
 putP a rs = if ∃ hk : k < rs.length, rs[k] = a then rs else rs.take k ++ [a] ++ rs.drop k
 | [], k, hk, _, _ => by
  have : k = 0 := by simpa using hk
  subst this
  simp [putP]
 | x :: r, k, hk, h1, h2 => by
  cases k with
  | zero =>
   have h3 : ¬ x < a := h2 (by simp)
   unfold putP
   rw [if_neg h3]
   by_cases h4 : x = a
   ·rw [if_pos h4, if_pos ⟨by simp, h4⟩]
   ·rw [if_neg h4, if_neg (fun ⟨_, h⟩ => h4 h)]; rfl
  | succ k =>
   have h3 : x < a := h1 0 (by simp) (by omega)
   have ih := putP_eq (a := a) (rs := r) (k := k) (by simpa using hk) (fun j hj hjk => h1 (j + 1) (by simpa using hj) (by omega)) (fun hk => h2 (by simpa using hk))
   unfold putP
   rw [if_pos h3, ih]
   by_cases h4 : ∃ hk : k < r.length, r[k] = a
   ·have h5 : ∃ hk : k + 1 < (x :: r).length, (x :: r)[k + 1] = a := by
     obtain ⟨q1, q2⟩ := h4
     exact ⟨by simpa using q1, by simpa using q2⟩
    rw [if_pos h4, if_pos h5]
   ·have h5 : ¬ ∃ hk : k + 1 < (x :: r).length, (x :: r)[k + 1] = a := fun ⟨q1, q2⟩ => h4 ⟨by simpa using q1, by simpa using q2⟩
    rw [if_neg h4, if_neg h5]; rfl
theorem cmpR_e0 {x y : Rat} : cmpR x y = 0 ↔ x = y := by
 unfold cmpR
 split
 ·rename_i h; simp only [reduceCtorEq, false_iff, Int.reduceNeg]; grind
 ·split <;> grind
theorem eput_ok {a : Rat} {rs : List Rat} (ha : Sr a) (hr : ∀ y ∈ rs, Sr y) (hl : rs.length ≤ 1000000) : Gives CC 65 [.c (.sl (rats rs)), encR a] [.c (.sl (rats (putP a rs)))] := by
 refine wpF_ok (anns := fun _ => ⟨[.slot 5 (.int .i64 0)], [], fun _ ds => ∃ k : Nat, k ≤ rs.length ∧ ds = [.int .i64 (k : Int)] ∧ ∀ j (hj : j < rs.length), j < k → rs[j] < a, fun ds => (rs.length - toI (nth .undef ds 0)).toNat⟩) mixedT Tryz.func65 ?_
 have hcell : ∀ k (hk : k < rs.length), cut (nth [] (rats rs) k) 0 4 (cR rs[k]) := fun k hk => by rw [nth_rats hk]; exact cut_all rfl
 have hrow : ∀ k (hk : k < rs.length), (nth [] (rats rs) k).length = 4 := fun k hk => by rw [nth_rats hk]; rfl
 have hcmp : ∀ k (hk : k < rs.length), Gives CC 55 [encR rs[k], encR a] [.c (.int .i64 (cmpR rs[k] a))] := fun k hk => uCmp_ok (hr _ (List.getElem_mem hk)) ha
 have fin : ∀ k, k ≤ rs.length → rats (rs.take k ++ [a] ++ rs.drop k) = [] ++ ((rats rs).take k).drop 0 ++ [cR a] ++ ((rats rs).take rs.length).drop k := fun k hk => by
  have e1 : (rats rs).take rs.length = rats rs := by rw [← rats_length rs, List.take_length]
  rw [e1]
  simp [rats, List.map_take, List.map_drop]
 have hlt : ∀ k, lens 4 (((rats rs).take k).drop 0) := fun k e he => lens_rats rs e (List.mem_of_mem_take (List.mem_of_mem_drop he))
 have hld : ∀ k, lens 4 (((rats rs).take rs.length).drop k) := fun k e he => lens_rats rs e (List.mem_of_mem_take (List.mem_of_mem_drop he))
 have h1a : lens 4 [cR a] := fun e he => by
  simp only [List.mem_cons, List.not_mem_nil, or_false] at he
  rw [he]; rfl
 rw [encR_cells a, vc_eput]
 simp only [Int.ofNat_eq_natCast, rats_length]
 refine ⟨⟨0, by omega, rfl, by omega⟩, ?_⟩
 rintro n ⟨k, hk, he, hT⟩
 simp only [List.cons.injEq, D.int.injEq, true_and, and_true] at he
 subst he
 simp only [Int.toNat_natCast]
 have hend : ∀ (Q : Prop), Q → ((0 : Int) ≤ 0 ∧ 0 ≤ (k : Int) ∧ (k : Int) ≤ (rs.length : Int) ∧ lens 4 (rats rs)) ∧ (room (0 + (((rats rs).take k).drop 0).length) ∧ lens 4 (((rats rs).take k).drop 0)) ∧
  (room (([] ++ ((rats rs).take k).drop 0).length + 1) ∧ lens 4 [cR a]) ∧ (0 ≤ (k : Int) ∧ (k : Int) ≤ (rs.length : Int) ∧ (rs.length : Int) ≤ (rs.length : Int) ∧ lens 4 (rats rs)) ∧
  (room (([] ++ ((rats rs).take k).drop 0 ++ [cR a]).length + (((rats rs).take rs.length).drop k).length) ∧ lens 4 (((rats rs).take rs.length).drop k)) ∧ Q := fun Q hq => by
  refine ⟨⟨by omega, by omega, by omega, lens_rats rs⟩, ⟨?_, hlt k⟩, ⟨?_, h1a⟩, ⟨by omega, by omega, by omega, lens_rats rs⟩, ⟨?_, hld k⟩, hq⟩
  all_goals
   unfold room
   simp only [List.length_append, List.length_drop, List.length_take, rats_length, List.length_cons, List.length_nil]
   omega
 have hstop : (∀ hk : k < rs.length, ¬ rs[k] < a) → (¬ ∃ hk : k < rs.length, rs[k] = a) → rats (putP a rs) = [] ++ ((rats rs).take k).drop 0 ++ [cR a] ++ ((rats rs).take rs.length).drop k := fun q1 q2 => by
  rw [putP_eq hk hT q1, if_neg q2, fin k hk]
 refine brd (fun h => ?_) (fun h => brd (fun h' => absurd h' h) (fun _ => ?_))
 rotate_left
 ·refine hend _ ?_
  rw [hstop (fun hk => absurd hk (by omega)) (fun ⟨hk, _⟩ => absurd hk (by omega))]; rfl
 have hkl : k < rs.length := by omega
 have hw : IntKind.wrap .i64 ((k : Int) + 1) = ((k + 1 : Nat) : Int) := by rw [i64w (by omega) (by omega)]; omega
 rw [hw]
 refine ⟨⟨by omega, by omega, hrow k hkl⟩, _, _, _, _, hcell k hkl, _, hcmp k hkl, brd (fun h2 => ?_) (fun h2 => brd (fun _ => ?_) (fun h' => absurd h h'))⟩
 ·rw [cmpR_lt] at h2
  refine ⟨⟨k + 1, by omega, rfl, fun j hj hjk => ?_⟩, by simp only [nth, toI]; omega⟩
  rcases Nat.lt_or_ge j k with h3 | h3
  ·exact hT j hj h3
  ·have : j = k := by omega
   subst this; exact h2
 rw [cmpR_lt] at h2
 refine ⟨⟨by omega, by omega, hrow k hkl⟩, _, _, _, _, hcell k hkl, _, hcmp k hkl, brb (fun h3 => ?_) (fun h3 => ?_)⟩
 ·have h3 : rs[k] = a := cmpR_e0.1 (by simpa using h3)
  rw [putP_eq hk hT (fun _ => h2), if_pos ⟨hkl, h3⟩]
 ·have h3 : ¬ rs[k] = a := fun e => by
   have := cmpR_e0.2 e
   rw [this] at h3; simp at h3
  refine hend _ ?_
  rw [hstop (fun _ => h2) (fun ⟨_, e⟩ => h3 e)]; rfl
instance inB_dec (b : Bx) (x y : Rat) : Decidable (inB b x y) := by unfold inB; exact inferInstance
theorem cmpR_le {x y : Rat} : cmpR x y ≤ 0 ↔ x ≤ y := by
 have := @cmpR_gt x y
 grind
theorem ehas_ok {B : Bx} {x y : Rat} (hb : B.sr) (hx : Sr x) (hy : Sr y) : Gives CC 67 [.ag B.cs, encR x, encR y] [.c (.bool (decide (inB B x y)))] := by
 have h1 := uCmp_ok hb.1 hx
 have h2 := uCmp_ok hx hb.2.2.1
 have h3 := uCmp_ok hb.2.1 hy
 have h4 := uCmp_ok hy hb.2.2.2
 refine wpF_ok (anns := fun _ => ⟨[], [], fun _ _ => True, fun _ => 0⟩) mixedT Tryz.func67 ?_
 have e0 : A.ag B.cs = encB B.x0 B.y0 B.x1 B.y1 := rfl
 rw [e0, encB_cells, encR_cells x, encR_cells y, vc_ehas]
 refine ⟨_, h1, brd (fun k1 => ⟨_, h2, brd (fun k2 => ⟨_, h3, brd (fun k3 => ⟨_, h4, ?_⟩) (fun k3 => ?_)⟩) (fun k2 => ?_)⟩) (fun k1 => ?_)⟩
 ·rw [cmpR_le] at k1 k2 k3
  have : decide (cmpR y B.y1 ≤ 0) = decide (inB B x y) := decide_eq_decide.2 ⟨fun h => ⟨k1, k2, k3, cmpR_le.1 h⟩, fun h => cmpR_le.2 h.2.2.2⟩
  rw [this]
 ·rw [cmpR_le] at k3
  rw [decide_eq_false (fun h : inB B x y => k3 h.2.2.1)]
 ·rw [cmpR_le] at k2
  rw [decide_eq_false (fun h : inB B x y => k2 h.2.1)]
 ·rw [cmpR_le] at k1
  rw [decide_eq_false (fun h : inB B x y => k1 h.1)]
end Eng
end

section
namespace Eng
open Go Go.Proofs
theorem putP_mem {a y : Rat} : ∀ {rs : List Rat}, y ∈ putP a rs ↔ y = a ∨ y ∈ rs
 | [] => by simp [putP]
 | x :: r => by
  unfold putP
  split
  ·simp only [List.mem_cons, putP_mem (rs := r)]; grind
  ·split
   ·rename_i h; subst h; simp
   ·simp
theorem putP_sorted {a : Rat} : ∀ {rs : List Rat}, rs.Pairwise (· < ·) → (putP a rs).Pairwise (· < ·)
 | [], _ => by simp [putP]
 | x :: r, h => by
  rw [List.pairwise_cons] at h
  unfold putP
  split
  ·rename_i hx
   rw [List.pairwise_cons]
   refine ⟨fun y hy => ?_, putP_sorted h.2⟩
   rcases putP_mem.1 hy with rfl | hy
   ·exact hx
   ·exact h.1 y hy
  ·split
   ·rw [List.pairwise_cons]; exact h
   ·rename_i h1 h2
    have h3 : a < x := by grind
    rw [List.pairwise_cons, List.pairwise_cons]
    refine ⟨fun y hy => ?_, h⟩
    rcases List.mem_cons.1 hy with rfl | hy
    ·exact h3
    ·have := h.1 y hy; grind
theorem putP_len {a : Rat} : ∀ {rs : List Rat}, rs.length ≤ (putP a rs).length ∧ (putP a rs).length ≤ rs.length + 1
 | [] => by simp [putP]
 | x :: r => by
  unfold putP
  split
  ·have := putP_len (a := a) (rs := r)
   simp only [List.length_cons]; omega
  ·split
   ·simp
   ·simp
def sidesC (lo hi : Rat) (f g : Bx → Rat) (l : List Bx) : List Rat := l.foldl (fun xs c => putP (clR (g c) lo hi) (putP (clR (f c) lo hi) xs)) [lo, hi]
theorem sidesC_snoc (lo hi : Rat) (f g : Bx → Rat) (l : List Bx) (c : Bx) : sidesC lo hi f g (l ++ [c]) = putP (clR (g c) lo hi) (putP (clR (f c) lo hi) (sidesC lo hi f g l)) := by
 simp [sidesC]
theorem sidesC_all {lo hi : Rat} (f g : Bx → Rat) (P : List Rat → List Bx → Prop) (h0 : P [lo, hi] []) (hs : ∀ xs l c, P xs l → P (putP (clR (g c) lo hi) (putP (clR (f c) lo hi) xs)) (l ++ [c])) : ∀ l, P (sidesC lo hi f g l) l := by
 intro l
 have key : ∀ (r pre : List Bx), P (sidesC lo hi f g pre) pre → P (sidesC lo hi f g (pre ++ r)) (pre ++ r) := by
  intro r
  induction r with
  | nil => intro pre hp; simpa using hp
  | cons c r ih =>
   intro pre hp
   have h1 := hs _ _ c hp
   rw [← sidesC_snoc] at h1
   have h2 := ih _ h1
   simpa using h2
 exact key l [] h0
theorem sidesC_sorted {lo hi : Rat} (h : lo < hi) (f g : Bx → Rat) (l : List Bx) : (sidesC lo hi f g l).Pairwise (· < ·) :=
 sidesC_all f g (fun xs _ => xs.Pairwise (· < ·)) (by simpa using h) (fun _ _ _ hp => putP_sorted (putP_sorted hp)) l
theorem sidesC_len {lo hi : Rat} (f g : Bx → Rat) (l : List Bx) : 2 ≤ (sidesC lo hi f g l).length ∧ (sidesC lo hi f g l).length ≤ 2 + 2 * l.length :=
 sidesC_all f g (fun xs l => 2 ≤ xs.length ∧ xs.length ≤ 2 + 2 * l.length) (by simp) (fun xs l c hp => by
  have h1 := putP_len (a := clR (f c) lo hi) (rs := xs)
  have h2 := putP_len (a := clR (g c) lo hi) (rs := putP (clR (f c) lo hi) xs)
  rw [List.length_append]; simp only [List.length_cons, List.length_nil]; omega) l
theorem clR_in {x lo hi : Rat} (h : lo < hi) : lo ≤ clR x lo hi ∧ clR x lo hi ≤ hi := by
 unfold clR; split
 ·grind
 ·split <;> grind
theorem sidesC_mem {lo hi : Rat} (h : lo < hi) (f g : Bx → Rat) (l : List Bx) : (lo ∈ sidesC lo hi f g l ∧ hi ∈ sidesC lo hi f g l) ∧ (∀ y ∈ sidesC lo hi f g l, lo ≤ y ∧ y ≤ hi) ∧ ∀ c ∈ l, clR (f c) lo hi ∈ sidesC lo hi f g l ∧ clR (g c) lo hi ∈ sidesC lo hi f g l :=
 sidesC_all f g (fun xs l => (lo ∈ xs ∧ hi ∈ xs) ∧ (∀ y ∈ xs, lo ≤ y ∧ y ≤ hi) ∧ ∀ c ∈ l, clR (f c) lo hi ∈ xs ∧ clR (g c) lo hi ∈ xs)
  ⟨by simp, by simp; grind, by simp⟩ (fun xs l c ⟨⟨p1, p2⟩, p3, p4⟩ => by
   refine ⟨⟨putP_mem.2 (.inr (putP_mem.2 (.inr p1))), putP_mem.2 (.inr (putP_mem.2 (.inr p2)))⟩, fun y hy => ?_, fun d hd => ?_⟩
   ·rcases putP_mem.1 hy with rfl | hy
    ·exact clR_in h
    ·rcases putP_mem.1 hy with rfl | hy
     ·exact clR_in h
     ·exact p3 y hy
   ·rcases List.mem_append.1 hd with hd | hd
    ·obtain ⟨q1, q2⟩ := p4 d hd
     exact ⟨putP_mem.2 (.inr (putP_mem.2 (.inr q1))), putP_mem.2 (.inr (putP_mem.2 (.inr q2)))⟩
    ·have : d = c := by simpa using hd
     subst this
     exact ⟨putP_mem.2 (.inr (putP_mem.2 (.inl rfl))), putP_mem.2 (.inl rfl)⟩) l
theorem locC {x : Rat} : ∀ {xs : List Rat}, xs.Pairwise (· < ·) → 2 ≤ xs.length → (∃ p ∈ xs, p ≤ x) → (∃ q ∈ xs, x ≤ q) → ∃ i, ∃ hi : i + 1 < xs.length, xs[i] ≤ x ∧ x ≤ xs[i + 1]
 | [], _, h, _, _ => by simp at h
 | [_], _, h, _, _ => by simp at h
 | a :: b :: r, hp, _, ⟨p, hpm, hpx⟩, ⟨q, hqm, hqx⟩ => by
  rw [List.pairwise_cons] at hp
  have hab : a < b := hp.1 b (by simp)
  have ha : a ≤ x := by
   rcases List.mem_cons.1 hpm with rfl | hpm
   ·exact hpx
   ·have := hp.1 p hpm; grind
  by_cases hb : x ≤ b
  ·exact ⟨0, by simp, ha, hb⟩
  ·have hq : q ∈ b :: r := by
    rcases List.mem_cons.1 hqm with rfl | hqm
    ·grind
    ·exact hqm
   have hr : 2 ≤ (b :: r).length := by
    cases r with
    | nil =>
     have : q = b := by simpa using hq
     subst this; exact absurd hqx hb
    | cons => simp
   obtain ⟨i, hi, h1, h2⟩ := locC hp.2 hr ⟨b, by simp, by grind⟩ ⟨q, hq, hqx⟩
   exact ⟨i + 1, by simpa using hi, by simpa using h1, by simpa using h2⟩
theorem gap {xs : List Rat} (hp : xs.Pairwise (· < ·)) {i : Nat} (hi : i + 1 < xs.length) {m : Rat} (hm : m ∈ xs) : m ≤ xs[i] ∨ xs[i + 1] ≤ m := by
 obtain ⟨j, hj, rfl⟩ := List.getElem_of_mem hm
 rw [List.pairwise_iff_getElem] at hp
 rcases Nat.lt_trichotomy j i with h | h | h
 ·have := hp j i hj (by omega) h; left; grind
 ·subst h; left; grind
 ·rcases Nat.lt_or_ge (i + 1) j with h1 | h1
  ·have := hp (i + 1) j hi hj h1; right; grind
  ·have : j = i + 1 := by omega
   subst this; right; grind
theorem cell_lt {xs : List Rat} (hp : xs.Pairwise (· < ·)) {i : Nat} (hi : i + 1 < xs.length) : xs[i] < xs[i + 1] := by
 rw [List.pairwise_iff_getElem] at hp
 exact hp i (i + 1) (by omega) hi (by omega)
theorem side_lo {s lo hi u v m : Rat} (h1 : lo ≤ u) (h2 : v ≤ hi) (_ : u < m) (hv : m < v) (hs : s ≤ m) (hg : clR s lo hi ≤ u ∨ v ≤ clR s lo hi) : s ≤ u := by
 unfold clR at hg
 split at hg
 ·grind
 ·split at hg <;> grind
theorem side_hi {s lo hi u v m : Rat} (h1 : lo ≤ u) (h2 : v ≤ hi) (hm : u < m) (_ : m < v) (hs : m ≤ s) (hg : clR s lo hi ≤ u ∨ v ≤ clR s lo hi) : v ≤ s := by
 unfold clR at hg
 split at hg
 ·grind
 ·split at hg <;> grind
def xsC (b : Bx) (l : List Bx) : List Rat := sidesC b.x0 b.x1 Bx.x0 Bx.x1 l
def ysC (b : Bx) (l : List Bx) : List Rat := sidesC b.y0 b.y1 Bx.y0 Bx.y1 l
def RefC (b : Bx) (l : List Bx) : Prop := ∀ i (hi : i + 1 < (xsC b l).length) k (hk : k + 1 < (ysC b l).length), ∃ c ∈ l, inB c (mdR (xsC b l)[i] (xsC b l)[i + 1]) (mdR (ysC b l)[k] (ysC b l)[k + 1])
theorem refC_iff {b : Bx} {l : List Bx} (hb : b.x0 < b.x1 ∧ b.y0 < b.y1) : RefC b l ↔ Cov b l := by
 have sx := sidesC_sorted hb.1 Bx.x0 Bx.x1 l
 have sy := sidesC_sorted hb.2 Bx.y0 Bx.y1 l
 obtain ⟨mx, ix, cx⟩ := sidesC_mem hb.1 Bx.x0 Bx.x1 l
 obtain ⟨my, iy, cy⟩ := sidesC_mem hb.2 Bx.y0 Bx.y1 l
 have lx := (sidesC_len (lo := b.x0) (hi := b.x1) Bx.x0 Bx.x1 l).1
 have ly := (sidesC_len (lo := b.y0) (hi := b.y1) Bx.y0 Bx.y1 l).1
 unfold RefC xsC ysC
 constructor
 ·rintro h x y ⟨h1, h2, h3, h4⟩
  obtain ⟨i, hi, a1, a2⟩ := locC sx lx ⟨_, mx.1, h1⟩ ⟨_, mx.2, h2⟩
  obtain ⟨k, hk, b1, b2⟩ := locC sy ly ⟨_, my.1, h3⟩ ⟨_, my.2, h4⟩
  obtain ⟨c, hc, c1, c2, c3, c4⟩ := h i hi k hk
  refine ⟨c, hc, ?_⟩
  have e1 := mdR_mid (cell_lt sx hi)
  have e2 := mdR_mid (cell_lt sy hk)
  have i1 := ix _ (List.getElem_mem (show i < _ by omega))
  have i2 := ix _ (List.getElem_mem hi)
  have j1 := iy _ (List.getElem_mem (show k < _ by omega))
  have j2 := iy _ (List.getElem_mem hk)
  have g1 := side_lo i1.1 i2.2 e1.1 e1.2 c1 (gap sx hi (cx c hc).1)
  have g2 := side_hi i1.1 i2.2 e1.1 e1.2 c2 (gap sx hi (cx c hc).2)
  have g3 := side_lo j1.1 j2.2 e2.1 e2.2 c3 (gap sy hk (cy c hc).1)
  have g4 := side_hi j1.1 j2.2 e2.1 e2.2 c4 (gap sy hk (cy c hc).2)
  exact ⟨by grind, by grind, by grind, by grind⟩
 ·intro h i hi k hk
  have e1 := mdR_mid (cell_lt sx hi)
  have e2 := mdR_mid (cell_lt sy hk)
  have i1 := ix _ (List.getElem_mem (show i < _ by exact Nat.lt_of_succ_lt hi))
  have i2 := ix _ (List.getElem_mem hi)
  have j1 := iy _ (List.getElem_mem (show k < _ by exact Nat.lt_of_succ_lt hk))
  have j2 := iy _ (List.getElem_mem hk)
  exact h _ _ ⟨by grind, by grind, by grind, by grind⟩
end Eng
end

section
namespace Eng
open Go Go.Proofs
set_option maxRecDepth 100000
theorem sidesC_sz {lo hi : Rat} (h1 : Sz 18 lo) (h2 : Sz 18 hi) (f g : Bx → Rat) (l : List Bx) : (∀ c ∈ l, Sz 18 (f c) ∧ Sz 18 (g c)) → ∀ y ∈ sidesC lo hi f g l, Sz 18 y :=
 sidesC_all f g (fun xs l => (∀ c ∈ l, Sz 18 (f c) ∧ Sz 18 (g c)) → ∀ y ∈ xs, Sz 18 y)
  (fun _ y hy => by
   simp only [List.mem_cons, List.not_mem_nil, or_false] at hy
   rcases hy with rfl | rfl
   ·exact h1
   ·exact h2) (fun xs l c hp hc y hy => by
   have h3 := hc c (by simp)
   rcases putP_mem.1 hy with rfl | hy
   ·exact h3.2.cl h1 h2
   ·rcases putP_mem.1 hy with rfl | hy
    ·exact h3.1.cl h1 h2
    ·exact hp (fun d hd => hc d (by simp [hd])) y hy) l
def midC (xs : List Rat) (i : Nat) : Rat := mdR (xs.getD i 0) (xs.getD (i + 1) 0)
def goodC (B : Bx) (L : List Bx) (i k : Nat) : Prop := ∃ c ∈ L, inB c (midC (xsC B L) i) (midC (ysC B L) k)
theorem refC_good {B : Bx} {L : List Bx} : RefC B L ↔ ∀ i, i + 1 < (xsC B L).length → ∀ k, k + 1 < (ysC B L).length → goodC B L i k := by
 have e : ∀ (xs : List Rat) i (h : i + 1 < xs.length), midC xs i = mdR xs[i] xs[i + 1] := fun xs i h => by
  unfold midC
  simp [List.getD_eq_getElem?_getD, h, show i < xs.length by omega]
 constructor
 ·intro h i hi k hk
  unfold goodC
  rw [e _ _ hi, e _ _ hk]
  exact h i hi k hk
 ·intro h i hi k hk
  have := h i hi k hk
  unfold goodC at this
  rw [e _ _ hi, e _ _ hk] at this
  exact this
def Rb.few (x : Rb) : Prop := x.a.few ∧ x.b.few ∧ x.c.few ∧ x.d.few
theorem Rb.sz18 {x : Rb} (h : x.few) (ho : x.ok = true) : x.cs = x.bx.cs ∧ x.bx.sz 18 ∧ x.bx.x0 < x.bx.x1 ∧ x.bx.y0 < x.bx.y1 := by
 obtain ⟨f1, f2, f3, f4⟩ := h
 have hb := bx_cs ho ⟨f1.mid, f2.mid, f3.mid, f4.mid⟩
 simp only [Rb.ok, okB, Bool.and_eq_true, decide_eq_true_eq] at ho
 obtain ⟨o1, o2, o3, o4, hlt⟩ := ho
 exact ⟨hb.1, ⟨(Rw.val_ok o1 f1).2, (Rw.val_ok o2 f2).2, (Rw.val_ok o3 f3).2, (Rw.val_ok o4 f4).2⟩, hlt⟩
end Eng
end

section
namespace Eng
open Go Go.Proofs
set_option maxRecDepth 100000
theorem cut_bx (c : Bx) : cut c.cs 0 4 (cR c.x0) ∧ cut c.cs 4 4 (cR c.y0) ∧ cut c.cs 8 4 (cR c.x1) ∧ cut c.cs 12 4 (cR c.y1) :=
 ⟨⟨rfl, Nat.le_of_ble_eq_true rfl⟩, ⟨rfl, Nat.le_of_ble_eq_true rfl⟩, ⟨rfl, Nat.le_of_ble_eq_true rfl⟩, ⟨rfl, Nat.le_of_ble_eq_true rfl⟩⟩
theorem eCover_ok {b : Rb} {l : List Rb} (hb : b.few) (hl : ∀ x ∈ l, x.few) (hn : l.length ≤ 1000) :
 Gives CC 19 [.ag b.cs, .c (.sl (rbs l))] [.c (.bool (b.ok && (l.all Rb.ok && coverP b.bx (l.map Rb.bx))))] := by
 have g32 : ∀ x : Rb, x.few → Gives CC 32 [.ag x.cs] [.c (.bool x.ok)] := fun x h => eValid_ok h.1 h.2.1 h.2.2.1 h.2.2.2
 cases ho : b.ok with
 | false =>
  refine wpF_ok (anns := ann4 ⟨[.slot 7 (.int .i64 0), .slot 5 (.slice none 0 0), .slot 6 (.slice none 0 0)], [], fun _ _ => False, fun _ => 0⟩ ⟨[.slot 8 (.int .i64 0)], [], fun _ _ => False, fun _ => 0⟩
   ⟨[.slot 9 (.int .i64 0)], [.slot 8 (.int .i64 0)], fun _ _ => False, fun _ => 0⟩ ⟨[.slot 13 (.int .i64 0), .slot 12 (.bool false)], [.slot 8 (.int .i64 0), .slot 9 (.int .i64 0)], fun _ _ => False, fun _ => 0⟩) mixedT Tryz.func19 ?_
  have h := g32 b hb
  rw [ho] at h
  rw [Rb.cs_eq] at h ⊢
  rw [vc_eCover]
  exact ⟨_, h, brb (fun _ => rfl) (fun h => by simp at h)⟩
 | true =>
  obtain ⟨ecs, hz, hlt⟩ := Rb.sz18 hb ho
  have g0 := g32 b hb
  rw [ho] at g0
  rw [ecs] at g0 ⊢
  have hR1 : ∀ k (hk : k < l.length), l[k].ok = false → (true && (l.all Rb.ok && coverP b.bx (l.map Rb.bx))) = false := fun k hk h => by
   have : l.all Rb.ok = false := by
    rw [List.all_eq_false]
    exact ⟨l[k], List.getElem_mem hk, by rw [h]; simp⟩
   rw [this]; rfl
  have hR2 : l.all Rb.ok = true → ((true && (l.all Rb.ok && coverP b.bx (l.map Rb.bx))) = true ↔ RefC b.bx (l.map Rb.bx)) := fun h => by
   rw [h, Bool.true_and, Bool.true_and, coverP_iff hlt (by simpa using hn), refC_iff hlt]
  generalize (true && (l.all Rb.ok && coverP b.bx (l.map Rb.bx))) = R at hR1 hR2 ⊢
  generalize b.bx = B at *
  generalize hL : l.map Rb.bx = L at *
  have hLl : L.length = l.length := by rw [← hL]; simp
  refine wpF_ok (anns := ann4
   ⟨[.slot 7 (.int .i64 0), .slot 5 (.slice none 0 0), .slot 6 (.slice none 0 0)], [], fun _ ds => ∃ k : Nat, k ≤ l.length ∧ ds = [.int .i64 (k : Int), .sl (rats (xsC B (L.take k))), .sl (rats (ysC B (L.take k)))] ∧ ∀ j (hj : j < l.length), j < k → l[j].ok = true, fun ds => (l.length - toI (nth .undef ds 0)).toNat⟩
   ⟨[.slot 8 (.int .i64 0)], [], fun _ ds => ∃ i : Nat, i + 1 ≤ (xsC B L).length ∧ ds = [.int .i64 ((i + 1 : Nat) : Int)] ∧ ∀ i', i' < i → ∀ k, k + 1 < (ysC B L).length → goodC B L i' k, fun ds => ((xsC B L).length - toI (nth .undef ds 0)).toNat⟩
   ⟨[.slot 9 (.int .i64 0)], [.slot 8 (.int .i64 0)], fun gs ds => ∃ i k : Nat, k + 1 ≤ (ysC B L).length ∧ gs = [.int .i64 ((i + 1 : Nat) : Int)] ∧ ds = [.int .i64 ((k + 1 : Nat) : Int)] ∧ ∀ k', k' < k → goodC B L i k', fun ds => ((ysC B L).length - toI (nth .undef ds 0)).toNat⟩
   ⟨[.slot 13 (.int .i64 0), .slot 12 (.bool false)], [.slot 8 (.int .i64 0), .slot 9 (.int .i64 0)], fun gs ds => ∃ (i k m : Nat) (f : Bool), m ≤ l.length ∧ gs = [.int .i64 ((i + 1 : Nat) : Int), .int .i64 ((k + 1 : Nat) : Int)] ∧ ds = [.int .i64 (m : Int), .bool f] ∧
     (f = true → goodC B L i k) ∧ (f = false → ∀ j (hj : j < L.length), j < m → ¬ inB L[j] (midC (xsC B L) i) (midC (ysC B L) k)), fun ds => (l.length - toI (nth .undef ds 0)).toNat⟩) mixedT Tryz.func19 ?_
  rw [enc_bx, encB_cells, vc_eCover]
  simp only [Int.ofNat_eq_natCast, rbs_length]
  refine ⟨_, g0, brb (fun h => by simp at h) (fun _ => brd (fun h => absurd h (by omega)) (fun _ => ⟨⟨0, by omega, rfl, by omega⟩, ?_⟩))⟩
  have hLk : ∀ k (hk : k < l.length), L[k]'(by omega) = l[k].bx := fun k hk => by subst hL; simp
  have hsz : ∀ k, (∀ j (hj : j < l.length), j < k → l[j].ok = true) → ∀ c ∈ L.take k, c.sz 18 := fun k hT c hc => by
   obtain ⟨j, hj, rfl⟩ := List.getElem_of_mem hc
   rw [List.length_take] at hj
   rw [List.getElem_take, hLk j (by omega)]
   exact (Rb.sz18 (hl _ (List.getElem_mem (show j < l.length by omega))) (hT j (by omega) (by omega))).2.1
  have hxs : ∀ M : List Bx, (∀ c ∈ M, c.sz 18) → (∀ y ∈ xsC B M, Sz 18 y) ∧ ∀ y ∈ ysC B M, Sz 18 y := fun M h =>
   ⟨sidesC_sz hz.1 hz.2.2.1 Bx.x0 Bx.x1 M fun c hc => ⟨(h c hc).1, (h c hc).2.2.1⟩, sidesC_sz hz.2.1 hz.2.2.2 Bx.y0 Bx.y1 M fun c hc => ⟨(h c hc).2.1, (h c hc).2.2.2⟩⟩
  have hlen : ∀ M : List Bx, M.length ≤ 1000 → (xsC B M).length ≤ 2002 ∧ (ysC B M).length ≤ 2002 := fun M h => by
   have h1 := (sidesC_len (lo := B.x0) (hi := B.x1) Bx.x0 Bx.x1 M).2
   have h2 := (sidesC_len (lo := B.y0) (hi := B.y1) Bx.y0 Bx.y1 M).2
   unfold xsC ysC; omega
  rintro n e1 e2 ⟨k, hk, he, hT⟩
  simp only [List.cons.injEq, D.int.injEq, D.sl.injEq, true_and, and_true] at he
  obtain ⟨rfl, rfl, rfl⟩ := he
  refine brd (fun h => ?_) (fun h => ?_)
  ·-- one more box
   have hkl : k < l.length := by omega
   have hw : IntKind.wrap .i64 ((k : Int) + 1) = ((k + 1 : Nat) : Int) := by rw [i64w (by omega) (by omega)]; omega
   rw [hw, Int.toNat_natCast, nth_rbs hkl]
   have hfew := hl _ (List.getElem_mem hkl)
   refine ⟨⟨by omega, by omega, rfl⟩, _, _, _, _, _, _, _, _, _, _, _, _, _, _, _, _, cut_all (l := l[k].cs) rfl, _, g32 _ hfew, brb (fun h2 => ?_) (fun h2 => ?_)⟩
   ·rw [hR1 k hkl (by simpa using h2)]
   ·have h2 : l[k].ok = true := by simpa using h2
    obtain ⟨kcs, kz, klt⟩ := Rb.sz18 hfew h2
    rw [kcs]
    obtain ⟨u1, u2, u3, u4⟩ := cut_bx l[k].bx
    have hs18 := hsz k hT
    obtain ⟨sx, sy⟩ := hxs _ hs18
    obtain ⟨n1, n2⟩ := hlen (L.take k) (by rw [List.length_take]; omega)
    have c1 := kz.1.cl hz.1 hz.2.2.1
    have c2 := kz.2.2.1.cl hz.1 hz.2.2.1
    have c3 := kz.2.1.cl hz.2.1 hz.2.2.2
    have c4 := kz.2.2.2.cl hz.2.1 hz.2.2.2
    have a1 := eclamp_ok (kz.1.sr (by omega)) (hz.1.sr (by omega)) (hz.2.2.1.sr (by omega))
    have a2 := eput_ok (c1.sr (by omega)) (fun y hy => (sx y hy).sr (by omega)) (by omega)
    have a3 := eclamp_ok (kz.2.2.1.sr (by omega)) (hz.1.sr (by omega)) (hz.2.2.1.sr (by omega))
    have sx2 : ∀ y ∈ putP (clR l[k].bx.x0 B.x0 B.x1) (xsC B (L.take k)), Sz 18 y := fun y hy => by
     rcases putP_mem.1 hy with rfl | hy
     ·exact c1
     ·exact sx y hy
    have a4 := eput_ok (c2.sr (by omega)) (fun y hy => (sx2 y hy).sr (by omega)) (by have := (putP_len (a := clR l[k].bx.x0 B.x0 B.x1) (rs := xsC B (L.take k))).2; omega)
    have a5 := eclamp_ok (kz.2.1.sr (by omega)) (hz.2.1.sr (by omega)) (hz.2.2.2.sr (by omega))
    have a6 := eput_ok (c3.sr (by omega)) (fun y hy => (sy y hy).sr (by omega)) (by omega)
    have a7 := eclamp_ok (kz.2.2.2.sr (by omega)) (hz.2.1.sr (by omega)) (hz.2.2.2.sr (by omega))
    have sy2 : ∀ y ∈ putP (clR l[k].bx.y0 B.y0 B.y1) (ysC B (L.take k)), Sz 18 y := fun y hy => by
     rcases putP_mem.1 hy with rfl | hy
     ·exact c3
     ·exact sy y hy
    have a8 := eput_ok (c4.sr (by omega)) (fun y hy => (sy2 y hy).sr (by omega)) (by have := (putP_len (a := clR l[k].bx.y0 B.y0 B.y1) (rs := ysC B (L.take k))).2; omega)
    have et : L.take (k + 1) = L.take k ++ [l[k].bx] := by
     rw [List.take_succ_eq_append_getElem (show k < L.length by omega), hLk k hkl]
    have ex : xsC B (L.take (k + 1)) = putP (clR l[k].bx.x1 B.x0 B.x1) (putP (clR l[k].bx.x0 B.x0 B.x1) (xsC B (L.take k))) := by rw [et]; exact sidesC_snoc ..
    have ey : ysC B (L.take (k + 1)) = putP (clR l[k].bx.y1 B.y0 B.y1) (putP (clR l[k].bx.y0 B.y0 B.y1) (ysC B (L.take k))) := by rw [et]; exact sidesC_snoc ..
    refine ⟨⟨by omega, by omega, rfl⟩, _, _, _, _, u1, _, _, _, _, a1, _, a2, ⟨by omega, by omega, rfl⟩, _, _, _, _, u3, _, _, _, _, a3, _, a4, ⟨by omega, by omega, rfl⟩, _, _, _, _, u2, _, _, _, _, a5, _, a6, ⟨by omega, by omega, rfl⟩, _, _, _, _, u4, _, _, _, _, a7, _, a8,
     ⟨k + 1, by omega, by rw [ex, ey], fun j hj hjk => ?_⟩, by simp only [nth, toI]; omega⟩
    rcases Nat.lt_or_ge j k with h3 | h3
    ·exact hT j hj h3
    ·have : j = k := by omega
     subst this; exact h2
  ·-- the cells
   have hkl : k = l.length := by omega
   subst hkl
   have hall : l.all Rb.ok = true := by
    rw [List.all_eq_true]
    intro x hx
    obtain ⟨j, hj, rfl⟩ := List.getElem_of_mem hx
    exact hT j hj hj
   have hR2 := hR2 hall
   rw [refC_good] at hR2
   have htk : L.take l.length = L := by rw [← hLl, List.take_length]
   have hs18 := hsz l.length hT
   rw [htk] at hs18 ⊢
   obtain ⟨sx, sy⟩ := hxs _ hs18
   obtain ⟨n1, n2⟩ := hlen L (by omega)
   have m1 := (sidesC_len (lo := B.x0) (hi := B.x1) Bx.x0 Bx.x1 L).1
   have m2 := (sidesC_len (lo := B.y0) (hi := B.y1) Bx.y0 Bx.y1 L).1
   have m1 : 2 ≤ (xsC B L).length := m1
   have m2 : 2 ≤ (ysC B L).length := m2
   simp only [rats_length]
   refine ⟨⟨0, by omega, rfl, by omega⟩, ?_⟩
   rintro n ⟨i, hi, he, hG⟩
   simp only [List.cons.injEq, D.int.injEq, true_and, and_true] at he
   subst he
   have hwi : IntKind.wrap .i64 (((i + 1 : Nat) : Int) + 1) = ((i + 1 + 1 : Nat) : Int) := by rw [i64w (by omega) (by omega)]; omega
   have hwi' : IntKind.wrap .i64 (((i + 1 : Nat) : Int) - 1) = (i : Int) := by rw [i64w (by omega) (by omega)]; omega
   rw [hwi, hwi']
   refine brd (fun h1 => ⟨⟨i, 0, by omega, rfl, rfl, by omega⟩, ?_⟩) (fun h1 => ?_)
   rotate_left
   ·have : R = true := hR2.2 fun i' hi' k' hk' => hG i' (by omega) k' hk'
    rw [this]
   rintro n ⟨i', k, hk, hg, he, hG2⟩
   simp only [List.cons.injEq, D.int.injEq, true_and, and_true] at hg he
   have hii : i' = i := by omega
   subst hii he
   have hwk : IntKind.wrap .i64 (((k + 1 : Nat) : Int) + 1) = ((k + 1 + 1 : Nat) : Int) := by rw [i64w (by omega) (by omega)]; omega
   have hwk' : IntKind.wrap .i64 (((k + 1 : Nat) : Int) - 1) = (k : Int) := by rw [i64w (by omega) (by omega)]; omega
   rw [hwk, hwk']
   simp only [Int.toNat_natCast]
   refine brd (fun h2 => ?_) (fun h2 => ?_)
   rotate_left
   ·refine ⟨⟨i' + 1, by omega, rfl, fun j hj k' hk' => ?_⟩, by simp only [nth, toI]; omega⟩
    rcases Nat.lt_or_ge j i' with h3 | h3
    ·exact hG j h3 k' hk'
    ·have : j = i' := by omega
     subst this; exact hG2 k' (by omega)
   have hix : i' + 1 < (xsC B L).length := by omega
   have hky : k + 1 < (ysC B L).length := by omega
   have hcell : ∀ (rs : List Rat) j (hj : j < rs.length), cut (nth [] (rats rs) j) 0 4 (cR (rs.getD j 0)) := fun rs j hj => by
    rw [nth_rats hj]
    have : rs.getD j 0 = rs[j] := by simp [List.getD_eq_getElem?_getD, hj]
    rw [this]; exact cut_all rfl
   have hrow : ∀ (rs : List Rat) j (hj : j < rs.length), (nth [] (rats rs) j).length = 4 := fun rs j hj => by rw [nth_rats hj]; rfl
   have hgd : ∀ (rs : List Rat), (∀ y ∈ rs, Sz 18 y) → ∀ j, j < rs.length → Sz 18 (rs.getD j 0) := fun rs h j hj => by
    have : rs.getD j 0 = rs[j] := by simp [List.getD_eq_getElem?_getD, hj]
    rw [this]; exact h _ (List.getElem_mem hj)
   have zx := hgd _ sx i' (by omega)
   have zx' := hgd _ sx (i' + 1) hix
   have zy := hgd _ sy k (by omega)
   have zy' := hgd _ sy (k + 1) hky
   have b1 := emiddle_ok zx zx'
   have b2 := emiddle_ok zy zy'
   have zmx : Sz 74 (midC (xsC B L) i') := zx.md zx'
   have zmy : Sz 74 (midC (ysC B L) k) := zy.md zy'
   have b1 : Gives CC 66 [encR ((xsC B L).getD i' 0), encR ((xsC B L).getD (i' + 1) 0)] [encR (midC (xsC B L) i')] := b1
   have b2 : Gives CC 66 [encR ((ysC B L).getD k 0), encR ((ysC B L).getD (k + 1) 0)] [encR (midC (ysC B L) k)] := b2
   refine ⟨⟨by omega, by omega, hrow _ _ (by omega)⟩, _, _, _, _, hcell _ i' (by omega), ⟨by omega, by omega, hrow _ _ hix⟩, _, _, _, _, hcell _ (i' + 1) hix, _, _, _, _, b1, ⟨by omega, by omega, hrow _ _ (by omega)⟩, _, _, _, _, hcell _ k (by omega),
    ⟨by omega, by omega, hrow _ _ hky⟩, _, _, _, _, hcell _ (k + 1) hky, _, _, _, _, b2, ⟨i', k, 0, false, by omega, rfl, rfl, by simp, by omega⟩, ?_⟩
   rintro n f ⟨i2, k2, m, f', hm, hg, he, hf1, hf2⟩
   simp only [List.cons.injEq, D.int.injEq, D.bool.injEq, true_and, and_true] at hg he
   obtain ⟨rfl, rfl⟩ := he
   have hi2 : i2 = i' := by omega
   have hk2 : k2 = k := by omega
   subst hi2 hk2
   have hno : f = false → m = l.length → R = false := fun e1 e2 => by
    cases hRR : R with
    | false => rfl
    | true =>
     obtain ⟨c, hc, hin⟩ := hR2.1 hRR i2 hix k2 hky
     obtain ⟨j, hj, rfl⟩ := List.getElem_of_mem hc
     exact absurd hin (hf2 e1 j hj (by omega))
   have hgo : f = true → ∀ k', k' < k2 + 1 → goodC B L i2 k' := fun e1 k' hk' => by
    rcases Nat.lt_or_ge k' k2 with h3 | h3
    ·exact hG2 k' h3
    ·have : k' = k2 := by omega
     subst this; exact hf1 e1
   refine brd (fun h3 => ?_) (fun h3 => ?_)
   ·cases f with
    | true =>
     refine brb (fun h => by simp at h) (fun _ => brb (fun h => by simp at h) (fun _ => ⟨⟨i2, k2 + 1, by omega, rfl, rfl, hgo rfl⟩, by simp only [nth, toI]; omega⟩))
    | false =>
     have hml : m < l.length := by omega
     have hwm : IntKind.wrap .i64 ((m : Int) + 1) = ((m + 1 : Nat) : Int) := by rw [i64w (by omega) (by omega)]; omega
     rw [hwm, Int.toNat_natCast, nth_rbs hml]
     obtain ⟨kcs, kz, klt⟩ := Rb.sz18 (hl _ (List.getElem_mem hml)) (hT m hml hml)
     have hh := ehas_ok (B := l[m].bx) ⟨kz.1.sr (by omega), kz.2.1.sr (by omega), kz.2.2.1.sr (by omega), kz.2.2.2.sr (by omega)⟩ (zmx.sr (by omega)) (zmy.sr (by omega))
     rw [kcs]
     refine brb (fun _ => ⟨⟨by omega, by omega, rfl⟩, _, _, _, _, _, _, _, _, _, _, _, _, _, _, _, _, cut_all (l := l[m].bx.cs) rfl, _, hh, ⟨i2, k2, m + 1, _, by omega, rfl, rfl, fun h => ?_, fun h j hj hjm => ?_⟩, by simp only [nth, toI]; omega⟩) (fun h => by simp at h)
     ·refine ⟨l[m].bx, ?_, of_decide_eq_true h⟩
      rw [← hLk m hml]; exact List.getElem_mem _
     ·rcases Nat.lt_or_ge j m with h4 | h4
      ·exact hf2 rfl j hj h4
      ·have : j = m := by omega
       subst this
       rw [hLk j hml]; exact of_decide_eq_false h
   ·cases f with
    | true => exact brb (fun h => by simp at h) (fun _ => ⟨⟨i2, k2 + 1, by omega, rfl, rfl, hgo rfl⟩, by simp only [nth, toI]; omega⟩)
    | false =>
     refine brb (fun _ => ?_) (fun h => by simp at h)
     rw [hno rfl (by omega)]
end Eng
end
