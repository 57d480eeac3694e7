/- Contexts for the law CoverQuarter: cloning boxes and deleting one as calls that turn arrays. -/
import Derived.Test.YtkkodaemmgpgfaaGreatDoorCvC
import Derived.Test.YtkkodaemmgpgfaaGreatDoorCvF
import Derived.Test.YtkkodaemmgpgfaaGreatDoorDelA
import Derived.KernelRfl
section
namespace Eng
open Go Go.Proofs
noncomputable def CQx (c1 : Ck1) (m1 : Mk1) (c2 : Ck2) (m2 : Mk2) : Cx :=
 CX [(18, effCl c1 16 m1), (33, effCo 16 c2 m2)]
end Eng
end

section
open Go Go.Proofs Eng
set_option maxRecDepth 1000000
namespace Eng
theorem vc_emiddle (Gv : Nat → List A → List A → Prop) (p1 q1 p2 q2 : Bool) (l1 m1 l2 m2 : List (List D)) (Q : List A → Prop) :
 wpF CC Gv (fun _ => ⟨[], [], fun _ _ => True, fun _ => 0⟩) Tryz.f66 [.ag [.bool p1, .sl l1, .bool q1, .sl m1], .ag [.bool p2, .sl l2, .bool q2, .sl m2]] Q = (
 ∃ b es b_1 es_1,
 Gv 23 [A.ag [D.bool p1, D.sl l1, D.bool q1, D.sl m1], A.ag [D.bool p2, D.sl l2, D.bool q2, D.sl m2]]
 [A.ag [D.bool b, D.sl es, D.bool b_1, D.sl es_1]] ∧
 ∃ b_2 es_2 b_3 es_3,
 Gv 69 [A.c (D.int .i64 (1 : Int)), A.c (D.int .i64 (2 : Int))] [A.ag [D.bool b_2, D.sl es_2, D.bool b_3, D.sl es_3]] ∧
 ∃ b_4 es_4 b_5 es_5,
 Gv 112 [A.ag [D.bool b, D.sl es, D.bool b_1, D.sl es_1], A.ag [D.bool b_2, D.sl es_2, D.bool b_3, D.sl es_3]]
 [A.ag [D.bool b_4, D.sl es_4, D.bool b_5, D.sl es_5]] ∧
 Q [A.ag [D.bool b_4, D.sl es_4, D.bool b_5, D.sl es_5]]) := by kernel_rfl
theorem vc_ccenter (Gv : Nat → List A → List A → Prop) (p1 q1 p2 q2 p3 q3 p4 q4 : Bool) (l1 m1 l2 m2 l3 m3 l4 m4 : List (List D)) (Q : List A → Prop) :
 wpF CC Gv (fun _ => ⟨[], [], fun _ _ => True, fun _ => 0⟩) Tryz.f82 [.ag [.bool p1, .sl l1, .bool q1, .sl m1, .bool p2, .sl l2, .bool q2, .sl m2, .bool p3, .sl l3, .bool q3, .sl m3, .bool p4, .sl l4, .bool q4, .sl m4]] Q = (
 ∃ b es b_1 es_1,
 Gv 136 [A.c (D.int .i64 (1 : Int)), A.c (D.int .i64 (2 : Int))] [A.ag [D.bool b, D.sl es, D.bool b_1, D.sl es_1]] ∧
 ∃ b_2 es_2 b_3 es_3,
 Gv 107 [A.ag [D.bool p1, D.sl l1, D.bool q1, D.sl m1], A.ag [D.bool p3, D.sl l3, D.bool q3, D.sl m3]]
 [A.ag [D.bool b_2, D.sl es_2, D.bool b_3, D.sl es_3]] ∧
 ∃ b_4 es_4 b_5 es_5,
 Gv 109 [A.ag [D.bool b_2, D.sl es_2, D.bool b_3, D.sl es_3], A.ag [D.bool b, D.sl es, D.bool b_1, D.sl es_1]]
 [A.ag [D.bool b_4, D.sl es_4, D.bool b_5, D.sl es_5]] ∧
 ∃ b_6 es_6 b_7 es_7,
 Gv 107 [A.ag [D.bool p2, D.sl l2, D.bool q2, D.sl m2], A.ag [D.bool p4, D.sl l4, D.bool q4, D.sl m4]]
 [A.ag [D.bool b_6, D.sl es_6, D.bool b_7, D.sl es_7]] ∧
 ∃ b_8 es_8 b_9 es_9,
 Gv 109 [A.ag [D.bool b_6, D.sl es_6, D.bool b_7, D.sl es_7], A.ag [D.bool b, D.sl es, D.bool b_1, D.sl es_1]]
 [A.ag [D.bool b_8, D.sl es_8, D.bool b_9, D.sl es_9]] ∧
 Q [A.ag [D.bool b_4, D.sl es_4, D.bool b_5, D.sl es_5, D.bool b_8, D.sl es_8, D.bool b_9, D.sl es_9]]) := by kernel_rfl
theorem vc_cQuarter (Gv : Nat → List A → List A → Prop) (p1 q1 p2 q2 p3 q3 p4 q4 : Bool) (l1 m1 l2 m2 l3 m3 l4 m4 : List (List D)) (Q : List A → Prop) :
 wpF CC Gv (fun _ => ⟨[], [], fun _ _ => True, fun _ => 0⟩) Tryz.f28 [.ag [.bool p1, .sl l1, .bool q1, .sl m1, .bool p2, .sl l2, .bool q2, .sl m2, .bool p3, .sl l3, .bool q3, .sl m3, .bool p4, .sl l4, .bool q4, .sl m4]] Q = (
 ∃ b,
 Gv 46
 [A.ag
 [D.bool p1, D.sl l1, D.bool q1, D.sl m1, D.bool p2, D.sl l2, D.bool q2, D.sl m2, D.bool p3, D.sl l3, D.bool q3, D.sl m3, D.bool p4, D.sl l4,
 D.bool q4, D.sl m4]]
 [A.c (D.bool b)] ∧
 br (toB (D.bool !b)) (Q [A.c (D.sl [])])
 (∃ b es b_1 es_1 b_2 es_2 b_3 es_3,
 Gv 82
 [A.ag
 [D.bool p1, D.sl l1, D.bool q1, D.sl m1, D.bool p2, D.sl l2, D.bool q2, D.sl m2, D.bool p3, D.sl l3, D.bool q3, D.sl m3, D.bool p4, D.sl l4,
 D.bool q4, D.sl m4]]
 [A.ag [D.bool b, D.sl es, D.bool b_1, D.sl es_1, D.bool b_2, D.sl es_2, D.bool b_3, D.sl es_3]] ∧
 Q
 [A.c
 (D.sl
 [[D.bool p1, D.sl l1, D.bool q1, D.sl m1, D.bool p2, D.sl l2, D.bool q2, D.sl m2, D.bool b, D.sl es, D.bool b_1, D.sl es_1, D.bool b_2,
 D.sl es_2, D.bool b_3, D.sl es_3],
 [D.bool b, D.sl es, D.bool b_1, D.sl es_1, D.bool p2, D.sl l2, D.bool q2, D.sl m2, D.bool p3, D.sl l3, D.bool q3, D.sl m3, D.bool b_2,
 D.sl es_2, D.bool b_3, D.sl es_3],
 [D.bool p1, D.sl l1, D.bool q1, D.sl m1, D.bool b_2, D.sl es_2, D.bool b_3, D.sl es_3, D.bool b, D.sl es, D.bool b_1, D.sl es_1, D.bool p4,
 D.sl l4, D.bool q4, D.sl m4],
 [D.bool b, D.sl es, D.bool b_1, D.sl es_1, D.bool b_2, D.sl es_2, D.bool b_3, D.sl es_3, D.bool p3, D.sl l3, D.bool q3, D.sl m3, D.bool p4,
 D.sl l4, D.bool q4, D.sl m4]])])) := by kernel_rfl
theorem vc_eQuarter (Gv : Nat → List A → List A → Prop) (p1 q1 p2 q2 p3 q3 p4 q4 : Bool) (l1 m1 l2 m2 l3 m3 l4 m4 : List (List D)) (Q : List A → Prop) :
 wpF CC Gv (fun _ => ⟨[], [], fun _ _ => True, fun _ => 0⟩) Tryz.f30 [.ag [.bool p1, .sl l1, .bool q1, .sl m1, .bool p2, .sl l2, .bool q2, .sl m2, .bool p3, .sl l3, .bool q3, .sl m3, .bool p4, .sl l4, .bool q4, .sl m4]] Q = (
 ∃ b,
 Gv 32
 [A.ag
 [D.bool p1, D.sl l1, D.bool q1, D.sl m1, D.bool p2, D.sl l2, D.bool q2, D.sl m2, D.bool p3, D.sl l3, D.bool q3, D.sl m3, D.bool p4, D.sl l4,
 D.bool q4, D.sl m4]]
 [A.c (D.bool b)] ∧
 br (toB (D.bool !b)) (Q [A.c (D.sl [])])
 (∃ b es b_1 es_1,
 Gv 66 [A.ag [D.bool p1, D.sl l1, D.bool q1, D.sl m1], A.ag [D.bool p3, D.sl l3, D.bool q3, D.sl m3]]
 [A.ag [D.bool b, D.sl es, D.bool b_1, D.sl es_1]] ∧
 ∃ b_2 es_2 b_3 es_3,
 Gv 66 [A.ag [D.bool p2, D.sl l2, D.bool q2, D.sl m2], A.ag [D.bool p4, D.sl l4, D.bool q4, D.sl m4]]
 [A.ag [D.bool b_2, D.sl es_2, D.bool b_3, D.sl es_3]] ∧
 Q
 [A.c
 (D.sl
 [[D.bool p1, D.sl l1, D.bool q1, D.sl m1, D.bool p2, D.sl l2, D.bool q2, D.sl m2, D.bool b, D.sl es, D.bool b_1, D.sl es_1, D.bool b_2,
 D.sl es_2, D.bool b_3, D.sl es_3],
 [D.bool b, D.sl es, D.bool b_1, D.sl es_1, D.bool p2, D.sl l2, D.bool q2, D.sl m2, D.bool p3, D.sl l3, D.bool q3, D.sl m3, D.bool b_2,
 D.sl es_2, D.bool b_3, D.sl es_3],
 [D.bool p1, D.sl l1, D.bool q1, D.sl m1, D.bool b_2, D.sl es_2, D.bool b_3, D.sl es_3, D.bool b, D.sl es, D.bool b_1, D.sl es_1,
 D.bool p4, D.sl l4, D.bool q4, D.sl m4],
 [D.bool b, D.sl es, D.bool b_1, D.sl es_1, D.bool b_2, D.sl es_2, D.bool b_3, D.sl es_3, D.bool p3, D.sl l3, D.bool q3, D.sl m3,
 D.bool p4, D.sl l4, D.bool q4, D.sl m4]])])) := by kernel_rfl
theorem vc_uSame (Gv : Nat → List A → List A → Prop) (p1 q1 p2 q2 : Bool) (l1 m1 l2 m2 : List (List D)) (Q : List A → Prop) :
 wpF CC Gv (fun _ => ⟨[], [], fun _ _ => True, fun _ => 0⟩) Tryz.f83 [.ag [.bool p1, .sl l1, .bool q1, .sl m1], .ag [.bool p2, .sl l2, .bool q2, .sl m2]] Q = (
 ∃ b,
 Gv 101 [A.ag [D.bool p1, D.sl l1], A.ag [D.bool p2, D.sl l2]] [A.c (D.bool b)] ∧
 br b (∃ b, Gv 101 [A.ag [D.bool q1, D.sl m1], A.ag [D.bool q2, D.sl m2]] [A.c (D.bool b)] ∧ Q [A.c (D.bool b)]) (Q [A.c (D.bool false)])) := by kernel_rfl
theorem vc_eSameBox (Gv : Nat → List A → List A → Prop) (p1 q1 p2 q2 p3 q3 p4 q4 p5 q5 p6 q6 p7 q7 p8 q8 : Bool) (l1 m1 l2 m2 l3 m3 l4 m4 l5 m5 l6 m6 l7 m7 l8 m8 : List (List D)) (Q : List A → Prop) :
 wpF CC Gv (fun _ => ⟨[], [], fun _ _ => True, fun _ => 0⟩) Tryz.f31 [.ag [.bool p1, .sl l1, .bool q1, .sl m1, .bool p2, .sl l2, .bool q2, .sl m2, .bool p3, .sl l3, .bool q3, .sl m3, .bool p4, .sl l4, .bool q4, .sl m4], .ag [.bool p5, .sl l5, .bool q5, .sl m5, .bool p6, .sl l6, .bool q6, .sl m6, .bool p7, .sl l7, .bool q7, .sl m7, .bool p8, .sl l8, .bool q8, .sl m8]] Q = (
 ∃ b,
 Gv 83 [A.ag [D.bool p1, D.sl l1, D.bool q1, D.sl m1], A.ag [D.bool p5, D.sl l5, D.bool q5, D.sl m5]] [A.c (D.bool b)] ∧
 br b
 (∃ b,
 Gv 83 [A.ag [D.bool p2, D.sl l2, D.bool q2, D.sl m2], A.ag [D.bool p6, D.sl l6, D.bool q6, D.sl m6]] [A.c (D.bool b)] ∧
 br b
 (∃ b,
 Gv 83 [A.ag [D.bool p3, D.sl l3, D.bool q3, D.sl m3], A.ag [D.bool p7, D.sl l7, D.bool q7, D.sl m7]] [A.c (D.bool b)] ∧
 br b
 (∃ b,
 Gv 83 [A.ag [D.bool p4, D.sl l4, D.bool q4, D.sl m4], A.ag [D.bool p8, D.sl l8, D.bool q8, D.sl m8]] [A.c (D.bool b)] ∧
 Q [A.c (D.bool b)])
 (Q [A.c (D.bool false)]))
 (Q [A.c (D.bool false)]))
 (Q [A.c (D.bool false)])) := by kernel_rfl
theorem vc_equalF (Gv : Nat → List A → List A → Prop) (I0 : List D → List D → Prop) (M0 : List D → Nat) (es fs : List (List D)) (Q : List A → Prop) :
 wpF CC Gv (fun _ => ⟨[.slot 17 (.int .i64 0)], [], I0, M0⟩) Tryz.f29 [.c (.sl es), .c (.sl fs), .c (.fn 31)] Q = (
 br (toB (D.bool ((Int.ofNat (List.length es)) != (Int.ofNat (List.length fs))))) (Q [A.c (D.bool false)])
 (I0 [] [D.int .i64 (0 : Int)] ∧
 ∀ (n : Int),
 I0 [] [D.int .i64 n] →
 br (toB (D.bool (decide (n < (Int.ofNat (List.length es))))))
 (((0 : Int) ≤ n ∧ n < (Int.ofNat (List.length es)) ∧ List.length (nth [] es (Int.toNat n)) = 16) ∧
 ∃ b es_1 b_1 es_2 b_2 es_3 b_3 es_4 b_4 es_5 b_5 es_6 b_6 es_7 b_7 es_8,
 cut (nth [] es (Int.toNat n)) 0 16
 [D.bool b, D.sl es_1, D.bool b_1, D.sl es_2, D.bool b_2, D.sl es_3, D.bool b_3, D.sl es_4, D.bool b_4, D.sl es_5, D.bool b_5, D.sl es_6,
 D.bool b_6, D.sl es_7, D.bool b_7, D.sl es_8] ∧
 ((0 : Int) ≤ n ∧ n < (Int.ofNat (List.length fs)) ∧ List.length (nth [] fs (Int.toNat n)) = 16) ∧
 ∃ b_8 es b_9 es_9 b_10 es_10 b_11 es_11 b_12 es_12 b_13 es_13 b_14 es_14 b_15 es_15,
 cut (nth [] fs (Int.toNat n)) 0 16
 [D.bool b_8, D.sl es, D.bool b_9, D.sl es_9, D.bool b_10, D.sl es_10, D.bool b_11, D.sl es_11, D.bool b_12, D.sl es_12, D.bool b_13,
 D.sl es_13, D.bool b_14, D.sl es_14, D.bool b_15, D.sl es_15] ∧
 ∃ b_16,
 Gv 31
 [A.ag
 [D.bool b, D.sl es_1, D.bool b_1, D.sl es_2, D.bool b_2, D.sl es_3, D.bool b_3, D.sl es_4, D.bool b_4, D.sl es_5, D.bool b_5,
 D.sl es_6, D.bool b_6, D.sl es_7, D.bool b_7, D.sl es_8],
 A.ag
 [D.bool b_8, D.sl es, D.bool b_9, D.sl es_9, D.bool b_10, D.sl es_10, D.bool b_11, D.sl es_11, D.bool b_12, D.sl es_12,
 D.bool b_13, D.sl es_13, D.bool b_14, D.sl es_14, D.bool b_15, D.sl es_15]]
 [A.c (D.bool b_16)] ∧
 br (toB (D.bool !b_16)) (Q [A.c (D.bool false)])
 (I0 [] [D.int .i64 (IntKind.wrap .i64 (n + (1 : Int)))] ∧
 M0 [D.int .i64 (IntKind.wrap .i64 (n + (1 : Int)))] < M0 [D.int .i64 n]))
 (Q [A.c (D.bool true)]))) := by kernel_rfl
theorem vc_cloneB (Gv : Nat → List A → List A → Prop) (es : List (List D)) (Q : Nat → List (List D) → Prop) :
 wpFc CC Gv (fun _ => ⟨[], [], fun _ _ => True, fun _ => 0⟩) Tryz.f18 [.c (.sl es)] none [] Q = (
 0 < List.length es ∧ (room (0 + List.length es) ∧ lens 16 es) ∧ es ≠ [] ∧ Q 16 es) := by kernel_rfl
end Eng
end

section
open Go Go.Proofs Eng
set_option maxRecDepth 1000000
namespace Eng
theorem vc_lQuarter (Gv : Nat → List A → List A → Prop) (ck : Ck1) (mk : Mk1) (cd : Ck2) (md : Mk2) (p1 q1 p2 q2 p3 q3 p4 q4 : Bool) (l1 m1 l2 m2 l3 m3 l4 m4 : List (List D)) (n : Int) (Q : List A → Prop) :
 wpF (CQx ck mk cd md) Gv (fun _ => ⟨[], [], fun _ _ => True, fun _ => 0⟩) Tryz.f6 [.ag [.bool p1, .sl l1, .bool q1, .sl m1, .bool p2, .sl l2, .bool q2, .sl m2, .bool p3, .sl l3, .bool q3, .sl m3, .bool p4, .sl l4, .bool q4, .sl m4], .c (.int .u8 n)] Q = (
 ∃ b,
 Gv 9 [] [A.c (D.bool b)] ∧
 br (toB (D.bool !b)) (∃ b, Gv 9 [] [A.c (D.bool b)] ∧ Q [A.c (D.bool b)])
 (∃ b,
 Gv 10
 [A.ag
 [D.bool p1, D.sl l1, D.bool q1, D.sl m1, D.bool p2, D.sl l2, D.bool q2, D.sl m2, D.bool p3, D.sl l3, D.bool q3, D.sl m3, D.bool p4, D.sl l4,
 D.bool q4, D.sl m4],
 A.c (D.int .i64 (2 : Int))]
 [A.c (D.bool b)] ∧
 br (toB (D.bool !b)) (∃ b, Gv 9 [] [A.c (D.bool b)] ∧ Q [A.c (D.bool b)])
 (∃ es,
 Gv 28
 [A.ag
 [D.bool p1, D.sl l1, D.bool q1, D.sl m1, D.bool p2, D.sl l2, D.bool q2, D.sl m2, D.bool p3, D.sl l3, D.bool q3, D.sl m3, D.bool p4,
 D.sl l4, D.bool q4, D.sl m4]]
 [A.c (D.sl es)] ∧
 ∃ es_1,
 Gv 30
 [A.ag
 [D.bool p1, D.sl l1, D.bool q1, D.sl m1, D.bool p2, D.sl l2, D.bool q2, D.sl m2, D.bool p3, D.sl l3, D.bool q3, D.sl m3, D.bool p4,
 D.sl l4, D.bool q4, D.sl m4]]
 [A.c (D.sl es_1)] ∧
 ∃ b,
 Gv 29 [A.c (D.sl es), A.c (D.sl es_1), A.c (D.fn 31)] [A.c (D.bool b)] ∧
 br (toB (D.bool !b)) (Q [A.c (D.bool false)])
 (∃ b,
 Gv 32
 [A.ag
 [D.bool p1, D.sl l1, D.bool q1, D.sl m1, D.bool p2, D.sl l2, D.bool q2, D.sl m2, D.bool p3, D.sl l3, D.bool q3, D.sl m3,
 D.bool p4, D.sl l4, D.bool q4, D.sl m4]]
 [A.c (D.bool b)] ∧
 br (toB (D.bool !b))
 (br (toB (D.bool ((Int.ofNat (List.length es)) == (0 : Int))))
 (∃ b,
 Gv 17
 [A.ag
 [D.bool p1, D.sl l1, D.bool q1, D.sl m1, D.bool p2, D.sl l2, D.bool q2, D.sl m2, D.bool p3, D.sl l3, D.bool q3,
 D.sl m3, D.bool p4, D.sl l4, D.bool q4, D.sl m4],
 A.c (D.sl es)]
 [A.c (D.bool b)] ∧
 Q [A.c (D.bool !b)])
 (Q [A.c (D.bool false)]))
 ((Int.ofNat (List.length es)) ≠ (0 : Int) ∧
 ck [A.c (D.sl es)] = true ∧
 ∃ b,
 Gv 17
 [A.ag
 [D.bool p1, D.sl l1, D.bool q1, D.sl m1, D.bool p2, D.sl l2, D.bool q2, D.sl m2, D.bool p3, D.sl l3, D.bool q3,
 D.sl m3, D.bool p4, D.sl l4, D.bool q4, D.sl m4],
 A.c (D.sl (mk [A.c (D.sl es)]))]
 [A.c (D.bool b)] ∧
 br b
 (ck [A.c (D.sl es)] = true ∧
 cd (mk [A.c (D.sl es)])
 [A.c (D.int .i64 (Int.tmod (IntKind.wrap .i64 n) (Int.ofNat (List.length es)))),
 A.c
 (D.int .i64
 (IntKind.wrap .i64 (Int.tmod (IntKind.wrap .i64 n) (Int.ofNat (List.length es)) + (1 : Int))))] =
 true ∧
 ∃ b,
 Gv 17
 [A.ag
 [D.bool p1, D.sl l1, D.bool q1, D.sl m1, D.bool p2, D.sl l2, D.bool q2, D.sl m2, D.bool p3, D.sl l3,
 D.bool q3, D.sl m3, D.bool p4, D.sl l4, D.bool q4, D.sl m4],
 A.c
 (D.sl
 (md (mk [A.c (D.sl es)])
 [A.c (D.int .i64 (Int.tmod (IntKind.wrap .i64 n) (Int.ofNat (List.length es)))),
 A.c
 (D.int .i64
 (IntKind.wrap .i64
 (Int.tmod (IntKind.wrap .i64 n) (Int.ofNat (List.length es)) + (1 : Int))))]))]
 [A.c (D.bool b)] ∧
 Q [A.c (D.bool !b)])
 (Q [A.c (D.bool false)])))))) := by kernel_rfl
end Eng
end

section
namespace Eng
open Go Go.Proofs
set_option maxRecDepth 100000
def halfR : Rat := ⟨1, 2, by decide, by decide⟩
theorem sz_half : Sz 1 halfR := ⟨by decide, by decide⟩
theorem rHalf_ok : Gives CC 136 [.c (.int .i64 1), .c (.int .i64 2)] [encR halfR] :=
 gives_cx (C := CV0) rfl rfl (runF_ok (C := CV0) mixedT tabU_okX 6 136 _ _ (show runF tabU CV0 1000 6 136 [.c (.int .i64 1), .c (.int .i64 2)] = some [encR halfR] by kernel_rfl))
theorem uHalf_ok : Gives CC 69 [.c (.int .i64 1), .c (.int .i64 2)] [encR halfR] :=
 gives_cx (C := CV0) rfl rfl (runF_ok (C := CV0) mixedT tabU_okX 6 69 _ _ (show runF tabU CV0 1000 6 69 [.c (.int .i64 1), .c (.int .i64 2)] = some [encR halfR] by kernel_rfl))
def mdR (x y : Rat) : Rat := (x + y) * halfR
theorem Sz.md {x y : Rat} (hx : Sz 18 x) (hy : Sz 18 y) : Sz 74 (mdR x y) := (hx.add hy).mul (sz_half.mono (by omega))
theorem emiddle_ok {x y : Rat} (hx : Sz 18 x) (hy : Sz 18 y) : Gives CC 66 [encR x, encR y] [encR (mdR x y)] := by
 have h1 := uAdd_ok partsOk (hx.sr (by omega)) (hy.sr (by omega))
 have h2 := uMul_ok partsOk ((hx.add hy).sr (by omega)) (sz_half.sr (by omega))
 refine wpF_ok (anns := fun _ => ⟨[], [], fun _ _ => True, fun _ => 0⟩) mixedT Tryz.func66 ?_
 rw [encR_cells x, encR_cells y, vc_emiddle]
 exact ⟨_, _, _, _, h1, _, _, _, _, uHalf_ok, _, _, _, _, h2, rfl⟩
theorem ccenter_ok {a b c d : Rat} (ha : Sz 18 a) (hb : Sz 18 b) (hc : Sz 18 c) (hd : Sz 18 d) : Gives CC 82 [encB a b c d] [encV ⟨mdR a c, mdR b d⟩] := by
 have h1 := rAdd_ok divOk (ha.sr (by omega)) (hc.sr (by omega))
 have h2 := rMul_ok divOk ((ha.add hc).sr (by omega)) (sz_half.sr (by omega))
 have h3 := rAdd_ok divOk (hb.sr (by omega)) (hd.sr (by omega))
 have h4 := rMul_ok divOk ((hb.add hd).sr (by omega)) (sz_half.sr (by omega))
 refine wpF_ok (anns := fun _ => ⟨[], [], fun _ _ => True, fun _ => 0⟩) mixedT Tryz.func82 ?_
 rw [encB_cells, vc_ccenter]
 exact ⟨_, _, _, _, rHalf_ok, _, _, _, _, h1, _, _, _, _, h2, _, _, _, _, h3, _, _, _, _, h4, rfl⟩
def qs (B : Bx) : List Bx :=
 [⟨B.x0, B.y0, mdR B.x0 B.x1, mdR B.y0 B.y1⟩, ⟨mdR B.x0 B.x1, B.y0, B.x1, mdR B.y0 B.y1⟩, ⟨B.x0, mdR B.y0 B.y1, mdR B.x0 B.x1, B.y1⟩, ⟨mdR B.x0 B.x1, mdR B.y0 B.y1, B.x1, B.y1⟩]
def Bx.sz (k : Nat) (B : Bx) : Prop := Sz k B.x0 ∧ Sz k B.y0 ∧ Sz k B.x1 ∧ Sz k B.y1
theorem enc_bx (B : Bx) : A.ag B.cs = encB B.x0 B.y0 B.x1 B.y1 := rfl
theorem qs_sz {B : Bx} (h : B.sz 18) : ∀ b ∈ qs B, b.sz 74 := by
 obtain ⟨h1, h2, h3, h4⟩ := h
 have hx := h1.md h3
 have hy := h2.md h4
 have m1 := h1.mono (m := 74) (by omega)
 have m2 := h2.mono (m := 74) (by omega)
 have m3 := h3.mono (m := 74) (by omega)
 have m4 := h4.mono (m := 74) (by omega)
 intro b hb
 simp only [qs, List.mem_cons, List.not_mem_nil, or_false] at hb
 rcases hb with rfl | rfl | rfl | rfl
 ·exact ⟨m1, m2, hx, hy⟩
 ·exact ⟨hx, m2, m3, hy⟩
 ·exact ⟨m1, hy, hx, m4⟩
 ·exact ⟨hx, hy, m3, m4⟩
theorem cQuarter_ok {B : Bx} (hz : B.sz 18) (h : Gives CC 46 [.ag B.cs] [.c (.bool true)]) : Gives CC 28 [.ag B.cs] [.c (.sl (bxs (qs B)))] := by
 have hc := ccenter_ok hz.1 hz.2.1 hz.2.2.1 hz.2.2.2
 refine wpF_ok (anns := fun _ => ⟨[], [], fun _ _ => True, fun _ => 0⟩) mixedT Tryz.func28 ?_
 rw [enc_bx, encB_cells, vc_cQuarter]
 exact ⟨_, h, brb (fun h => by simp at h) (fun _ => ⟨_, _, _, _, _, _, _, _, hc, rfl⟩)⟩
theorem eQuarter_ok {B : Bx} (hz : B.sz 18) (h : Gives CC 32 [.ag B.cs] [.c (.bool true)]) : Gives CC 30 [.ag B.cs] [.c (.sl (bxs (qs B)))] := by
 have hx := emiddle_ok hz.1 hz.2.2.1
 have hy := emiddle_ok hz.2.1 hz.2.2.2
 refine wpF_ok (anns := fun _ => ⟨[], [], fun _ _ => True, fun _ => 0⟩) mixedT Tryz.func30 ?_
 rw [enc_bx, encB_cells, vc_eQuarter]
 exact ⟨_, h, brb (fun h => by simp at h) (fun _ => ⟨_, _, _, _, hx, _, _, _, _, hy, rfl⟩)⟩
theorem cQuarter_no {b : Rb} (h : Gives CC 46 [.ag b.cs] [.c (.bool false)]) : Gives CC 28 [.ag b.cs] [.c (.sl [])] := by
 refine wpF_ok (anns := fun _ => ⟨[], [], fun _ _ => True, fun _ => 0⟩) mixedT Tryz.func28 ?_
 rw [Rb.cs_eq] at h ⊢
 rw [vc_cQuarter]
 exact ⟨_, h, brb (fun _ => rfl) (fun h => by simp at h)⟩
theorem eQuarter_no {b : Rb} (h : Gives CC 32 [.ag b.cs] [.c (.bool false)]) : Gives CC 30 [.ag b.cs] [.c (.sl [])] := by
 refine wpF_ok (anns := fun _ => ⟨[], [], fun _ _ => True, fun _ => 0⟩) mixedT Tryz.func30 ?_
 rw [Rb.cs_eq] at h ⊢
 rw [vc_eQuarter]
 exact ⟨_, h, brb (fun _ => rfl) (fun h => by simp at h)⟩
theorem qSame_self {x : Int} (hx : Sm x) : Gives CC 101 [encI x, encI x] [.c (.bool true)] := by
 have := qSame_ok hx hx
 rw [decide_eq_true rfl] at this; exact this
theorem uSame_self {x : Rat} (hx : Sr x) : Gives CC 83 [encR x, encR x] [.c (.bool true)] := by
 have h1 := qSame_self (x := x.num) (Sq.sm hx.1)
 have h2 := qSame_self (x := (x.den : Int)) (Sq.sm hx.2)
 refine wpF_ok (anns := fun _ => ⟨[], [], fun _ _ => True, fun _ => 0⟩) mixedT Tryz.func83 ?_
 rw [encR_cells x, vc_uSame]
 exact ⟨_, h1, brb' (fun _ => ⟨_, h2, rfl⟩) (fun h => by simp at h)⟩
theorem eSameBox_self {B : Bx} (h : B.sr) : Gives CC 31 [.ag B.cs, .ag B.cs] [.c (.bool true)] := by
 have h1 := uSame_self h.1
 have h2 := uSame_self h.2.1
 have h3 := uSame_self h.2.2.1
 have h4 := uSame_self h.2.2.2
 refine wpF_ok (anns := fun _ => ⟨[], [], fun _ _ => True, fun _ => 0⟩) mixedT Tryz.func31 ?_
 rw [enc_bx, encB_cells, vc_eSameBox]
 exact ⟨_, h1, brb' (fun _ => ⟨_, h2, brb' (fun _ => ⟨_, h3, brb' (fun _ => ⟨_, h4, rfl⟩) (fun h => by simp at h)⟩) (fun h => by simp at h)⟩) (fun h => by simp at h)⟩
theorem equalF_self {l : List Bx} (hl : l.length ≤ 1073741824) (h : ∀ b ∈ l, b.sr) : Gives CC 29 [.c (.sl (bxs l)), .c (.sl (bxs l)), .c (.fn 31)] [.c (.bool true)] := by
 refine wpF_ok (anns := fun _ => ⟨[.slot 17 (.int .i64 0)], [], fun _ ds => ∃ k : Nat, k ≤ l.length ∧ ds = [.int .i64 (k : Int)], fun ds => (l.length - toI (nth .undef ds 0)).toNat⟩) mixedT Tryz.func29 ?_
 rw [vc_equalF]
 simp only [Int.ofNat_eq_natCast, bxs_length]
 refine brb (fun h => by simp at h) (fun _ => ⟨⟨0, by omega, rfl⟩, ?_⟩)
 rintro n ⟨k, hk, he⟩
 simp only [List.cons.injEq, D.int.injEq, true_and, and_true] at he
 subst he
 refine brd (fun h1 => ?_) (fun _ => by trivial)
 have hkl : k < l.length := by omega
 have hw : IntKind.wrap .i64 ((k : Int) + 1) = ((k + 1 : Nat) : Int) := by rw [i64w (by omega) (by omega)]; omega
 rw [hw, Int.toNat_natCast, nth_bxs hkl]
 have hs := eSameBox_self (h _ (List.getElem_mem hkl))
 exact ⟨⟨by omega, by omega, rfl⟩, _, _, _, _, _, _, _, _, _, _, _, _, _, _, _, _, cut_all (l := l[k].cs) rfl, ⟨by omega, by omega, rfl⟩, _, _, _, _, _, _, _, _, _, _, _, _, _, _, _, _, cut_all (l := l[k].cs) rfl, _, hs,
  brb (fun h => by simp at h) (fun _ => ⟨⟨k + 1, by omega, rfl⟩, by simp only [nth, toI]; omega⟩)⟩
theorem lens_bxs (l : List Bx) : lens 16 (bxs l) := fun e he => by
 simp only [bxs, List.mem_map] at he
 obtain ⟨r, _, rfl⟩ := he
 rfl
theorem bxs_ne {l : List Bx} (h : l ≠ []) : bxs l ≠ [] := fun e => h (by simpa [bxs] using e)
theorem cloneB_ok {l : List Bx} (hne : l ≠ []) (hl : l.length ≤ 1073741824) : GivesC CC 18 [.c (.sl (bxs l))] none [] 16 (bxs l) := by
 have hcc : GivesC CC 18 [.c (.sl (bxs l))] none [] 16 (bxs l) := by
  refine wpFc_ok (C := CC) (anns := fun _ => ⟨[], [], fun _ _ => True, fun _ => 0⟩) mixedT Tryz.func18 ?_
  rw [vc_cloneB]
  refine ⟨?_, ⟨?_, lens_bxs l⟩, bxs_ne hne, rfl, rfl⟩
  ·rw [bxs_length]; exact List.length_pos_iff.2 hne
  ·unfold room; rw [bxs_length]; omega
 exact hcc
end Eng
end

section
namespace Eng
open Go Go.Proofs
theorem half_two : halfR + halfR = 1 := by decide +kernel
theorem mdR_mid {x y : Rat} (h : x < y) : x < mdR x y ∧ mdR x y < y := by
 have e := half_two
 have e2 : halfR = 1 / 2 := by grind
 unfold mdR
 rw [e2]
 constructor <;> grind
theorem qs_ok {B : Bx} (h : B.x0 < B.x1 ∧ B.y0 < B.y1) : ∀ b ∈ qs B, b.x0 < b.x1 ∧ b.y0 < b.y1 := by
 obtain ⟨x1, x2⟩ := mdR_mid h.1
 obtain ⟨y1, y2⟩ := mdR_mid h.2
 intro b hb
 simp only [qs, List.mem_cons, List.not_mem_nil, or_false] at hb
 rcases hb with rfl | rfl | rfl | rfl
 ·exact ⟨x1, y1⟩
 ·exact ⟨x2, y1⟩
 ·exact ⟨x1, y2⟩
 ·exact ⟨x2, y2⟩
theorem qs_cov (B : Bx) : Cov B (qs B) := by
 rintro x y ⟨h1, h2, h3, h4⟩
 generalize hx : mdR B.x0 B.x1 = u
 generalize hy : mdR B.y0 B.y1 = v
 have cx : x ≤ u ∨ u ≤ x := Rat.le_total
 have cy : y ≤ v ∨ v ≤ y := Rat.le_total
 rcases cx with cx | cx <;> rcases cy with cy | cy
 ·exact ⟨⟨B.x0, B.y0, u, v⟩, by simp [qs, hx, hy], h1, cx, h3, cy⟩
 ·exact ⟨⟨B.x0, v, u, B.y1⟩, by simp [qs, hx, hy], h1, cx, cy, h4⟩
 ·exact ⟨⟨u, B.y0, B.x1, v⟩, by simp [qs, hx, hy], cx, h2, h3, cy⟩
 ·exact ⟨⟨u, v, B.x1, B.y1⟩, by simp [qs, hx, hy], cx, h2, cy, h4⟩
theorem qs_less {B : Bx} (h : B.x0 < B.x1 ∧ B.y0 < B.y1) {i : Nat} (hi : i < 4) : ¬ Cov B ((qs B).take i ++ (qs B).drop (i + 1)) := by
 obtain ⟨x1, x2⟩ := mdR_mid h.1
 obtain ⟨y1, y2⟩ := mdR_mid h.2
 intro hc
 unfold qs at hc
 generalize mdR B.x0 B.x1 = u at *
 generalize mdR B.y0 B.y1 = v at *
 obtain ⟨a1, a2⟩ := mdR_mid x1
 obtain ⟨a3, a4⟩ := mdR_mid x2
 obtain ⟨b1, b2⟩ := mdR_mid y1
 obtain ⟨b3, b4⟩ := mdR_mid y2
 generalize mdR B.x0 u = p at *
 generalize mdR u B.x1 = p' at *
 generalize mdR B.y0 v = q at *
 generalize mdR v B.y1 = q' at *
 have hi4 : i = 0 ∨ i = 1 ∨ i = 2 ∨ i = 3 := by omega
 rcases hi4 with rfl | rfl | rfl | rfl
 ·obtain ⟨c, hm, c1, c2, c3, c4⟩ := hc p q ⟨by grind, by grind, by grind, by grind⟩
  simp only [List.take, List.drop, List.nil_append, List.mem_cons, List.not_mem_nil, or_false] at hm
  rcases hm with rfl | rfl | rfl <;> simp only at c1 c2 c3 c4 <;> grind
 ·obtain ⟨c, hm, c1, c2, c3, c4⟩ := hc p' q ⟨by grind, by grind, by grind, by grind⟩
  simp only [List.take, List.drop, List.nil_append, List.cons_append, List.mem_cons, List.not_mem_nil, or_false] at hm
  rcases hm with rfl | rfl | rfl <;> simp only at c1 c2 c3 c4 <;> grind
 ·obtain ⟨c, hm, c1, c2, c3, c4⟩ := hc p q' ⟨by grind, by grind, by grind, by grind⟩
  simp only [List.take, List.drop, List.nil_append, List.cons_append, List.mem_cons, List.not_mem_nil, or_false] at hm
  rcases hm with rfl | rfl | rfl <;> simp only at c1 c2 c3 c4 <;> grind
 ·obtain ⟨c, hm, c1, c2, c3, c4⟩ := hc p' q' ⟨by grind, by grind, by grind, by grind⟩
  simp only [List.take, List.drop, List.nil_append, List.cons_append, List.mem_cons, List.not_mem_nil, or_false] at hm
  rcases hm with rfl | rfl | rfl <;> simp only at c1 c2 c3 c4 <;> grind
end Eng
end
