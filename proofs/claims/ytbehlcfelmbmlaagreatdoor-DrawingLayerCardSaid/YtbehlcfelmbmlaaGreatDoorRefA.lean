/- The verification conditions of functions, printed by a program (vcgen.py) and checked by the kernel. -/
import Derived.Test.YtbehlcfelmbmlaaGreatDoorCtxB
import Derived.KernelRfl
section
open Go Go.Proofs Eng
set_option maxRecDepth 1000000
namespace Eng
theorem vc_qtrim (Gv : Nat → List A → List A → Prop) (I0 : List D → List D → Prop) (M0 : List D → Nat) (es : List (List D)) (Q : List A → Prop) :
 wpF CC Gv (fun _ => ⟨[.slot 0 (.slice none 0 0)], [], I0, M0⟩) Tryz.f224 [.c (.sl es)] Q = (
 I0 [] [D.sl es] ∧
 ∀ (es : List (List D)),
 I0 [] [D.sl es] →
 br (toB (D.bool (decide ((Int.ofNat (List.length es)) > (0 : Int)))))
 (((0 : Int) ≤ IntKind.wrap .i64 ((Int.ofNat (List.length es)) - (1 : Int)) ∧
 IntKind.wrap .i64 ((Int.ofNat (List.length es)) - (1 : Int)) < (Int.ofNat (List.length es)) ∧
 List.length (nth [] es (Int.toNat (IntKind.wrap .i64 ((Int.ofNat (List.length es)) - (1 : Int))))) = 1) ∧
 ∃ n,
 cut (nth [] es (Int.toNat (IntKind.wrap .i64 ((Int.ofNat (List.length es)) - (1 : Int))))) 0 1 [D.int .u32 n] ∧
 br (toB (D.bool (n == (0 : Int))))
 (((0 : Int) ≤ (0 : Int) ∧
 (0 : Int) ≤ IntKind.wrap .i64 ((Int.ofNat (List.length es)) - (1 : Int)) ∧
 IntKind.wrap .i64 ((Int.ofNat (List.length es)) - (1 : Int)) ≤ (Int.ofNat (List.length es)) ∧ lens 1 es) ∧
 I0 [] [D.sl (List.drop 0 (List.take (Int.toNat (IntKind.wrap .i64 ((Int.ofNat (List.length es)) - (1 : Int)))) es))] ∧
 M0 [D.sl (List.drop 0 (List.take (Int.toNat (IntKind.wrap .i64 ((Int.ofNat (List.length es)) - (1 : Int)))) es))] < M0 [D.sl es])
 (Q [A.c (D.sl es)]))
 (Q [A.c (D.sl es)])) := by kernel_rfl
theorem vc_qsigned (Gv : Nat → List A → List A → Prop) (b : Bool) (es : List (List D)) (Q : List A → Prop) :
 wpF CC Gv (fun _ => ⟨[], [], fun _ _ => True, fun _ => 0⟩) Tryz.f128 [.c (.bool b), .c (.sl es)] Q = (
 ∃ es_1,
 Gv 224 [A.c (D.sl es)] [A.c (D.sl es_1)] ∧
 br b (Q [A.ag [D.bool (decide ((Int.ofNat (List.length es_1)) > (0 : Int))), D.sl es_1]]) (Q [A.ag [D.bool false, D.sl es_1]])) := by kernel_rfl
theorem vc_qlimbs (Gv : Nat → List A → List A → Prop) (I0 : List D → List D → Prop) (M0 : List D → Nat) (n : Int) (Q : List A → Prop) :
 wpF CC Gv (fun _ => ⟨[.own 3 15 1, .slot 0 (.int .u64 0)], [], I0, M0⟩) Tryz.f129 [.c (.int .u64 n)] Q = (
 I0 [] [D.sl [], D.int .u64 n] ∧
 ∀ (es : List (List D)) (n : Int),
 I0 [] [D.sl es, D.int .u64 n] →
 br (toB (D.bool (decide (n > (0 : Int)))))
 ((1000000000 : Int) ≠ (0 : Int) ∧
 (room (List.length es + 1) ∧ lens 1 [[D.int .u32 (IntKind.wrap .u32 (Int.tmod n (1000000000 : Int)))]]) ∧
 (1000000000 : Int) ≠ (0 : Int) ∧
 I0 []
 [D.sl (es ++ [[D.int .u32 (IntKind.wrap .u32 (Int.tmod n (1000000000 : Int)))]]),
 D.int .u64 (IntKind.wrap .u64 (Int.tdiv n (1000000000 : Int)))] ∧
 M0
 [D.sl (es ++ [[D.int .u32 (IntKind.wrap .u32 (Int.tmod n (1000000000 : Int)))]]),
 D.int .u64 (IntKind.wrap .u64 (Int.tdiv n (1000000000 : Int)))] <
 M0 [D.sl es, D.int .u64 n])
 (Q [A.c (D.sl es)])) := by kernel_rfl
theorem vc_qFromInt64 (Gv : Nat → List A → List A → Prop) (n : Int) (Q : List A → Prop) :
 wpF CC Gv (fun _ => ⟨[], [], fun _ _ => True, fun _ => 0⟩) Tryz.f68 [.c (.int .i64 n)] Q = (
 br (toB (D.bool (decide (n < (0 : Int)))))
 (∃ es,
 Gv 129 [A.c (D.int .u64 (IntKind.wrap .u64 ((0 : Int) - IntKind.wrap .u64 n)))] [A.c (D.sl es)] ∧
 ∃ b es_1, Gv 128 [A.c (D.bool true), A.c (D.sl es)] [A.ag [D.bool b, D.sl es_1]] ∧ Q [A.ag [D.bool b, D.sl es_1]])
 (∃ es,
 Gv 129 [A.c (D.int .u64 (IntKind.wrap .u64 n))] [A.c (D.sl es)] ∧
 ∃ b es_1, Gv 128 [A.c (D.bool false), A.c (D.sl es)] [A.ag [D.bool b, D.sl es_1]] ∧ Q [A.ag [D.bool b, D.sl es_1]])) := by kernel_rfl
theorem vc_qshort (Gv : Nat → List A → List A → Prop) (I0 : List D → List D → Prop) (M0 : List D → Nat) (es : List (List D)) (Q : List A → Prop) :
 wpF CC Gv (fun _ => ⟨[.slot 3 (.int .u64 0), .slot 4 (.int .i64 0)], [], I0, M0⟩) Tryz.f275 [.c (.sl es)] Q = (
 I0 [] [D.int .u64 (0 : Int), D.int .i64 (IntKind.wrap .i64 ((Int.ofNat (List.length es)) - (1 : Int)))] ∧
 ∀ (n n_1 : Int),
 I0 [] [D.int .u64 n, D.int .i64 n_1] →
 br (toB (D.bool (decide (n_1 ≥ (0 : Int)))))
 (((0 : Int) ≤ n_1 ∧ n_1 < (Int.ofNat (List.length es)) ∧ List.length (nth [] es (Int.toNat n_1)) = 1) ∧
 ∃ n_2,
 cut (nth [] es (Int.toNat n_1)) 0 1 [D.int .u32 n_2] ∧
 I0 []
 [D.int .u64 (IntKind.wrap .u64 (IntKind.wrap .u64 (n * (1000000000 : Int)) + IntKind.wrap .u64 n_2)),
 D.int .i64 (IntKind.wrap .i64 (n_1 - (1 : Int)))] ∧
 M0
 [D.int .u64 (IntKind.wrap .u64 (IntKind.wrap .u64 (n * (1000000000 : Int)) + IntKind.wrap .u64 n_2)),
 D.int .i64 (IntKind.wrap .i64 (n_1 - (1 : Int)))] <
 M0 [D.int .u64 n, D.int .i64 n_1])
 (Q [A.c (D.int .u64 n)])) := by kernel_rfl
theorem vc_qSign (Gv : Nat → List A → List A → Prop) (p : Bool) (es : List (List D)) (Q : List A → Prop) :
 wpF CC Gv (fun _ => ⟨[], [], fun _ _ => True, fun _ => 0⟩) Tryz.f173 [.ag [.bool p, .sl es]] Q = (
 br (toB (D.bool ((Int.ofNat (List.length es)) == (0 : Int)))) (Q [A.c (D.int .i64 (0 : Int))])
 (br p (Q [A.c (D.int .i64 (-1 : Int))]) (Q [A.c (D.int .i64 (1 : Int))]))) := by kernel_rfl
theorem vc_qcompare (Gv : Nat → List A → List A → Prop) (I0 : List D → List D → Prop) (M0 : List D → Nat) (es fs : List (List D)) (Q : List A → Prop) :
 wpF CC Gv (fun _ => ⟨[.slot 5 (.int .i64 0)], [], I0, M0⟩) Tryz.f127 [.c (.sl es), .c (.sl fs)] Q = (
 br (toB (D.bool ((Int.ofNat (List.length es)) != (Int.ofNat (List.length fs)))))
 (br (toB (D.bool (decide ((Int.ofNat (List.length es)) < (Int.ofNat (List.length fs)))))) (Q [A.c (D.int .i64 (-1 : Int))]) (Q [A.c (D.int .i64 (1 : Int))]))
 (I0 [] [D.int .i64 (IntKind.wrap .i64 ((Int.ofNat (List.length es)) - (1 : Int)))] ∧
 ∀ (n : Int),
 I0 [] [D.int .i64 n] →
 br (toB (D.bool (decide (n ≥ (0 : Int)))))
 (((0 : Int) ≤ n ∧ n < (Int.ofNat (List.length es)) ∧ List.length (nth [] es (Int.toNat n)) = 1) ∧
 ∃ n_1,
 cut (nth [] es (Int.toNat n)) 0 1 [D.int .u32 n_1] ∧
 ((0 : Int) ≤ n ∧ n < (Int.ofNat (List.length fs)) ∧ List.length (nth [] fs (Int.toNat n)) = 1) ∧
 ∃ n_2,
 cut (nth [] fs (Int.toNat n)) 0 1 [D.int .u32 n_2] ∧
 br (toB (D.bool (decide (n_1 < n_2)))) (Q [A.c (D.int .i64 (-1 : Int))])
 (((0 : Int) ≤ n ∧ n < (Int.ofNat (List.length es)) ∧ List.length (nth [] es (Int.toNat n)) = 1) ∧
 ∃ n_3,
 cut (nth [] es (Int.toNat n)) 0 1 [D.int .u32 n_3] ∧
 ((0 : Int) ≤ n ∧ n < (Int.ofNat (List.length fs)) ∧ List.length (nth [] fs (Int.toNat n)) = 1) ∧
 ∃ n_4,
 cut (nth [] fs (Int.toNat n)) 0 1 [D.int .u32 n_4] ∧
 br (toB (D.bool (decide (n_3 > n_4)))) (Q [A.c (D.int .i64 (1 : Int))])
 (I0 [] [D.int .i64 (IntKind.wrap .i64 (n - (1 : Int)))] ∧
 M0 [D.int .i64 (IntKind.wrap .i64 (n - (1 : Int)))] < M0 [D.int .i64 n])))
 (Q [A.c (D.int .i64 (0 : Int))]))) := by kernel_rfl
theorem vc_qCmp (Gv : Nat → List A → List A → Prop) (p q : Bool) (es fs : List (List D)) (Q : List A → Prop) :
 wpF CC Gv (fun _ => ⟨[], [], fun _ _ => True, fun _ => 0⟩) Tryz.f263 [.ag [.bool p, .sl es], .ag [.bool q, .sl fs]] Q = (
 br (toB (D.bool !p == q)) (br p (Q [A.c (D.int .i64 (-1 : Int))]) (Q [A.c (D.int .i64 (1 : Int))]))
 (br p (∃ n, Gv 127 [A.c (D.sl fs), A.c (D.sl es)] [A.c (D.int .i64 n)] ∧ Q [A.c (D.int .i64 n)])
 (∃ n, Gv 127 [A.c (D.sl es), A.c (D.sl fs)] [A.c (D.int .i64 n)] ∧ Q [A.c (D.int .i64 n)]))) := by kernel_rfl
def QplusV (Gv : Nat → List A → List A → Prop) (I0 : List D → List D → Prop) (M0 : List D → Nat) (Q : List A → Prop) (es fs : List (List D)) : Prop :=
 (((0 : Int) ≤ IntKind.wrap .i64 ((Int.ofNat (List.length es)) + (1 : Int)) ∧
 IntKind.wrap .i64 ((Int.ofNat (List.length es)) + (1 : Int)) ≤ IntKind.wrap .i64 ((Int.ofNat (List.length es)) + (1 : Int)) ∧
 room (Int.toNat (IntKind.wrap .i64 ((Int.ofNat (List.length es)) + (1 : Int))))) ∧
 I0 []
 [D.sl (List.replicate (Int.toNat (IntKind.wrap .i64 ((Int.ofNat (List.length es)) + (1 : Int)))) [D.int .u32 (0 : Int)]),
 D.int .u32 (0 : Int), D.int .i64 (0 : Int)] ∧
 ∀ (es_1 : List (List D)) (n n_1 : Int),
 I0 [] [D.sl es_1, D.int .u32 n, D.int .i64 n_1] →
 br (toB (D.bool (decide (n_1 < (Int.ofNat (List.length es))))))
 (((0 : Int) ≤ n_1 ∧ n_1 < (Int.ofNat (List.length es)) ∧ List.length (nth [] es (Int.toNat n_1)) = 1) ∧
 ∃ n_2,
 cut (nth [] es (Int.toNat n_1)) 0 1 [D.int .u32 n_2] ∧
 br (toB (D.bool (decide (n_1 < (Int.ofNat (List.length fs))))))
 (((0 : Int) ≤ n_1 ∧ n_1 < (Int.ofNat (List.length fs)) ∧ List.length (nth [] fs (Int.toNat n_1)) = 1) ∧
 ∃ n_3,
 cut (nth [] fs (Int.toNat n_1)) 0 1 [D.int .u32 n_3] ∧
 (1000000000 : Int) ≠ (0 : Int) ∧
 ((0 : Int) ≤ n_1 ∧ n_1 < (Int.ofNat (List.length es_1))) ∧
 0 < 1 ∧
 (1000000000 : Int) ≠ (0 : Int) ∧
 I0 []
 [D.sl
 (upd es_1 (Int.toNat n_1)
 (upd (nth [] es_1 (Int.toNat n_1)) 0
 (D.int .u32
 (Int.tmod (IntKind.wrap .u32 (IntKind.wrap .u32 (n + n_2) + n_3)) (1000000000 : Int))))),
 D.int .u32
 (IntKind.wrap .u32
 (Int.tdiv (IntKind.wrap .u32 (IntKind.wrap .u32 (n + n_2) + n_3)) (1000000000 : Int))),
 D.int .i64 (IntKind.wrap .i64 (n_1 + (1 : Int)))] ∧
 M0
 [D.sl
 (upd es_1 (Int.toNat n_1)
 (upd (nth [] es_1 (Int.toNat n_1)) 0
 (D.int .u32
 (Int.tmod (IntKind.wrap .u32 (IntKind.wrap .u32 (n + n_2) + n_3)) (1000000000 : Int))))),
 D.int .u32
 (IntKind.wrap .u32
 (Int.tdiv (IntKind.wrap .u32 (IntKind.wrap .u32 (n + n_2) + n_3)) (1000000000 : Int))),
 D.int .i64 (IntKind.wrap .i64 (n_1 + (1 : Int)))] <
 M0 [D.sl es_1, D.int .u32 n, D.int .i64 n_1])
 ((1000000000 : Int) ≠ (0 : Int) ∧
 ((0 : Int) ≤ n_1 ∧ n_1 < (Int.ofNat (List.length es_1))) ∧
 0 < 1 ∧
 (1000000000 : Int) ≠ (0 : Int) ∧
 I0 []
 [D.sl
 (upd es_1 (Int.toNat n_1)
 (upd (nth [] es_1 (Int.toNat n_1)) 0
 (D.int .u32 (Int.tmod (IntKind.wrap .u32 (n + n_2)) (1000000000 : Int))))),
 D.int .u32 (IntKind.wrap .u32 (Int.tdiv (IntKind.wrap .u32 (n + n_2)) (1000000000 : Int))),
 D.int .i64 (IntKind.wrap .i64 (n_1 + (1 : Int)))] ∧
 M0
 [D.sl
 (upd es_1 (Int.toNat n_1)
 (upd (nth [] es_1 (Int.toNat n_1)) 0
 (D.int .u32 (Int.tmod (IntKind.wrap .u32 (n + n_2)) (1000000000 : Int))))),
 D.int .u32 (IntKind.wrap .u32 (Int.tdiv (IntKind.wrap .u32 (n + n_2)) (1000000000 : Int))),
 D.int .i64 (IntKind.wrap .i64 (n_1 + (1 : Int)))] <
 M0 [D.sl es_1, D.int .u32 n, D.int .i64 n_1]))
 (((0 : Int) ≤ (Int.ofNat (List.length es)) ∧ (Int.ofNat (List.length es)) < (Int.ofNat (List.length es_1))) ∧
 0 < 1 ∧
 ∃ es_2,
 Gv 224
 [A.c (D.sl (upd es_1 (Int.toNat (Int.ofNat (List.length es))) (upd (nth [] es_1 (Int.toNat (Int.ofNat (List.length es)))) 0 (D.int .u32 n))))]
 [A.c (D.sl es_2)] ∧
 Q [A.c (D.sl es_2)]))
theorem vc_qplus (Gv : Nat → List A → List A → Prop) (I0 : List D → List D → Prop) (M0 : List D → Nat) (es fs : List (List D)) (Q : List A → Prop) :
 wpF CC Gv (fun _ => ⟨[.own 5 55 1, .slot 6 (.int .u32 0), .slot 7 (.int .i64 0)], [], I0, M0⟩) Tryz.f368 [.c (.sl es), .c (.sl fs)] Q = (
 br (toB (D.bool (decide ((Int.ofNat (List.length es)) < (Int.ofNat (List.length fs))))))
 (QplusV Gv I0 M0 Q fs es) (QplusV Gv I0 M0 Q es fs)) := by kernel_rfl
theorem vc_qminus (Gv : Nat → List A → List A → Prop) (I0 : List D → List D → Prop) (M0 : List D → Nat) (es fs : List (List D)) (Q : List A → Prop) :
 wpF CC Gv (fun _ => ⟨[.own 5 45 1, .slot 6 (.int .u32 0), .slot 7 (.int .i64 0)], [], I0, M0⟩) Tryz.f338 [.c (.sl es), .c (.sl fs)] Q = (
 ((0 : Int) ≤ (Int.ofNat (List.length es)) ∧ (Int.ofNat (List.length es)) ≤ (Int.ofNat (List.length es)) ∧ room (Int.toNat (Int.ofNat (List.length es)))) ∧
 I0 [] [D.sl (List.replicate (Int.toNat (Int.ofNat (List.length es))) [D.int .u32 (0 : Int)]), D.int .u32 (0 : Int), D.int .i64 (0 : Int)] ∧
 ∀ (es_1 : List (List D)) (n n_1 : Int),
 I0 [] [D.sl es_1, D.int .u32 n, D.int .i64 n_1] →
 br (toB (D.bool (decide (n_1 < (Int.ofNat (List.length es))))))
 (((0 : Int) ≤ n_1 ∧ n_1 < (Int.ofNat (List.length es)) ∧ List.length (nth [] es (Int.toNat n_1)) = 1) ∧
 ∃ n_2,
 cut (nth [] es (Int.toNat n_1)) 0 1 [D.int .u32 n_2] ∧
 br (toB (D.bool (decide (n_1 < (Int.ofNat (List.length fs))))))
 (((0 : Int) ≤ n_1 ∧ n_1 < (Int.ofNat (List.length fs)) ∧ List.length (nth [] fs (Int.toNat n_1)) = 1) ∧
 ∃ n_3,
 cut (nth [] fs (Int.toNat n_1)) 0 1 [D.int .u32 n_3] ∧
 br
 (toB
 (D.bool
 (decide
 (IntKind.wrap .u32 (IntKind.wrap .u32 (IntKind.wrap .u32 (n_2 + (1000000000 : Int)) - n) - n_3) ≥
 (1000000000 : Int)))))
 (((0 : Int) ≤ n_1 ∧ n_1 < (Int.ofNat (List.length es_1))) ∧
 0 < 1 ∧
 I0 []
 [D.sl
 (upd es_1 (Int.toNat n_1)
 (upd (nth [] es_1 (Int.toNat n_1)) 0
 (D.int .u32
 (IntKind.wrap .u32
 (IntKind.wrap .u32
 (IntKind.wrap .u32 (IntKind.wrap .u32 (n_2 + (1000000000 : Int)) - n) - n_3) -
 (1000000000 : Int)))))),
 D.int .u32 (0 : Int), D.int .i64 (IntKind.wrap .i64 (n_1 + (1 : Int)))] ∧
 M0
 [D.sl
 (upd es_1 (Int.toNat n_1)
 (upd (nth [] es_1 (Int.toNat n_1)) 0
 (D.int .u32
 (IntKind.wrap .u32
 (IntKind.wrap .u32
 (IntKind.wrap .u32 (IntKind.wrap .u32 (n_2 + (1000000000 : Int)) - n) - n_3) -
 (1000000000 : Int)))))),
 D.int .u32 (0 : Int), D.int .i64 (IntKind.wrap .i64 (n_1 + (1 : Int)))] <
 M0 [D.sl es_1, D.int .u32 n, D.int .i64 n_1])
 (((0 : Int) ≤ n_1 ∧ n_1 < (Int.ofNat (List.length es_1))) ∧
 0 < 1 ∧
 I0 []
 [D.sl
 (upd es_1 (Int.toNat n_1)
 (upd (nth [] es_1 (Int.toNat n_1)) 0
 (D.int .u32
 (IntKind.wrap .u32
 (IntKind.wrap .u32 (IntKind.wrap .u32 (n_2 + (1000000000 : Int)) - n) - n_3))))),
 D.int .u32 (1 : Int), D.int .i64 (IntKind.wrap .i64 (n_1 + (1 : Int)))] ∧
 M0
 [D.sl
 (upd es_1 (Int.toNat n_1)
 (upd (nth [] es_1 (Int.toNat n_1)) 0
 (D.int .u32
 (IntKind.wrap .u32
 (IntKind.wrap .u32 (IntKind.wrap .u32 (n_2 + (1000000000 : Int)) - n) - n_3))))),
 D.int .u32 (1 : Int), D.int .i64 (IntKind.wrap .i64 (n_1 + (1 : Int)))] <
 M0 [D.sl es_1, D.int .u32 n, D.int .i64 n_1]))
 (br (toB (D.bool (decide (IntKind.wrap .u32 (IntKind.wrap .u32 (n_2 + (1000000000 : Int)) - n) ≥ (1000000000 : Int)))))
 (((0 : Int) ≤ n_1 ∧ n_1 < (Int.ofNat (List.length es_1))) ∧
 0 < 1 ∧
 I0 []
 [D.sl
 (upd es_1 (Int.toNat n_1)
 (upd (nth [] es_1 (Int.toNat n_1)) 0
 (D.int .u32
 (IntKind.wrap .u32
 (IntKind.wrap .u32 (IntKind.wrap .u32 (n_2 + (1000000000 : Int)) - n) - (1000000000 : Int)))))),
 D.int .u32 (0 : Int), D.int .i64 (IntKind.wrap .i64 (n_1 + (1 : Int)))] ∧
 M0
 [D.sl
 (upd es_1 (Int.toNat n_1)
 (upd (nth [] es_1 (Int.toNat n_1)) 0
 (D.int .u32
 (IntKind.wrap .u32
 (IntKind.wrap .u32 (IntKind.wrap .u32 (n_2 + (1000000000 : Int)) - n) - (1000000000 : Int)))))),
 D.int .u32 (0 : Int), D.int .i64 (IntKind.wrap .i64 (n_1 + (1 : Int)))] <
 M0 [D.sl es_1, D.int .u32 n, D.int .i64 n_1])
 (((0 : Int) ≤ n_1 ∧ n_1 < (Int.ofNat (List.length es_1))) ∧
 0 < 1 ∧
 I0 []
 [D.sl
 (upd es_1 (Int.toNat n_1)
 (upd (nth [] es_1 (Int.toNat n_1)) 0
 (D.int .u32 (IntKind.wrap .u32 (IntKind.wrap .u32 (n_2 + (1000000000 : Int)) - n))))),
 D.int .u32 (1 : Int), D.int .i64 (IntKind.wrap .i64 (n_1 + (1 : Int)))] ∧
 M0
 [D.sl
 (upd es_1 (Int.toNat n_1)
 (upd (nth [] es_1 (Int.toNat n_1)) 0
 (D.int .u32 (IntKind.wrap .u32 (IntKind.wrap .u32 (n_2 + (1000000000 : Int)) - n))))),
 D.int .u32 (1 : Int), D.int .i64 (IntKind.wrap .i64 (n_1 + (1 : Int)))] <
 M0 [D.sl es_1, D.int .u32 n, D.int .i64 n_1])))
 (∃ es, Gv 224 [A.c (D.sl es_1)] [A.c (D.sl es)] ∧ Q [A.c (D.sl es)])) := by kernel_rfl
theorem vc_qtimes (Gv : Nat → List A → List A → Prop) (I0 : List D → List D → Prop) (M0 : List D → Nat) (I1 : List D → List D → Prop) (M1 : List D → Nat) (es fs : List (List D)) (Q : List A → Prop) :
 wpF CC Gv (ann2 ⟨[.own 5 68 1, .slot 6 (.int .i64 0)], [], I0, M0⟩ ⟨[.own 5 68 1, .slot 7 (.int .u64 0), .slot 8 (.int .i64 0)], [.slot 6 (.int .i64 0), .own 5 68 1], I1, M1⟩) Tryz.f271 [.c (.sl es), .c (.sl fs)] Q = (
 ((0 : Int) ≤ IntKind.wrap .i64 ((Int.ofNat (List.length es)) + (Int.ofNat (List.length fs))) ∧
 IntKind.wrap .i64 ((Int.ofNat (List.length es)) + (Int.ofNat (List.length fs))) ≤ IntKind.wrap .i64 ((Int.ofNat (List.length es)) + (Int.ofNat (List.length fs))) ∧
 room (Int.toNat (IntKind.wrap .i64 ((Int.ofNat (List.length es)) + (Int.ofNat (List.length fs)))))) ∧
 I0 []
 [D.sl (List.replicate (Int.toNat (IntKind.wrap .i64 ((Int.ofNat (List.length es)) + (Int.ofNat (List.length fs))))) [D.int .u32 (0 : Int)]),
 D.int .i64 (0 : Int)] ∧
 ∀ (es_1 : List (List D)) (n : Int),
 I0 [] [D.sl es_1, D.int .i64 n] →
 br (toB (D.bool (decide (n < (Int.ofNat (List.length es))))))
 (I1 [D.int .i64 n, D.sl es_1] [D.sl es_1, D.int .u64 (0 : Int), D.int .i64 (0 : Int)] ∧
 ∀ (es_2 : List (List D)) (n_1 n_2 : Int),
 I1 [D.int .i64 n, D.sl es_1] [D.sl es_2, D.int .u64 n_1, D.int .i64 n_2] →
 br (toB (D.bool (decide (n_2 < (Int.ofNat (List.length fs))))))
 (((0 : Int) ≤ IntKind.wrap .i64 (n + n_2) ∧ IntKind.wrap .i64 (n + n_2) < (Int.ofNat (List.length es_2))) ∧
 ∃ n_3,
 cut (nth [] es_2 (Int.toNat (IntKind.wrap .i64 (n + n_2)))) 0 1 [D.int .u32 n_3] ∧
 ((0 : Int) ≤ n ∧ n < (Int.ofNat (List.length es)) ∧ List.length (nth [] es (Int.toNat n)) = 1) ∧
 ∃ n_4,
 cut (nth [] es (Int.toNat n)) 0 1 [D.int .u32 n_4] ∧
 ((0 : Int) ≤ n_2 ∧ n_2 < (Int.ofNat (List.length fs)) ∧ List.length (nth [] fs (Int.toNat n_2)) = 1) ∧
 ∃ n_5,
 cut (nth [] fs (Int.toNat n_2)) 0 1 [D.int .u32 n_5] ∧
 (1000000000 : Int) ≠ (0 : Int) ∧
 ((0 : Int) ≤ IntKind.wrap .i64 (n + n_2) ∧ IntKind.wrap .i64 (n + n_2) < (Int.ofNat (List.length es_2))) ∧
 0 < 1 ∧
 (1000000000 : Int) ≠ (0 : Int) ∧
 I1 [D.int .i64 n, D.sl es_1]
 [D.sl
 (upd es_2 (Int.toNat (IntKind.wrap .i64 (n + n_2)))
 (upd (nth [] es_2 (Int.toNat (IntKind.wrap .i64 (n + n_2)))) 0
 (D.int .u32
 (IntKind.wrap .u32
 (Int.tmod
 (IntKind.wrap .u64
 (IntKind.wrap .u64 (n_1 + IntKind.wrap .u64 n_3) +
 IntKind.wrap .u64 (IntKind.wrap .u64 n_4 * IntKind.wrap .u64 n_5)))
 (1000000000 : Int)))))),
 D.int .u64
 (IntKind.wrap .u64
 (Int.tdiv
 (IntKind.wrap .u64
 (IntKind.wrap .u64 (n_1 + IntKind.wrap .u64 n_3) +
 IntKind.wrap .u64 (IntKind.wrap .u64 n_4 * IntKind.wrap .u64 n_5)))
 (1000000000 : Int))),
 D.int .i64 (IntKind.wrap .i64 (n_2 + (1 : Int)))] ∧
 M1
 [D.sl
 (upd es_2 (Int.toNat (IntKind.wrap .i64 (n + n_2)))
 (upd (nth [] es_2 (Int.toNat (IntKind.wrap .i64 (n + n_2)))) 0
 (D.int .u32
 (IntKind.wrap .u32
 (Int.tmod
 (IntKind.wrap .u64
 (IntKind.wrap .u64 (n_1 + IntKind.wrap .u64 n_3) +
 IntKind.wrap .u64 (IntKind.wrap .u64 n_4 * IntKind.wrap .u64 n_5)))
 (1000000000 : Int)))))),
 D.int .u64
 (IntKind.wrap .u64
 (Int.tdiv
 (IntKind.wrap .u64
 (IntKind.wrap .u64 (n_1 + IntKind.wrap .u64 n_3) +
 IntKind.wrap .u64 (IntKind.wrap .u64 n_4 * IntKind.wrap .u64 n_5)))
 (1000000000 : Int))),
 D.int .i64 (IntKind.wrap .i64 (n_2 + (1 : Int)))] <
 M1 [D.sl es_2, D.int .u64 n_1, D.int .i64 n_2])
 (((0 : Int) ≤ IntKind.wrap .i64 (n + (Int.ofNat (List.length fs))) ∧ IntKind.wrap .i64 (n + (Int.ofNat (List.length fs))) < (Int.ofNat (List.length es_2))) ∧
 0 < 1 ∧
 I0 []
 [D.sl
 (upd es_2 (Int.toNat (IntKind.wrap .i64 (n + (Int.ofNat (List.length fs)))))
 (upd (nth [] es_2 (Int.toNat (IntKind.wrap .i64 (n + (Int.ofNat (List.length fs)))))) 0
 (D.int .u32 (IntKind.wrap .u32 n_1)))),
 D.int .i64 (IntKind.wrap .i64 (n + (1 : Int)))] ∧
 M0
 [D.sl
 (upd es_2 (Int.toNat (IntKind.wrap .i64 (n + (Int.ofNat (List.length fs)))))
 (upd (nth [] es_2 (Int.toNat (IntKind.wrap .i64 (n + (Int.ofNat (List.length fs)))))) 0
 (D.int .u32 (IntKind.wrap .u32 n_1)))),
 D.int .i64 (IntKind.wrap .i64 (n + (1 : Int)))] <
 M0 [D.sl es_1, D.int .i64 n]))
 (∃ es, Gv 224 [A.c (D.sl es_1)] [A.c (D.sl es)] ∧ Q [A.c (D.sl es)])) := by kernel_rfl
theorem vc_qby (Gv : Nat → List A → List A → Prop) (es : List (List D)) (n : Int) (Q : List A → Prop) :
 wpF CC Gv (fun _ => ⟨[], [], fun _ _ => True, fun _ => 0⟩) Tryz.f337 [.c (.sl es), .c (.int .u32 n)] Q = (
 ∃ es_1,
 Gv 224 [A.c (D.sl [[D.int .u32 n]])] [A.c (D.sl es_1)] ∧
 ∃ es_2, Gv 271 [A.c (D.sl es), A.c (D.sl es_1)] [A.c (D.sl es_2)] ∧ Q [A.c (D.sl es_2)]) := by kernel_rfl
theorem vc_qNeg (Gv : Nat → List A → List A → Prop) (p : Bool) (es : List (List D)) (Q : List A → Prop) :
 wpF CC Gv (fun _ => ⟨[], [], fun _ _ => True, fun _ => 0⟩) Tryz.f239 [.ag [.bool p, .sl es]] Q = (
 ∃ b es_1, Gv 128 [A.c (D.bool !p), A.c (D.sl es)] [A.ag [D.bool b, D.sl es_1]] ∧ Q [A.ag [D.bool b, D.sl es_1]]) := by kernel_rfl
theorem vc_qAdd (Gv : Nat → List A → List A → Prop) (p q : Bool) (es fs : List (List D)) (Q : List A → Prop) :
 wpF CC Gv (fun _ => ⟨[], [], fun _ _ => True, fun _ => 0⟩) Tryz.f314 [.ag [.bool p, .sl es], .ag [.bool q, .sl fs]] Q = (
 br (toB (D.bool (p == q)))
 (∃ es_1,
 Gv 368 [A.c (D.sl es), A.c (D.sl fs)] [A.c (D.sl es_1)] ∧
 ∃ b es, Gv 128 [A.c (D.bool p), A.c (D.sl es_1)] [A.ag [D.bool b, D.sl es]] ∧ Q [A.ag [D.bool b, D.sl es]])
 (∃ n,
 Gv 127 [A.c (D.sl es), A.c (D.sl fs)] [A.c (D.int .i64 n)] ∧
 br (toB (D.bool (decide (n ≥ (0 : Int)))))
 (∃ es_1,
 Gv 338 [A.c (D.sl es), A.c (D.sl fs)] [A.c (D.sl es_1)] ∧
 ∃ b es, Gv 128 [A.c (D.bool p), A.c (D.sl es_1)] [A.ag [D.bool b, D.sl es]] ∧ Q [A.ag [D.bool b, D.sl es]])
 (∃ es_1,
 Gv 338 [A.c (D.sl fs), A.c (D.sl es)] [A.c (D.sl es_1)] ∧
 ∃ b es, Gv 128 [A.c (D.bool q), A.c (D.sl es_1)] [A.ag [D.bool b, D.sl es]] ∧ Q [A.ag [D.bool b, D.sl es]]))) := by kernel_rfl
theorem vc_qSub (Gv : Nat → List A → List A → Prop) (p q : Bool) (es fs : List (List D)) (Q : List A → Prop) :
 wpF CC Gv (fun _ => ⟨[], [], fun _ _ => True, fun _ => 0⟩) Tryz.f313 [.ag [.bool p, .sl es], .ag [.bool q, .sl fs]] Q = (
 ∃ b es_1,
 Gv 239 [A.ag [D.bool q, D.sl fs]] [A.ag [D.bool b, D.sl es_1]] ∧
 ∃ b_1 es_2, Gv 314 [A.ag [D.bool p, D.sl es], A.ag [D.bool b, D.sl es_1]] [A.ag [D.bool b_1, D.sl es_2]] ∧ Q [A.ag [D.bool b_1, D.sl es_2]]) := by kernel_rfl
theorem vc_qMul (Gv : Nat → List A → List A → Prop) (p q : Bool) (es fs : List (List D)) (Q : List A → Prop) :
 wpF CC Gv (fun _ => ⟨[], [], fun _ _ => True, fun _ => 0⟩) Tryz.f193 [.ag [.bool p, .sl es], .ag [.bool q, .sl fs]] Q = (
 ∃ es_1,
 Gv 271 [A.c (D.sl es), A.c (D.sl fs)] [A.c (D.sl es_1)] ∧
 ∃ b es, Gv 128 [A.c (D.bool !p == q), A.c (D.sl es_1)] [A.ag [D.bool b, D.sl es]] ∧ Q [A.ag [D.bool b, D.sl es]]) := by kernel_rfl
theorem vc_qGCD (Gv : Nat → List A → List A → Prop) (I0 : List D → List D → Prop) (M0 : List D → Nat) (I1 : List D → List D → Prop) (M1 : List D → Nat) (p q : Bool) (es fs : List (List D)) (Q : List A → Prop) :
 wpF CC Gv (ann2 ⟨[.slot 5 (.slice none 0 0), .slot 6 (.slice none 0 0)], [], I0, M0⟩ ⟨[.slot 9 (.int .u64 0), .slot 10 (.int .u64 0)], [], I1, M1⟩) Tryz.f201 [.ag [.bool p, .sl es], .ag [.bool q, .sl fs]] Q = (
 I0 [] [D.sl es, D.sl fs] ∧
 ∀ (es es_1 : List (List D)),
 I0 [] [D.sl es, D.sl es_1] →
 br (toB (D.bool (decide ((Int.ofNat (List.length es_1)) > (0 : Int)))))
 (br (toB (D.bool (decide ((Int.ofNat (List.length es)) > (2 : Int)))))
 (∃ es_2 es_3,
 Gv 274 [A.c (D.sl es), A.c (D.sl es_1)] [A.c (D.sl es_2), A.c (D.sl es_3)] ∧
 I0 [] [D.sl es_1, D.sl es_3] ∧ M0 [D.sl es_1, D.sl es_3] < M0 [D.sl es, D.sl es_1])
 (br (toB (D.bool (decide ((Int.ofNat (List.length es_1)) > (2 : Int)))))
 (∃ es_2 es_3,
 Gv 274 [A.c (D.sl es), A.c (D.sl es_1)] [A.c (D.sl es_2), A.c (D.sl es_3)] ∧
 I0 [] [D.sl es_1, D.sl es_3] ∧ M0 [D.sl es_1, D.sl es_3] < M0 [D.sl es, D.sl es_1])
 (br (toB (D.bool ((Int.ofNat (List.length es_1)) == (0 : Int))))
 (∃ b es_2, Gv 128 [A.c (D.bool false), A.c (D.sl es)] [A.ag [D.bool b, D.sl es_2]] ∧ Q [A.ag [D.bool b, D.sl es_2]])
 (∃ n,
 Gv 275 [A.c (D.sl es)] [A.c (D.int .u64 n)] ∧
 ∃ n_1,
 Gv 275 [A.c (D.sl es_1)] [A.c (D.int .u64 n_1)] ∧
 I1 [] [D.int .u64 n, D.int .u64 n_1] ∧
 ∀ (n n_2 : Int),
 I1 [] [D.int .u64 n, D.int .u64 n_2] →
 br (toB (D.bool (decide (n_2 > (0 : Int)))))
 (n_2 ≠ (0 : Int) ∧
 I1 [] [D.int .u64 n_2, D.int .u64 (Int.tmod n n_2)] ∧
 M1 [D.int .u64 n_2, D.int .u64 (Int.tmod n n_2)] < M1 [D.int .u64 n, D.int .u64 n_2])
 (∃ es,
 Gv 129 [A.c (D.int .u64 n)] [A.c (D.sl es)] ∧
 ∃ b es_2, Gv 128 [A.c (D.bool false), A.c (D.sl es)] [A.ag [D.bool b, D.sl es_2]] ∧ Q [A.ag [D.bool b, D.sl es_2]])))))
 (br (toB (D.bool ((Int.ofNat (List.length es_1)) == (0 : Int))))
 (∃ b es_2, Gv 128 [A.c (D.bool false), A.c (D.sl es)] [A.ag [D.bool b, D.sl es_2]] ∧ Q [A.ag [D.bool b, D.sl es_2]])
 (∃ n,
 Gv 275 [A.c (D.sl es)] [A.c (D.int .u64 n)] ∧
 ∃ n_1,
 Gv 275 [A.c (D.sl es_1)] [A.c (D.int .u64 n_1)] ∧
 I1 [] [D.int .u64 n, D.int .u64 n_1] ∧
 ∀ (n n_2 : Int),
 I1 [] [D.int .u64 n, D.int .u64 n_2] →
 br (toB (D.bool (decide (n_2 > (0 : Int)))))
 (n_2 ≠ (0 : Int) ∧
 I1 [] [D.int .u64 n_2, D.int .u64 (Int.tmod n n_2)] ∧
 M1 [D.int .u64 n_2, D.int .u64 (Int.tmod n n_2)] < M1 [D.int .u64 n, D.int .u64 n_2])
 (∃ es,
 Gv 129 [A.c (D.int .u64 n)] [A.c (D.sl es)] ∧
 ∃ b es_2, Gv 128 [A.c (D.bool false), A.c (D.sl es)] [A.ag [D.bool b, D.sl es_2]] ∧ Q [A.ag [D.bool b, D.sl es_2]])))) := by kernel_rfl
theorem vc_qDivMod (Gv : Nat → List A → List A → Prop) (p q : Bool) (es fs : List (List D)) (Q : List A → Prop) :
 wpF CC Gv (fun _ => ⟨[], [], fun _ _ => True, fun _ => 0⟩) Tryz.f240 [.ag [.bool p, .sl es], .ag [.bool q, .sl fs]] Q = (
 br (toB (D.bool ((Int.ofNat (List.length fs)) == (0 : Int)))) (Q [A.ag [D.bool false, D.sl []], A.ag [D.bool false, D.sl []], A.c (D.int .i64 (6 : Int))])
 (∃ es_1 es_2,
 Gv 274 [A.c (D.sl es), A.c (D.sl fs)] [A.c (D.sl es_1), A.c (D.sl es_2)] ∧
 ∃ b es,
 Gv 128 [A.c (D.bool !p == q), A.c (D.sl es_1)] [A.ag [D.bool b, D.sl es]] ∧
 ∃ b_1 es_3,
 Gv 128 [A.c (D.bool p), A.c (D.sl es_2)] [A.ag [D.bool b_1, D.sl es_3]] ∧
 br (toB (D.bool (decide ((Int.ofNat (List.length es_2)) > (0 : Int)))))
 (br (toB (D.bool !p == q))
 (∃ b_2 es_4,
 Gv 68 [A.c (D.int .i64 (1 : Int))] [A.ag [D.bool b_2, D.sl es_4]] ∧
 ∃ b_3 es_5,
 Gv 313 [A.ag [D.bool b, D.sl es], A.ag [D.bool b_2, D.sl es_4]] [A.ag [D.bool b_3, D.sl es_5]] ∧
 ∃ b es,
 Gv 314 [A.ag [D.bool b_1, D.sl es_3], A.ag [D.bool q, D.sl fs]] [A.ag [D.bool b, D.sl es]] ∧
 Q [A.ag [D.bool b_3, D.sl es_5], A.ag [D.bool b, D.sl es], A.c (D.int .i64 (0 : Int))])
 (Q [A.ag [D.bool b, D.sl es], A.ag [D.bool b_1, D.sl es_3], A.c (D.int .i64 (0 : Int))]))
 (Q [A.ag [D.bool b, D.sl es], A.ag [D.bool b_1, D.sl es_3], A.c (D.int .i64 (0 : Int))]))) := by kernel_rfl
end Eng
end

section
namespace Eng
open Go Go.Proofs
set_option maxRecDepth 100000
theorem lim_cons {n : Nat} (h : 0 < n) : lim n = n % 1000000000 :: lim (n / 1000000000) := by
 have e : n = val (n % 1000000000 :: lim (n / 1000000000)) := by
  simp only [val, lim_val]; omega
 conv => lhs; rw [e]
 refine lim_uniq (Limbs.cons (Nat.mod_lt _ (by omega)) (lim_limbs _)) (.inr ?_)
 rw [List.getLast?_cons]
 rcases lim_last (n / 1000000000) with h1 | h1
 ·rw [h1]
  have : n / 1000000000 = 0 := lim_nil.1 h1
  simp; omega
 ·cases hh : (lim (n / 1000000000)).getLast? with
  | none =>
   have : n / 1000000000 = 0 := lim_nil.1 (List.getLast?_eq_none_iff.1 hh)
   simp; omega
  | some x => rw [hh] at h1; simpa using h1
theorem encI_cells' (z : Int) : encI z = .ag [.bool (decide (z < 0)), .sl (raw (lim z.natAbs))] := rfl
theorem qtrim_ok {l : List Nat} (hl : Limbs l) (hr : l.length ≤ 1073741824) : Gives CC 224 [.c (.sl (raw l))] [.c (.sl (raw (lim (val l))))] := by
 refine wpF_ok (anns := fun _ => ⟨[.slot 0 (.slice none 0 0)], [], fun _ ds => ∃ k, k ≤ l.length ∧ ds = [.sl (raw (l.take k))] ∧ val (l.take k) = val l, fun ds => (toL (nth .undef ds 0)).length⟩) mixedT Tryz.func224 ?_
 rw [vc_qtrim]
 simp only [Int.ofNat_eq_natCast]
 refine ⟨⟨l.length, Nat.le_refl _, by rw [List.take_length], by rw [List.take_length]⟩, ?_⟩
 rintro es ⟨k, hk, he, hv⟩
 simp only [List.cons.injEq, D.sl.injEq, and_true] at he
 subst he
 have hlen : (raw (l.take k)).length = k := by rw [raw_length, List.length_take]; omega
 have hfin : (k = 0 ∨ ∃ h : k - 1 < l.length, l[k - 1] ≠ 0) → [A.c (D.sl (raw (l.take k)))] = [A.c (D.sl (raw (lim (val l))))] := by
  intro h
  rw [← hv, lim_uniq (hl.take k)]
  rcases h with rfl | ⟨h, hne⟩
  ·exact .inl (by simp)
  ·refine .inr ?_
   rw [List.getLast?_take]
   split
   ·simp
   ·rw [List.getElem?_eq_getElem h]
    simpa using hne
 refine brd (fun h => ?_) (fun h => ?_)
 ·rw [hlen] at h ⊢
  have hk0 : 0 < k := by omega
  have hw : IntKind.wrap .i64 ((k : Int) - 1) = ((k - 1 : Nat) : Int) := by rw [i64w (by omega) (by omega)]; omega
  rw [hw]
  have hkl : k - 1 < (l.take k).length := by rw [List.length_take]; omega
  have hg : (l.take k)[k - 1] = l[k - 1] := List.getElem_take ..
  refine ⟨⟨by omega, by omega, raw_len1 hkl⟩, _, cut_raw hkl, brb (fun hz => ?_) (fun hz => ?_)⟩
  ·have hz : l[k - 1] = 0 := by rw [hg] at hz; simpa using hz
   refine ⟨⟨by omega, by omega, by omega, lens_raw _⟩, ⟨k - 1, by omega, ?_, ?_⟩, ?_⟩
   ·simp only [Int.toNat_natCast, raw_take, List.drop_zero, List.take_take]
    congr 4
    omega
   ·have : l.take k = l.take (k - 1) ++ [l[k - 1]] := by
     have := List.take_succ_eq_append_getElem (l := l) (i := k - 1) (by omega)
     rw [show k - 1 + 1 = k by omega] at this
     exact this
    rw [← hv, this, hz, val_append]
    simp [val]
   ·simp only [Int.toNat_natCast, nth, toL, List.drop_zero, List.length_take, hlen]
    omega
  ·exact hfin (.inr ⟨by omega, by rw [hg] at hz; simpa using hz⟩)
 ·rw [hlen] at h
  exact hfin (.inl (by omega))
theorem qsigned_ok {l : List Nat} (b : Bool) (hl : Limbs l) (hr : l.length ≤ 1073741824) : Gives CC 128 [.c (.bool b), .c (.sl (raw l))] [.ag [.bool (b && decide (0 < val l)), .sl (raw (lim (val l)))]] := by
 refine wpF_ok (anns := fun _ => ⟨[], [], fun _ _ => True, fun _ => 0⟩) mixedT Tryz.func128 ?_
 rw [vc_qsigned]
 refine ⟨_, qtrim_ok hl hr, ?_⟩
 have hd : decide ((Int.ofNat (List.length (raw (lim (val l))))) > (0 : Int)) = decide (0 < val l) := by
  rw [decide_eq_decide, raw_length, ← lim_len_pos (n := val l)]
  simp only [Int.ofNat_eq_natCast]
  omega
 rw [hd]
 refine brb' (fun hb => ?_) (fun hb => ?_)
 ·subst hb; rw [Bool.true_and]
 ·subst hb; rw [Bool.false_and]
theorem qsigned_enc {l : List Nat} (b : Bool) (hl : Limbs l) (hr : l.length ≤ 1073741824) {z : Int} (hz : z = if b then -(val l : Int) else (val l : Int)) :
 Gives CC 128 [.c (.bool b), .c (.sl (raw l))] [encI z] := by
 have h := qsigned_ok b hl hr
 have e : encI z = .ag [.bool (b && decide (0 < val l)), .sl (raw (lim (val l)))] := by
  unfold encI cI
  cases b with
  | false =>
   simp only [Bool.false_eq_true, if_false] at hz
   subst hz
   rw [Int.natAbs_natCast, Bool.false_and, decide_eq_false (by omega)]
  | true =>
   simp only [if_true] at hz
   subst hz
   rw [Int.natAbs_neg, Int.natAbs_natCast, Bool.true_and]
   congr 3
   rw [decide_eq_decide]; omega
 rw [e]; exact h
theorem qlimbs_ok {u : Nat} (hu : u < 18446744073709551616) : Gives CC 129 [.c (.int .u64 (u : Int))] [.c (.sl (raw (lim u)))] := by
 have h3 : (lim u).length ≤ 3 := lim_length_le (Nat.lt_of_lt_of_le hu (by decide))
 refine wpF_ok (anns := fun _ => ⟨[.own 3 15 1, .slot 0 (.int .u64 0)], [], fun _ ds => ∃ (h : List Nat) (v : Nat), ds = [.sl (raw h), .int .u64 (v : Int)] ∧ v ≤ u ∧ lim u = h ++ lim v, fun ds => (toI (nth .undef ds 1)).toNat⟩) mixedT Tryz.func129 ?_
 rw [vc_qlimbs]
 refine ⟨⟨[], u, rfl, Nat.le_refl _, rfl⟩, ?_⟩
 rintro es n ⟨h, v, he, hv, hl⟩
 simp only [List.cons.injEq, D.sl.injEq, D.int.injEq, true_and, and_true] at he
 obtain ⟨rfl, rfl⟩ := he
 have hlen : h.length ≤ 3 := by
  have := congrArg List.length hl
  rw [List.length_append] at this
  omega
 refine brd (fun h0 => ?_) (fun h0 => ?_)
 ·have hv0 : 0 < v := by omega
  rw [tmodN, tdivN, u32w (by omega) (by omega), u64w (by omega) (by omega)]
  refine ⟨by omega, ⟨by rw [raw_length]; unfold room; omega, lens_raw [v % 1000000000]⟩, by omega, ⟨h ++ [v % 1000000000], v / 1000000000, ?_, by omega, ?_⟩, ?_⟩
  ·rw [raw_append]; rfl
  ·rw [hl, lim_cons hv0, List.append_assoc]; rfl
  ·simp only [nth, toI, Int.toNat_natCast]; omega
 ·have hv0 : v = 0 := by omega
  subst hv0
  rw [hl, lim_zero, List.append_nil]
theorem qFromInt64_ok {n : Int} (h1 : -9223372036854775808 ≤ n) (h2 : n < 9223372036854775808) : Gives CC 68 [.c (.int .i64 n)] [encI n] := by
 refine wpF_ok (anns := fun _ => ⟨[], [], fun _ _ => True, fun _ => 0⟩) mixedT Tryz.func68 ?_
 rw [vc_qFromInt64]
 have hl : ∀ u : Nat, u < 18446744073709551616 → (lim u).length ≤ 1073741824 := fun u hu => by
  have : (lim u).length ≤ 3 := lim_length_le (Nat.lt_of_lt_of_le hu (by decide))
  omega
 refine brd (fun h => ?_) (fun h => ?_)
 ·obtain ⟨u, rfl⟩ : ∃ u : Nat, n = -(u : Int) := ⟨n.natAbs, by omega⟩
  have e : IntKind.wrap .u64 (0 - IntKind.wrap .u64 (-(u : Int))) = (u : Int) := by
   simp [IntKind.wrap, IntKind.bits, IntKind.signed]; omega
  rw [e]
  exact ⟨_, qlimbs_ok (by omega), _, _, qsigned_enc true (lim_limbs u) (hl u (by omega)) (z := -(u : Int)) (by simp [lim_val]), rfl⟩
 ·obtain ⟨u, rfl⟩ : ∃ u : Nat, n = (u : Int) := ⟨n.natAbs, by omega⟩
  rw [u64w (by omega) (by omega)]
  exact ⟨_, qlimbs_ok (by omega), _, _, qsigned_enc false (lim_limbs u) (hl u (by omega)) (z := (u : Int)) (by simp [lim_val]), rfl⟩
theorem qshort_ok {l : List Nat} (hl : Limbs l) (h2 : l.length ≤ 2) : Gives CC 275 [.c (.sl (raw l))] [.c (.int .u64 (val l : Int))] := by
 refine wpF_ok (anns := fun _ => ⟨[.slot 3 (.int .u64 0), .slot 4 (.int .i64 0)], [], fun _ ds => ∃ k : Nat, k ≤ l.length ∧ ds = [.int .u64 (val (l.drop k) : Int), .int .i64 ((k : Int) - 1)], fun ds => (toI (nth .undef ds 1) + 1).toNat⟩) mixedT Tryz.func275 ?_
 rw [vc_qshort]
 simp only [Int.ofNat_eq_natCast, raw_length]
 refine ⟨⟨l.length, Nat.le_refl _, by rw [List.drop_length, i64w (by omega) (by omega)]; rfl⟩, ?_⟩
 rintro n m ⟨k, hk, he⟩
 simp only [List.cons.injEq, D.int.injEq, true_and, and_true] at he
 obtain ⟨rfl, rfl⟩ := he
 refine brd (fun h => ?_) (fun h => ?_)
 ·have hk0 : k - 1 < l.length := by omega
  have ht : ((k : Int) - 1).toNat = k - 1 := by omega
  rw [ht]
  have hd : val (l.drop (k - 1)) = l[k - 1] + 1000000000 * val (l.drop k) := by
   rw [List.drop_eq_getElem_cons hk0, show k - 1 + 1 = k by omega]; rfl
  have hlt := val_lt (hl.drop k)
  have hdl : (l.drop k).length ≤ 1 := by rw [List.length_drop]; omega
  have hlt2 : val (l.drop k) < 1000000000 := by
   have : 1000000000 ^ (l.drop k).length ≤ 1000000000 ^ 1 := Nat.pow_le_pow_right (by omega) hdl
   omega
  have hx := hl.get hk0
  have hw : IntKind.wrap .u64 (IntKind.wrap .u64 ((val (l.drop k) : Int) * 1000000000) + IntKind.wrap .u64 (l[k - 1] : Int)) = (val (l.drop (k - 1)) : Int) := by
   rw [u64w (n := (val (l.drop k) : Int) * 1000000000) (by omega) (by omega), u64w (n := (l[k - 1] : Int)) (by omega) (by omega), u64w (by omega) (by omega)]
   omega
  have hw2 : IntKind.wrap .i64 ((k : Int) - 1 - 1) = ((k - 1 : Nat) : Int) - 1 := by rw [i64w (by omega) (by omega)]; omega
  refine ⟨⟨by omega, by omega, raw_len1 hk0⟩, _, cut_raw hk0, ⟨k - 1, by omega, by rw [hw, hw2]⟩, ?_⟩
  rw [hw2]
  simp only [nth, toI]; omega
 ·have hk0 : k = 0 := by omega
  subst hk0
  rw [List.drop_zero]
theorem qSign_ok (z : Int) : Gives CC 173 [encI z] [.c (.int .i64 (sgn z))] := by
 refine wpF_ok (anns := fun _ => ⟨[], [], fun _ _ => True, fun _ => 0⟩) mixedT Tryz.func173 ?_
 rw [encI_cells', vc_qSign]
 simp only [Int.ofNat_eq_natCast, raw_length]
 unfold sgn
 refine brb (fun h => ?_) (fun h => ?_)
 ·have h0 : (lim z.natAbs).length = 0 := by simpa using h
  have : z.natAbs = 0 := lim_nil.1 (List.eq_nil_of_length_eq_zero h0)
  rw [if_neg (by omega), if_neg (by omega)]
 ·have h0 : (lim z.natAbs).length ≠ 0 := by simpa using h
  have : 0 < z.natAbs := lim_len_pos.1 (by omega)
  refine brb' (fun h => ?_) (fun h => ?_)
  ·rw [if_pos (by simpa using h)]
  ·have : ¬ z < 0 := by simpa using h
   rw [if_neg this, if_pos (by omega)]
theorem qcompare_ok {x y : Nat} (hra : (lim x).length ≤ 1073741824) (hrb : (lim y).length ≤ 1073741824) : Gives CC 127 [.c (.sl (raw (lim x))), .c (.sl (raw (lim y)))] [.c (.int .i64 (cmpN x y))] := by
 generalize hA : lim x = A at *
 generalize hB : lim y = B at *
 have lA : Limbs A := hA ▸ lim_limbs _
 have lB : Limbs B := hB ▸ lim_limbs _
 have vA : val A = x := hA ▸ lim_val _
 have vB : val B = y := hB ▸ lim_val _
 have zA : A = [] ∨ A.getLast? ≠ some 0 := hA ▸ lim_last _
 have zB : B = [] ∨ B.getLast? ≠ some 0 := hB ▸ lim_last _
 refine wpF_ok (anns := fun _ => ⟨[.slot 5 (.int .i64 0)], [], fun _ ds => ∃ k : Nat, k ≤ A.length ∧ ds = [.int .i64 ((k : Int) - 1)] ∧ A.drop k = B.drop k, fun ds => (toI (nth .undef ds 0) + 1).toNat⟩) mixedT Tryz.func127 ?_
 rw [vc_qcompare]
 simp only [Int.ofNat_eq_natCast, raw_length]
 refine brb (fun h => ?_) (fun h => ?_)
 ·have h : A.length ≠ B.length := by
   intro e; rw [e] at h; simp at h
  refine brd (fun h1 => ?_) (fun h1 => ?_)
  ·have hne : B ≠ [] := (by intro e; have h0 : B.length = 0 := (by rw [e]; rfl); omega)
   have := len_lt lA (zB.resolve_left hne) hne (by omega)
   rw [cmpN, if_pos (by omega)]
  ·have hne : A ≠ [] := (by intro e; have h0 : A.length = 0 := (by rw [e]; rfl); omega)
   have := len_lt lB (zA.resolve_left hne) hne (by omega)
   rw [cmpN, if_neg (by omega), if_pos (by omega)]
 ·have h : A.length = B.length := by
   have : (A.length : Int) = B.length := by simpa using h
   omega
  refine ⟨⟨A.length, Nat.le_refl _, by rw [i64w (by omega) (by omega)], by rw [List.drop_length, h, List.drop_length]⟩, ?_⟩
  rintro n ⟨k, hk, he, hd⟩
  simp only [List.cons.injEq, D.int.injEq, true_and, and_true] at he
  subst he
  refine brd (fun h1 => ?_) (fun h1 => ?_)
  ·have hk0 : k - 1 < A.length := by omega
   have hk1 : k - 1 < B.length := by omega
   have ht : ((k : Int) - 1).toNat = k - 1 := by omega
   have hd' : A.drop (k - 1 + 1) = B.drop (k - 1 + 1) := by rw [show k - 1 + 1 = k by omega]; exact hd
   rw [ht]
   refine ⟨⟨by omega, by omega, raw_len1 hk0⟩, _, cut_raw hk0, ⟨by omega, by omega, raw_len1 hk1⟩, _, cut_raw hk1, brd (fun h2 => ?_) (fun h2 => ?_)⟩
   ·have := val_drop_lt lA h hk0 hd' (by omega)
    rw [cmpN, if_pos (by omega)]
   ·refine ⟨⟨by omega, by omega, raw_len1 hk0⟩, _, cut_raw hk0, ⟨by omega, by omega, raw_len1 hk1⟩, _, cut_raw hk1, brd (fun h3 => ?_) (fun h3 => ?_)⟩
    ·have := val_drop_lt lB h.symm hk1 hd'.symm (by omega)
     rw [cmpN, if_neg (by omega), if_pos (by omega)]
    ·have hw : IntKind.wrap .i64 ((k : Int) - 1 - 1) = ((k - 1 : Nat) : Int) - 1 := by rw [i64w (by omega) (by omega)]; omega
     rw [hw]
     refine ⟨⟨k - 1, by omega, rfl, ?_⟩, ?_⟩
     ·rw [List.drop_eq_getElem_cons hk0, List.drop_eq_getElem_cons hk1, hd']
      congr 1
      omega
     ·simp only [nth, toI]; omega
  ·have hk0 : k = 0 := by omega
   subst hk0
   have : A = B := by simpa using hd
   rw [cmpN, ← vA, ← vB, this, if_neg (by omega), if_neg (by omega)]
theorem qCmp_ok {x y : Int} (hx : Sm x) (hy : Sm y) : Gives CC 263 [encI x, encI y] [.c (.int .i64 (cmpZ x y))] := by
 refine wpF_ok (anns := fun _ => ⟨[], [], fun _ _ => True, fun _ => 0⟩) mixedT Tryz.func263 ?_
 have lx := hx.len
 have ly := hy.len
 rw [encI_cells' x, encI_cells' y, vc_qCmp]
 have c1 := qcompare_ok (x := x.natAbs) (y := y.natAbs) (by omega) (by omega)
 have c2 := qcompare_ok (x := y.natAbs) (y := x.natAbs) (by omega) (by omega)
 refine brb (fun h => ?_) (fun h => ?_)
 ·refine brb' (fun h1 => ?_) (fun h1 => ?_)
  ·have h1 : x < 0 := by simpa using h1
   have h2 : ¬ y < 0 := by
    intro h2; rw [decide_eq_true h1, decide_eq_true h2] at h; simp at h
   rw [cmpZ, if_pos (by omega)]
  ·have h1 : ¬ x < 0 := by simpa using h1
   have h2 : y < 0 := by
    apply Decidable.byContradiction; intro h2; rw [decide_eq_false h1, decide_eq_false h2] at h; simp at h
   rw [cmpZ, if_neg (by omega), if_pos (by omega)]
 ·refine brb' (fun h1 => ?_) (fun h1 => ?_)
  ·have h1 : x < 0 := by simpa using h1
   have h2 : y < 0 := by
    apply Decidable.byContradiction; intro h2; rw [decide_eq_true h1, decide_eq_false h2] at h; simp at h
   refine ⟨_, c2, ?_⟩
   have : cmpN y.natAbs x.natAbs = cmpZ x y := by
    unfold cmpN cmpZ
    by_cases h3 : x < y
    ·rw [if_pos h3, if_pos (by omega)]
    ·rw [if_neg h3, if_neg (by omega)]
     by_cases h4 : y < x
     ·rw [if_pos h4, if_pos (by omega)]
     ·rw [if_neg h4, if_neg (by omega)]
   rw [this]
  ·have h1 : ¬ x < 0 := by simpa using h1
   have h2 : ¬ y < 0 := by
    intro h2; rw [decide_eq_false h1, decide_eq_true h2] at h; simp at h
   refine ⟨_, c1, ?_⟩
   have : cmpN x.natAbs y.natAbs = cmpZ x y := by
    unfold cmpN cmpZ
    by_cases h3 : x < y
    ·rw [if_pos h3, if_pos (by omega)]
    ·rw [if_neg h3, if_neg (by omega)]
     by_cases h4 : y < x
     ·rw [if_pos h4, if_pos (by omega)]
     ·rw [if_neg h4, if_neg (by omega)]
   rw [this]
theorem set_last {o : List Nat} {k c : Nat} (ho : o.length = k) : (o ++ [0]).set k c = o ++ [c] := by
 rw [List.set_append_right _ _ (by omega), ho]; simp
def qpI (a b : List Nat) : List D → List D → Prop := fun _ ds => ∃ (k : Nat) (o : List Nat) (c : Nat), k ≤ a.length ∧ o.length = k ∧ ds = [.sl (raw (o ++ List.replicate (a.length + 1 - k) 0)), .int .u32 (c : Int), .int .i64 (k : Int)] ∧ Limbs o ∧ c ≤ 1 ∧ val o + 1000000000 ^ k * c = val (a.take k) + val (b.take k)
def qpM (a : List Nat) : List D → Nat := fun ds => a.length - (toI (nth .undef ds 2)).toNat
theorem qplus_main {a b : List Nat} (ha : Limbs a) (hb : Limbs b) (hra : a.length ≤ 1073741823) (hab : b.length ≤ a.length) :
 QplusV (Gives CC) (qpI a b) (qpM a)
  (fun r => r = [.c (.sl (raw (lim (val a + val b))))]) (raw a) (raw b) := by
 unfold QplusV qpI qpM
 simp only [Int.ofNat_eq_natCast, raw_length]
 have hn : IntKind.wrap .i64 ((a.length : Int) + 1) = ((a.length + 1 : Nat) : Int) := by rw [i64w (by omega) (by omega)]; omega
 rw [hn, Int.toNat_natCast]
 refine ⟨⟨by omega, by omega, by unfold room; omega⟩, ⟨0, [], 0, by omega, rfl, by rw [raw_replicate]; rfl, Limbs.nil, by omega, by simp [val]⟩, ?_⟩
 rintro es n m ⟨k, o, c, hk, ho, he, lo, hc, hv⟩
 simp only [List.cons.injEq, D.int.injEq, D.sl.injEq, true_and, and_true] at he
 obtain ⟨rfl, rfl, rfl⟩ := he
 have hol : (o ++ List.replicate (a.length + 1 - k) 0).length = a.length + 1 := by simp [ho]; omega
 refine brd (fun h1 => ?_) (fun h1 => ?_)
 ·have hkx : k < a.length := by omega
  have hxk := ha.get hkx
  have hk1 : IntKind.wrap .i64 ((k : Int) + 1) = ((k + 1 : Nat) : Int) := by rw [i64w (by omega) (by omega)]; omega
  rw [Int.toNat_natCast, hk1, raw_length, hol]
  have fin : ∀ (t : Nat), t ≤ 1999999999 → t = a[k] + c + b.getD k 0 →
   (((0 : Int) ≤ (k : Int) ∧ (k : Int) < ((a.length + 1 : Nat) : Int)) ∧ 0 < 1 ∧ (1000000000 : Int) ≠ 0 ∧
     (∃ (k' : Nat) (o' : List Nat) (c' : Nat), k' ≤ a.length ∧ o'.length = k' ∧ [D.sl (upd (raw (o ++ List.replicate (a.length + 1 - k) 0)) k (upd (nth [] (raw (o ++ List.replicate (a.length + 1 - k) 0)) k) 0 (D.int .u32 (Int.tmod (t : Int) 1000000000)))), D.int .u32 (IntKind.wrap .u32 (Int.tdiv (t : Int) 1000000000)), D.int .i64 ((k + 1 : Nat) : Int)] =
         [.sl (raw (o' ++ List.replicate (a.length + 1 - k') 0)), .int .u32 (c' : Int), .int .i64 (k' : Int)] ∧ Limbs o' ∧ c' ≤ 1 ∧ val o' + 1000000000 ^ k' * c' = val (a.take k') + val (b.take k')) ∧
     a.length - (toI (nth .undef [D.sl (upd (raw (o ++ List.replicate (a.length + 1 - k) 0)) k (upd (nth [] (raw (o ++ List.replicate (a.length + 1 - k) 0)) k) 0 (D.int .u32 (Int.tmod (t : Int) 1000000000)))), D.int .u32 (IntKind.wrap .u32 (Int.tdiv (t : Int) 1000000000)), D.int .i64 ((k + 1 : Nat) : Int)] 2)).toNat <
      a.length - (toI (nth .undef [D.sl (raw (o ++ List.replicate (a.length + 1 - k) 0)), D.int .u32 (c : Int), D.int .i64 (k : Int)] 2)).toNat) := by
   intro t ht hte
   rw [tmodN, tdivN, u32w (by omega) (by omega), upd_raw (by rw [hol]; omega), set_rep ho (by omega)]
   refine ⟨⟨by omega, by omega⟩, by omega, by omega, ⟨k + 1, o ++ [t % 1000000000], t / 1000000000, by omega, by simp [ho], by rw [show a.length + 1 - k - 1 = a.length + 1 - (k + 1) by omega], lo.append (Limbs.cons (by omega) Limbs.nil), by omega, plus_step hkx ho hv (by omega)⟩, ?_⟩
   simp only [nth, toI]; omega
  refine ⟨⟨by omega, by omega, raw_len1 hkx⟩, _, cut_raw hkx, brd (fun h2 => ?_) (fun h2 => ?_)⟩
  ·have hky : k < b.length := by omega
   have hyk := hb.get hky
   have hgd : b.getD k 0 = b[k] := by simp [List.getD, hky]
   have hw : IntKind.wrap .u32 (IntKind.wrap .u32 ((c : Int) + (a[k] : Int)) + (b[k] : Int)) = ((a[k] + c + b[k] : Nat) : Int) := by rw [u32w (n := (c : Int) + (a[k] : Int)) (by omega) (by omega), u32w (by omega) (by omega)]; omega
   refine ⟨⟨by omega, by omega, raw_len1 hky⟩, _, cut_raw hky, by omega, ?_⟩
   rw [hw]
   exact fin _ (by omega) (by omega)
  ·have hgd : b.getD k 0 = 0 := getD_ge (by omega)
   have hw : IntKind.wrap .u32 ((c : Int) + (a[k] : Int)) = ((a[k] + c : Nat) : Int) := by rw [u32w (by omega) (by omega)]; omega
   rw [hw]
   exact ⟨by omega, fin _ (by omega) (by omega)⟩
 ·have hkx : k = a.length := by omega
  subst hkx
  rw [List.take_length, List.take_of_length_le hab] at hv
  have e1 : a.length + 1 - a.length = 1 := by omega
  rw [e1] at hol ⊢
  rw [Int.toNat_natCast, raw_length, hol, upd_raw (by rw [hol]; omega), List.replicate_one, set_last ho]
  have hg := qtrim_ok (l := o ++ [c]) (lo.append (Limbs.cons (by omega) Limbs.nil)) (by simp [ho]; omega)
  rw [val_snoc, ho, hv] at hg
  exact ⟨⟨by omega, by omega⟩, by omega, _, hg, rfl⟩
theorem qplus_ok {a b : List Nat} (ha : Limbs a) (hb : Limbs b) (hra : a.length ≤ 1073741823) (hrb : b.length ≤ 1073741823) : Gives CC 368 [.c (.sl (raw a)), .c (.sl (raw b))] [.c (.sl (raw (lim (val a + val b))))] := by
 by_cases hab : a.length < b.length
 ·refine wpF_ok (anns := fun _ => ⟨[.own 5 55 1, .slot 6 (.int .u32 0), .slot 7 (.int .i64 0)], [], qpI b a, qpM b⟩) mixedT Tryz.func368 ?_
  have h := qplus_main hb ha hrb (by omega)
  rw [vc_qplus]
  simp only [Int.ofNat_eq_natCast, raw_length]
  refine brd (fun _ => ?_) (fun h0 => by omega)
  rw [Nat.add_comm (val b)] at h
  exact h
 ·refine wpF_ok (anns := fun _ => ⟨[.own 5 55 1, .slot 6 (.int .u32 0), .slot 7 (.int .i64 0)], [], qpI a b, qpM a⟩) mixedT Tryz.func368 ?_
  have h := qplus_main ha hb hra (by omega)
  rw [vc_qplus]
  simp only [Int.ofNat_eq_natCast, raw_length]
  exact brd (fun h0 => by omega) (fun _ => h)
end Eng
end

section
namespace Eng
open Go Go.Proofs
set_option maxRecDepth 100000
theorem qminus_ok {a b : List Nat} (ha : Limbs a) (hb : Limbs b) (hra : a.length ≤ 1073741824) (hab : val b ≤ val a) : Gives CC 338 [.c (.sl (raw a)), .c (.sl (raw b))] [.c (.sl (raw (lim (val a - val b))))] := by
 refine wpF_ok (anns := fun _ => ⟨[.own 5 45 1, .slot 6 (.int .u32 0), .slot 7 (.int .i64 0)], [], fun _ ds => ∃ (k : Nat) (o : List Nat) (c : Nat), k ≤ a.length ∧ o.length = k ∧ ds = [.sl (raw (o ++ List.replicate (a.length - k) 0)), .int .u32 (c : Int), .int .i64 (k : Int)] ∧ Limbs o ∧ c ≤ 1 ∧ val o + val (b.take k) = val (a.take k) + 1000000000 ^ k * c, fun ds => a.length - (toI (nth .undef ds 2)).toNat⟩) mixedT Tryz.func338 ?_
 rw [vc_qminus]
 simp only [Int.ofNat_eq_natCast, raw_length]
 refine ⟨⟨by omega, by omega, by unfold room; omega⟩, ⟨0, [], 0, by omega, rfl, by rw [Int.toNat_natCast, raw_replicate]; rfl, Limbs.nil, by omega, by simp [val]⟩, ?_⟩
 rintro es n m ⟨k, o, c, hk, ho, he, lo, hc, hv⟩
 simp only [List.cons.injEq, D.int.injEq, D.sl.injEq, true_and, and_true] at he
 obtain ⟨rfl, rfl, rfl⟩ := he
 have hol : (o ++ List.replicate (a.length - k) 0).length = a.length := by simp [ho]; omega
 refine brd (fun h1 => ?_) (fun h1 => ?_)
 ·have hkx : k < a.length := by omega
  have hxk := ha.get hkx
  have hk1 : IntKind.wrap .i64 ((k : Int) + 1) = ((k + 1 : Nat) : Int) := by rw [i64w (by omega) (by omega)]; omega
  rw [Int.toNat_natCast, hk1, raw_length, hol]
  have hw0 : IntKind.wrap .u32 (IntKind.wrap .u32 ((a[k] : Int) + 1000000000) - (c : Int)) = ((a[k] + 1000000000 - c : Nat) : Int) := by rw [u32w (n := (a[k] : Int) + 1000000000) (by omega) (by omega), u32w (by omega) (by omega)]; omega
  refine ⟨⟨by omega, by omega, raw_len1 hkx⟩, _, cut_raw hkx, ?_⟩
  rw [hw0]
  refine brd (fun h2 => ?_) (fun h2 => ?_)
  ·have hky : k < b.length := by omega
   have hyk := hb.get hky
   have hgd : b.getD k 0 = b[k] := by simp [List.getD, hky]
   refine ⟨⟨by omega, by omega, raw_len1 hky⟩, _, cut_raw hky, ?_⟩
   have hw : IntKind.wrap .u32 (((a[k] + 1000000000 - c : Nat) : Int) - (b[k] : Int)) = ((a[k] + 1000000000 - c - b[k] : Nat) : Int) := by rw [u32w (by omega) (by omega)]; omega
   rw [hw]
   refine brd (fun h3 => ?_) (fun h3 => ?_)
   ·have hw2 : IntKind.wrap .u32 (((a[k] + 1000000000 - c - b[k] : Nat) : Int) - 1000000000) = ((a[k] - (c + b[k]) : Nat) : Int) := by rw [u32w (by omega) (by omega)]; omega
    rw [hw2, upd_raw (by simp [ho]; omega), set_rep ho (by omega)]
    refine ⟨⟨by omega, by omega⟩, by omega, ⟨k + 1, o ++ [a[k] - (c + b[k])], 0, by omega, by simp [ho], by rw [show a.length - k - 1 = a.length - (k + 1) by omega]; rfl, lo.append (Limbs.cons (by omega) Limbs.nil), by omega, minus_step hkx ho hv (by have := hgd; omega)⟩, ?_⟩
    simp only [nth, toI]; omega
   ·rw [upd_raw (by simp [ho]; omega), set_rep ho (by omega)]
    refine ⟨⟨by omega, by omega⟩, by omega, ⟨k + 1, o ++ [a[k] + 1000000000 - c - b[k]], 1, by omega, by simp [ho], by rw [show a.length - k - 1 = a.length - (k + 1) by omega]; rfl, lo.append (Limbs.cons (by omega) Limbs.nil), by omega, minus_step hkx ho hv (by have := hgd; omega)⟩, ?_⟩
    simp only [nth, toI]; omega
  ·have hgd : b.getD k 0 = 0 := getD_ge (by omega)
   refine brd (fun h3 => ?_) (fun h3 => ?_)
   ·have hw2 : IntKind.wrap .u32 (((a[k] + 1000000000 - c : Nat) : Int) - 1000000000) = ((a[k] - c : Nat) : Int) := by rw [u32w (by omega) (by omega)]; omega
    rw [hw2, upd_raw (by simp [ho]; omega), set_rep ho (by omega)]
    refine ⟨⟨by omega, by omega⟩, by omega, ⟨k + 1, o ++ [a[k] - c], 0, by omega, by simp [ho], by rw [show a.length - k - 1 = a.length - (k + 1) by omega]; rfl, lo.append (Limbs.cons (by omega) Limbs.nil), by omega, minus_step hkx ho hv (by have := hgd; omega)⟩, ?_⟩
    simp only [nth, toI]; omega
   ·rw [upd_raw (by simp [ho]; omega), set_rep ho (by omega)]
    refine ⟨⟨by omega, by omega⟩, by omega, ⟨k + 1, o ++ [a[k] + 1000000000 - c], 1, by omega, by simp [ho], by rw [show a.length - k - 1 = a.length - (k + 1) by omega]; rfl, lo.append (Limbs.cons (by omega) Limbs.nil), by omega, minus_step hkx ho hv (by have := hgd; omega)⟩, ?_⟩
    simp only [nth, toI]; omega
 ·have hkx : k = a.length := by omega
  subst hkx
  rw [List.take_length] at hv
  rw [Nat.sub_self, List.replicate_zero, List.append_nil]
  have h2 := val_lt lo
  rw [ho] at h2
  have h3 : val b = val (b.take a.length) + 1000000000 ^ (b.take a.length).length * val (b.drop a.length) := by rw [← val_append, List.take_append_drop]
  have h4 := val_lt ha
  have h5 : val (b.take a.length) = val b := by
   rcases Nat.lt_or_ge b.length a.length with hl | hl
   ·rw [List.take_of_length_le (by omega)]
   ·rw [List.length_take, Nat.min_eq_left hl] at h3
    rcases Nat.eq_zero_or_pos (val (b.drop a.length)) with h6 | h6
    ·rw [h6] at h3; omega
    ·have := Nat.mul_le_mul_left (1000000000 ^ a.length) h6
     omega
  have h6 : c = 0 := by
   rcases Nat.eq_zero_or_pos c with h6 | h6
   ·exact h6
   ·have := Nat.mul_le_mul_left (1000000000 ^ a.length) h6
    omega
  subst h6
  have hg := qtrim_ok lo (by omega)
  rw [show val o = val a - val b by omega] at hg
  exact ⟨_, hg, rfl⟩
set_option maxHeartbeats 1000000 in
theorem qtimes_ok {a b : List Nat} (ha : Limbs a) (hb : Limbs b) (hra : a.length ≤ 536870912) (hrb : b.length ≤ 536870912) :
 Gives CC 271 [.c (.sl (raw a)), .c (.sl (raw b))] [.c (.sl (raw (lim (val a * val b))))] := by
 refine wpF_ok (anns := ann2
  ⟨[.own 5 68 1, .slot 6 (.int .i64 0)], [], fun _ ds => ∃ (i : Nat) (o : List Nat), i ≤ a.length ∧ ds = [.sl (raw o), .int .i64 (i : Int)] ∧ o.length = a.length + b.length ∧ Limbs o ∧ (∀ j, i + b.length ≤ j → o.getD j 0 = 0) ∧ val o = val (a.take i) * val b, fun ds => a.length - (toI (nth .undef ds 1)).toNat⟩
  ⟨[.own 5 68 1, .slot 7 (.int .u64 0), .slot 8 (.int .i64 0)], [.slot 6 (.int .i64 0), .own 5 68 1], fun g ds => ∃ (i k c : Nat) (o0 o : List Nat), g = [.int .i64 (i : Int), .sl (raw o0)] ∧ i < a.length ∧ k ≤ b.length ∧ c < 1000000000 ∧ ds = [.sl (raw o), .int .u64 (c : Int), .int .i64 (k : Int)] ∧ o.length = a.length + b.length ∧ Limbs o ∧ (∀ j, i + b.length ≤ j → o.getD j 0 = 0) ∧ val o + 1000000000 ^ (i + k) * c = val o0 + 1000000000 ^ i * (a.getD i 0 * val (b.take k)), fun ds => b.length - (toI (nth .undef ds 2)).toNat⟩) mixedT Tryz.func271 ?_
 rw [vc_qtimes]
 simp only [Int.ofNat_eq_natCast, raw_length]
 have hab : IntKind.wrap .i64 ((a.length : Int) + (b.length : Int)) = ((a.length + b.length : Nat) : Int) := by rw [i64w (by omega) (by omega)]; omega
 rw [hab, Int.toNat_natCast, raw_replicate]
 refine ⟨⟨by omega, by omega, by unfold room; omega⟩, ⟨0, List.replicate (a.length + b.length) 0, by omega, rfl, by simp, fun y hy => by rw [List.eq_of_mem_replicate hy]; omega, fun j _ => by simp [List.getD, List.getElem?_replicate]; split <;> rfl, by simp [val_replicate, val]⟩, ?_⟩
 rintro es n ⟨i, o0, hi, he, hol, lo, hz, hv⟩
 simp only [List.cons.injEq, D.int.injEq, D.sl.injEq, true_and, and_true] at he
 obtain ⟨rfl, rfl⟩ := he
 refine brd (fun h1 => ?_) (fun h1 => ?_)
 ·have hia : i < a.length := by omega
  have hai := ha.get hia
  refine ⟨⟨i, 0, 0, o0, o0, rfl, hia, by omega, by omega, rfl, hol, lo, hz, by simp [val]⟩, ?_⟩
  rintro es m k' ⟨i', k, c, o0', o, hg, _, hk, hc, he, hol', lo', hz', hv'⟩
  simp only [List.cons.injEq, D.int.injEq, D.sl.injEq, true_and, and_true] at hg he
  obtain ⟨hi', ho0⟩ := hg
  obtain ⟨rfl, rfl, rfl⟩ := he
  have hi'' : i' = i := by omega
  subst hi''
  have ho0 := raw_inj ho0
  subst ho0
  rw [getD_get hia] at hv'
  refine brd (fun h2 => ?_) (fun h2 => ?_)
  ·have hkb : k < b.length := by omega
   have hbk := hb.get hkb
   have hj : i' + k < o.length := by omega
   have hoj := lo'.get hj
   have hw : IntKind.wrap .i64 ((i' : Int) + (k : Int)) = ((i' + k : Nat) : Int) := by rw [i64w (by omega) (by omega)]; omega
   have hk1 : IntKind.wrap .i64 ((k : Int) + 1) = ((k + 1 : Nat) : Int) := by rw [i64w (by omega) (by omega)]; omega
   rw [hw, hk1, Int.toNat_natCast, Int.toNat_natCast, Int.toNat_natCast, raw_length]
   refine ⟨⟨by omega, by omega⟩, _, cut_raw hj, ⟨by omega, by omega, raw_len1 hia⟩, _, cut_raw hia, ⟨by omega, by omega, raw_len1 hkb⟩, _, cut_raw hkb, by omega, ⟨by omega, by omega⟩, by omega, by omega, ?_⟩
   have hp : a[i'] * b[k] ≤ 999999999 * 999999999 := Nat.mul_le_mul (by omega) (by omega)
   obtain ⟨p, hpe⟩ : ∃ p, p = a[i'] * b[k] := ⟨_, rfl⟩
   rw [← hpe] at hp
   have hpi : (a[i'] : Int) * (b[k] : Int) = (p : Int) := by rw [hpe]; exact (Int.natCast_mul _ _).symm
   obtain ⟨t, hte⟩ : ∃ t, t = o[i' + k] + p + c := ⟨_, rfl⟩
   have ht : IntKind.wrap .u64 (IntKind.wrap .u64 ((c : Int) + IntKind.wrap .u64 (o[i' + k] : Int)) + IntKind.wrap .u64 (IntKind.wrap .u64 (a[i'] : Int) * IntKind.wrap .u64 (b[k] : Int))) = (t : Int) := by
    rw [u64w (n := (o[i' + k] : Int)) (by omega) (by omega), u64w (n := (a[i'] : Int)) (by omega) (by omega), u64w (n := (b[k] : Int)) (by omega) (by omega), hpi, u64w (n := (p : Int)) (by omega) (by omega), u64w (n := (c : Int) + (o[i' + k] : Int)) (by omega) (by omega), u64w (by omega) (by omega)]
    omega
   rw [ht, tmodN, tdivN, u32w (n := ((t % 1000000000 : Nat) : Int)) (by omega) (by omega), u64w (n := ((t / 1000000000 : Nat) : Int)) (by omega) (by omega), upd_raw hj]
   refine ⟨⟨i', k + 1, t / 1000000000, o0, o.set (i' + k) (t % 1000000000), rfl, hia, by omega, by omega, rfl, by simp [hol'], limbs_set lo' (by omega), fun j hjj => by rw [getD_set_ne (by omega)]; exact hz' j hjj, ?_⟩, ?_⟩
   ·have h3 := val_set (t % 1000000000) hj
    rw [getD_get hj] at h3
    rw [getD_get hia, val_take_succ, getD_get hkb]
    have h4 := pow_dist (k := i' + k) (show t % 1000000000 + 1000000000 * (t / 1000000000) = t by omega)
    rw [show i' + (k + 1) = i' + k + 1 by omega]
    have h5 : 1000000000 ^ (i' + k) * t = 1000000000 ^ (i' + k) * o[i' + k] + 1000000000 ^ (i' + k) * p + 1000000000 ^ (i' + k) * c := by rw [hte, Nat.mul_add, Nat.mul_add]
    have h6 : 1000000000 ^ i' * (a[i'] * (val (b.take k) + 1000000000 ^ k * b[k])) = 1000000000 ^ i' * (a[i'] * val (b.take k)) + 1000000000 ^ (i' + k) * p := by
     rw [Nat.mul_add, Nat.mul_add, hpe, Nat.pow_add]
     congr 1
     simp only [Nat.mul_assoc, Nat.mul_left_comm]
    omega
   ·simp only [nth, toI]; omega
  ·have hkb : k = b.length := by omega
   subst hkb
   have hj : i' + b.length < o.length := by omega
   have hw : IntKind.wrap .i64 ((i' : Int) + (b.length : Int)) = ((i' + b.length : Nat) : Int) := by rw [i64w (by omega) (by omega)]; omega
   have hk1 : IntKind.wrap .i64 ((i' : Int) + 1) = ((i' + 1 : Nat) : Int) := by rw [i64w (by omega) (by omega)]; omega
   rw [hw, hk1, Int.toNat_natCast, raw_length, u32w (n := (c : Int)) (by omega) (by omega), upd_raw hj]
   refine ⟨⟨by omega, by omega⟩, by omega, ⟨i' + 1, o.set (i' + b.length) c, by omega, rfl, by simp [hol'], limbs_set lo' hc, fun j hjj => by rw [getD_set_ne (by omega)]; exact hz' j (by omega), ?_⟩, ?_⟩
   ·have h3 := val_set c hj
    rw [hz' _ (Nat.le_refl _)] at h3
    rw [List.take_length] at hv'
    rw [val_take_succ, getD_get hia, Nat.add_mul, ← hv, Nat.mul_assoc]
    omega
   ·simp only [nth, toI]; omega
 ·have hia : i = a.length := by omega
  subst hia
  rw [List.take_length] at hv
  have hg := qtrim_ok lo (by omega)
  rw [hv] at hg
  exact ⟨_, hg, rfl⟩
theorem qby_ok {a : List Nat} {d : Nat} (ha : Limbs a) (hd : d < 1000000000) (hra : a.length ≤ 536870912) : Gives CC 337 [.c (.sl (raw a)), .c (.int .u32 (d : Int))] [.c (.sl (raw (lim (val a * d))))] := by
 refine wpF_ok (anns := fun _ => ⟨[], [], fun _ _ => True, fun _ => 0⟩) mixedT Tryz.func337 ?_
 rw [vc_qby]
 have h1 := qtrim_ok (l := [d]) (Limbs.cons hd Limbs.nil) (by simp)
 have hv : val [d] = d := by simp [val]
 rw [hv] at h1
 have hl : (lim d).length ≤ 536870912 := by
  have : (lim d).length ≤ 1 := lim_length_le (by omega)
  omega
 have h2 := qtimes_ok ha (lim_limbs d) hra hl
 rw [lim_val] at h2
 exact ⟨_, h1, _, h2, rfl⟩
theorem qNeg_ok {x : Int} (hx : Sm x) : Gives CC 239 [encI x] [encI (-x)] := by
 refine wpF_ok (anns := fun _ => ⟨[], [], fun _ _ => True, fun _ => 0⟩) mixedT Tryz.func239 ?_
 have lx := hx.len
 rw [encI_cells' x, vc_qNeg]
 refine ⟨_, _, qsigned_enc (!decide (x < 0)) (lim_limbs x.natAbs) (by omega) (z := -x) ?_, rfl⟩
 rw [lim_val]
 by_cases h : x < 0
 ·simp [h]; omega
 ·simp [h]; omega
theorem sum_lim_len {x y n : Nat} (hx : (lim x).length ≤ n) (hy : (lim y).length ≤ n) : (lim (x + y)).length ≤ n + 1 := by
 refine lim_length_le ?_
 have h1 := val_lt (lim_limbs x)
 have h2 := val_lt (lim_limbs y)
 rw [lim_val] at h1 h2
 have hB : ∀ {i j : Nat}, i ≤ j → (1000000000 : Nat) ^ i ≤ 1000000000 ^ j := fun h => Nat.pow_le_pow_right (by decide) h
 have h3 := hB hx
 have h4 := hB hy
 rw [Nat.pow_succ]
 generalize (1000000000 : Nat) ^ n = T at *
 omega
theorem qAdd_ok {x y : Int} (hx : Sm x) (hy : Sm y) : Gives CC 314 [encI x, encI y] [encI (x + y)] := by
 refine wpF_ok (anns := fun _ => ⟨[], [], fun _ _ => True, fun _ => 0⟩) mixedT Tryz.func314 ?_
 have lx := hx.len
 have ly := hy.len
 have lsum : (lim (x.natAbs + y.natAbs)).length ≤ 1073741824 := by
  have := sum_lim_len (n := 1000) lx ly
  omega
 have ldif : ∀ {m n : Nat}, m ≤ n → (lim m).length ≤ (lim n).length := fun {m n} h => lim_length_le (Nat.lt_of_le_of_lt h (by have := val_lt (lim_limbs n); rw [lim_val] at this; exact this))
 rw [encI_cells' x, encI_cells' y, vc_qAdd]
 have hp := qplus_ok (lim_limbs x.natAbs) (lim_limbs y.natAbs) (by omega) (by omega)
 rw [lim_val, lim_val] at hp
 have hc := qcompare_ok (x := x.natAbs) (y := y.natAbs) (by omega) (by omega)
 refine brb (fun h => ?_) (fun h => ?_)
 ·have hs : (x < 0) ↔ (y < 0) := by
   have : decide (x < 0) = decide (y < 0) := by simpa using h
   rw [decide_eq_decide] at this; exact this
  refine ⟨_, hp, _, _, qsigned_enc (decide (x < 0)) (lim_limbs _) lsum (z := x + y) ?_, rfl⟩
  rw [lim_val]
  by_cases h1 : x < 0
  ·have := hs.1 h1
   simp [h1]; omega
  ·have : ¬ y < 0 := fun h2 => h1 (hs.2 h2)
   simp [h1]; omega
 ·have hs : (x < 0) ↔ ¬ (y < 0) := by
   have h2 : ¬ (decide (x < 0) = decide (y < 0)) := by simpa using h
   rw [decide_eq_decide] at h2
   constructor
   ·intro a b; exact h2 ⟨fun _ => b, fun _ => a⟩
   ·intro b
    apply Decidable.byContradiction; intro a
    exact h2 ⟨fun c => absurd c a, fun c => absurd c b⟩
  refine ⟨_, hc, brd (fun h1 => ?_) (fun h1 => ?_)⟩
  ·have hle : y.natAbs ≤ x.natAbs := by
    unfold cmpN at h1
    split at h1
    ·omega
    ·omega
   have hm := qminus_ok (lim_limbs x.natAbs) (lim_limbs y.natAbs) (by omega) (by rw [lim_val, lim_val]; exact hle)
   rw [lim_val, lim_val] at hm
   refine ⟨_, hm, _, _, qsigned_enc (decide (x < 0)) (lim_limbs _) (by have := ldif (show x.natAbs - y.natAbs ≤ x.natAbs by omega); omega) (z := x + y) ?_, rfl⟩
   rw [lim_val]
   by_cases h2 : x < 0
   ·have := hs.1 h2
    simp [h2]; omega
   ·have : y < 0 := by
     apply Decidable.byContradiction; intro h3; exact h2 (hs.2 h3)
    simp [h2]; omega
  ·have hle : x.natAbs ≤ y.natAbs := by
    unfold cmpN at h1
    split at h1
    ·omega
    ·split at h1 <;> omega
   have hm := qminus_ok (lim_limbs y.natAbs) (lim_limbs x.natAbs) (by omega) (by rw [lim_val, lim_val]; exact hle)
   rw [lim_val, lim_val] at hm
   refine ⟨_, hm, _, _, qsigned_enc (decide (y < 0)) (lim_limbs _) (by have := ldif (show y.natAbs - x.natAbs ≤ y.natAbs by omega); omega) (z := x + y) ?_, rfl⟩
   rw [lim_val]
   by_cases h2 : y < 0
   ·have : ¬ x < 0 := fun h3 => (hs.1 h3) h2
    simp [h2]; omega
   ·have := hs.2 h2
    simp [h2]; omega
theorem sm_neg' {x : Int} (h : Sm x) : Sm (-x) := by unfold Sm at *; rw [Int.natAbs_neg]; exact h
theorem qSub_ok {x y : Int} (hx : Sm x) (hy : Sm y) : Gives CC 313 [encI x, encI y] [encI (x - y)] := by
 refine wpF_ok (anns := fun _ => ⟨[], [], fun _ _ => True, fun _ => 0⟩) mixedT Tryz.func313 ?_
 have h1 := qNeg_ok hy
 have h2 := qAdd_ok hx (sm_neg' hy)
 rw [encI_cells' y] at h1
 rw [encI_cells' x] at h2
 rw [encI_cells' x, encI_cells' y, vc_qSub]
 exact ⟨_, _, h1, _, _, h2, rfl⟩
theorem qMul_ok {x y : Int} (hx : Sm x) (hy : Sm y) : Gives CC 193 [encI x, encI y] [encI (x * y)] := by
 refine wpF_ok (anns := fun _ => ⟨[], [], fun _ _ => True, fun _ => 0⟩) mixedT Tryz.func193 ?_
 have lx := hx.len
 have ly := hy.len
 have ht := qtimes_ok (lim_limbs x.natAbs) (lim_limbs y.natAbs) (by omega) (by omega)
 rw [lim_val, lim_val] at ht
 have lp : (lim (x.natAbs * y.natAbs)).length ≤ 1073741824 := by
  have h1 := val_lt (lim_limbs x.natAbs)
  have h2 := val_lt (lim_limbs y.natAbs)
  rw [lim_val] at h1 h2
  have h3 : x.natAbs * y.natAbs < 1000000000 ^ ((lim x.natAbs).length + (lim y.natAbs).length) := by
   rw [Nat.pow_add]; exact Nat.mul_lt_mul'' h1 h2
  have := lim_length_le h3
  omega
 rw [encI_cells' x, encI_cells' y, vc_qMul]
 refine ⟨_, ht, _, _, qsigned_enc (!(decide (x < 0) == decide (y < 0))) (lim_limbs _) lp (z := x * y) ?_, rfl⟩
 rw [lim_val]
 have hm : (x * y).natAbs = x.natAbs * y.natAbs := Int.natAbs_mul x y
 by_cases h1 : x < 0 <;> by_cases h2 : y < 0
 ·have := Int.mul_pos_of_neg_of_neg h1 h2
  simp [h1, h2]; omega
 ·have : x * y ≤ 0 := Int.mul_nonpos_of_nonpos_of_nonneg (by omega) (by omega)
  simp [h1, h2]; omega
 ·have : x * y ≤ 0 := Int.mul_nonpos_of_nonneg_of_nonpos (by omega) (by omega)
  simp [h1, h2]; omega
 ·have : 0 ≤ x * y := Int.mul_nonneg (by omega) (by omega)
  simp [h1, h2]; omega
end Eng
end
