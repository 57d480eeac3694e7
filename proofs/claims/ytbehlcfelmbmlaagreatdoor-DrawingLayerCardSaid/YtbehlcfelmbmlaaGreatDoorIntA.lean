/- The verification conditions of functions, printed by a program (vcgen.py) and checked by the kernel. -/
import Derived.Test.YtbehlcfelmbmlaaGreatDoorLibA
import Derived.Test.YtbehlcfelmbmlaaGreatDoorNumA
import Derived.KernelRfl
section
open Go Go.Proofs Eng
set_option maxRecDepth 1000000
namespace Eng
theorem vc_trim (Gv : Nat → List A → List A → Prop) (I0 : List D → List D → Prop) (M0 : List D → Nat) (es : List (List D)) (Q : List A → Prop) :
 wpF C0 Gv (fun _ => ⟨[.slot 0 (.slice none 0 0)], [], I0, M0⟩) Tryz.f307 [.c (.sl es)] Q = (
 I0 [] [D.sl es] ∧
 ∀ (es : List (List D)),
 I0 [] [D.sl es] →
 br (toB (D.bool (decide ((Int.ofNat (List.length es)) > (0 : Int)))))
 (((0 : Int) ≤ IntKind.wrap .i64 ((Int.ofNat (List.length es)) - (1 : Int)) ∧
 IntKind.wrap .i64 ((Int.ofNat (List.length es)) - (1 : Int)) < (Int.ofNat (List.length es)) ∧
 List.length (nth [] es (Int.toNat (IntKind.wrap .i64 ((Int.ofNat (List.length es)) - (1 : Int))))) = 1) ∧
 ∃ n,
 cut (nth [] es (Int.toNat (IntKind.wrap .i64 ((Int.ofNat (List.length es)) - (1 : Int))))) 0 1 [D.int .u32 n] ∧
 br (toB (D.bool (n == (0 : Int))))
 (((0 : Int) ≤ (0 : Int) ∧
 (0 : Int) ≤ IntKind.wrap .i64 ((Int.ofNat (List.length es)) - (1 : Int)) ∧
 IntKind.wrap .i64 ((Int.ofNat (List.length es)) - (1 : Int)) ≤ (Int.ofNat (List.length es)) ∧ lens 1 es) ∧
 I0 [] [D.sl (List.drop 0 (List.take (Int.toNat (IntKind.wrap .i64 ((Int.ofNat (List.length es)) - (1 : Int)))) es))] ∧
 M0 [D.sl (List.drop 0 (List.take (Int.toNat (IntKind.wrap .i64 ((Int.ofNat (List.length es)) - (1 : Int)))) es))] < M0 [D.sl es])
 (Q [A.c (D.sl es)]))
 (Q [A.c (D.sl es)])) := by kernel_rfl
theorem vc_compare (Gv : Nat → List A → List A → Prop) (I0 : List D → List D → Prop) (M0 : List D → Nat) (es fs : List (List D)) (Q : List A → Prop) :
 wpF C0 Gv (fun _ => ⟨[.slot 5 (.int .i64 0)], [], I0, M0⟩) Tryz.f266 [.c (.sl es), .c (.sl fs)] Q = (
 ∃ es_1,
 Gv 307 [A.c (D.sl es)] [A.c (D.sl es_1)] ∧
 ∃ es,
 Gv 307 [A.c (D.sl fs)] [A.c (D.sl es)] ∧
 br (toB (D.bool ((Int.ofNat (List.length es_1)) != (Int.ofNat (List.length es)))))
 (br (toB (D.bool (decide ((Int.ofNat (List.length es_1)) < (Int.ofNat (List.length es)))))) (Q [A.c (D.int .i64 (-1 : Int))])
 (Q [A.c (D.int .i64 (1 : Int))]))
 (I0 [] [D.int .i64 (IntKind.wrap .i64 ((Int.ofNat (List.length es_1)) - (1 : Int)))] ∧
 ∀ (n : Int),
 I0 [] [D.int .i64 n] →
 br (toB (D.bool (decide (n ≥ (0 : Int)))))
 (((0 : Int) ≤ n ∧ n < (Int.ofNat (List.length es_1)) ∧ List.length (nth [] es_1 (Int.toNat n)) = 1) ∧
 ∃ n_1,
 cut (nth [] es_1 (Int.toNat n)) 0 1 [D.int .u32 n_1] ∧
 ((0 : Int) ≤ n ∧ n < (Int.ofNat (List.length es)) ∧ List.length (nth [] es (Int.toNat n)) = 1) ∧
 ∃ n_2,
 cut (nth [] es (Int.toNat n)) 0 1 [D.int .u32 n_2] ∧
 br (toB (D.bool (decide (n_1 < n_2)))) (Q [A.c (D.int .i64 (-1 : Int))])
 (((0 : Int) ≤ n ∧ n < (Int.ofNat (List.length es_1)) ∧ List.length (nth [] es_1 (Int.toNat n)) = 1) ∧
 ∃ n_3,
 cut (nth [] es_1 (Int.toNat n)) 0 1 [D.int .u32 n_3] ∧
 ((0 : Int) ≤ n ∧ n < (Int.ofNat (List.length es)) ∧ List.length (nth [] es (Int.toNat n)) = 1) ∧
 ∃ n_4,
 cut (nth [] es (Int.toNat n)) 0 1 [D.int .u32 n_4] ∧
 br (toB (D.bool (decide (n_3 > n_4)))) (Q [A.c (D.int .i64 (1 : Int))])
 (I0 [] [D.int .i64 (IntKind.wrap .i64 (n - (1 : Int)))] ∧
 M0 [D.int .i64 (IntKind.wrap .i64 (n - (1 : Int)))] < M0 [D.int .i64 n])))
 (Q [A.c (D.int .i64 (0 : Int))]))) := by kernel_rfl
theorem vc_signed (Gv : Nat → List A → List A → Prop) (I0 : List D → List D → Prop) (M0 : List D → Nat) (b : Bool) (es : List (List D)) (Q : List A → Prop) :
 wpF C0 Gv (fun _ => ⟨[.slot 5 (.int .i64 0)], [], I0, M0⟩) Tryz.f189 [.c (.bool b), .c (.sl es)] Q = (
 I0 [] [D.int .i64 (Int.ofNat (List.length es))] ∧
 ∀ (n : Int),
 I0 [] [D.int .i64 n] →
 br (toB (D.bool (decide (n > (0 : Int)))))
 (((0 : Int) ≤ IntKind.wrap .i64 (n - (1 : Int)) ∧
 IntKind.wrap .i64 (n - (1 : Int)) < (Int.ofNat (List.length es)) ∧
 List.length (nth [] es (Int.toNat (IntKind.wrap .i64 (n - (1 : Int))))) = 1) ∧
 ∃ n_1,
 cut (nth [] es (Int.toNat (IntKind.wrap .i64 (n - (1 : Int))))) 0 1 [D.int .u32 n_1] ∧
 br (toB (D.bool (n_1 == (0 : Int))))
 (I0 [] [D.int .i64 (IntKind.wrap .i64 (n - (1 : Int)))] ∧
 M0 [D.int .i64 (IntKind.wrap .i64 (n - (1 : Int)))] < M0 [D.int .i64 n])
 (br b
 (((0 : Int) ≤ (0 : Int) ∧ (0 : Int) ≤ n ∧ n ≤ n ∧ n ≤ (Int.ofNat (List.length es)) ∧ lens 1 es) ∧
 Q [A.ag [D.bool (decide (n > (0 : Int))), D.sl (List.drop 0 (List.take (Int.toNat n) es))]])
 (((0 : Int) ≤ (0 : Int) ∧ (0 : Int) ≤ n ∧ n ≤ n ∧ n ≤ (Int.ofNat (List.length es)) ∧ lens 1 es) ∧
 Q [A.ag [D.bool false, D.sl (List.drop 0 (List.take (Int.toNat n) es))]])))
 (br b
 (((0 : Int) ≤ (0 : Int) ∧ (0 : Int) ≤ n ∧ n ≤ n ∧ n ≤ (Int.ofNat (List.length es)) ∧ lens 1 es) ∧
 Q [A.ag [D.bool (decide (n > (0 : Int))), D.sl (List.drop 0 (List.take (Int.toNat n) es))]])
 (((0 : Int) ≤ (0 : Int) ∧ (0 : Int) ≤ n ∧ n ≤ n ∧ n ≤ (Int.ofNat (List.length es)) ∧ lens 1 es) ∧
 Q [A.ag [D.bool false, D.sl (List.drop 0 (List.take (Int.toNat n) es))]]))) := by kernel_rfl
theorem vc_split (Gv : Nat → List A → List A → Prop) (n : Int) (Q : List A → Prop) :
 wpF C0 Gv (fun _ => ⟨[], [], fun _ _ => True, fun _ => 0⟩) Tryz.f232 [.c (.int .u64 n)] Q = (
 (1000000000 : Int) ≠ (0 : Int) ∧
 (1000000000 : Int) ≠ (0 : Int) ∧
 (1000000000 : Int) ≠ (0 : Int) ∧
 (1000000000 : Int) ≠ (0 : Int) ∧
 (1000000000 : Int) ≠ (0 : Int) ∧
 Q
 [A.c
 (D.sl
 [[D.int .u32 (IntKind.wrap .u32 (Int.tmod n (1000000000 : Int)))],
 [D.int .u32 (IntKind.wrap .u32 (Int.tmod (IntKind.wrap .u64 (Int.tdiv n (1000000000 : Int))) (1000000000 : Int)))],
 [D.int .u32
 (IntKind.wrap .u32
 (IntKind.wrap .u64 (Int.tdiv (IntKind.wrap .u64 (Int.tdiv n (1000000000 : Int))) (1000000000 : Int))))]])]) := by kernel_rfl
theorem vc_FromInt64 (Gv : Nat → List A → List A → Prop) (n : Int) (Q : List A → Prop) :
 wpF C0 Gv (fun _ => ⟨[], [], fun _ _ => True, fun _ => 0⟩) Tryz.f136 [.c (.int .i64 n)] Q = (
 br (toB (D.bool (decide (n < (0 : Int)))))
 (∃ es,
 Gv 232 [A.c (D.int .u64 (IntKind.wrap .u64 ((0 : Int) - IntKind.wrap .u64 n)))] [A.c (D.sl es)] ∧
 ∃ b es_1, Gv 189 [A.c (D.bool (decide (n < (0 : Int)))), A.c (D.sl es)] [A.ag [D.bool b, D.sl es_1]] ∧ Q [A.ag [D.bool b, D.sl es_1]])
 (∃ es,
 Gv 232 [A.c (D.int .u64 (IntKind.wrap .u64 n))] [A.c (D.sl es)] ∧
 ∃ b es_1, Gv 189 [A.c (D.bool (decide (n < (0 : Int)))), A.c (D.sl es)] [A.ag [D.bool b, D.sl es_1]] ∧ Q [A.ag [D.bool b, D.sl es_1]])) := by kernel_rfl
theorem vc_word (Gv : Nat → List A → List A → Prop) (p : Bool) (es : List (List D)) (Q : List A → Prop) :
 wpF C0 Gv (fun _ => ⟨[], [], fun _ _ => True, fun _ => 0⟩) Tryz.f268 [.ag [.bool p, .sl es]] Q = (
 br (toB (D.bool ((Int.ofNat (List.length es)) == (0 : Int)))) (Q [A.c (D.int .u64 (0 : Int)), A.c (D.bool true)])
 (br (toB (D.bool ((Int.ofNat (List.length es)) == (1 : Int))))
 (((0 : Int) ≤ (0 : Int) ∧ (0 : Int) < (Int.ofNat (List.length es)) ∧ List.length (nth [] es 0) = 1) ∧
 ∃ n, cut (nth [] es 0) 0 1 [D.int .u32 n] ∧ Q [A.c (D.int .u64 (IntKind.wrap .u64 n)), A.c (D.bool true)])
 (br (toB (D.bool ((Int.ofNat (List.length es)) == (2 : Int))))
 (((0 : Int) ≤ (1 : Int) ∧ (1 : Int) < (Int.ofNat (List.length es)) ∧ List.length (nth [] es 1) = 1) ∧
 ∃ n,
 cut (nth [] es 1) 0 1 [D.int .u32 n] ∧
 ((0 : Int) ≤ (0 : Int) ∧ (0 : Int) < (Int.ofNat (List.length es)) ∧ List.length (nth [] es 0) = 1) ∧
 ∃ n_1,
 cut (nth [] es 0) 0 1 [D.int .u32 n_1] ∧
 Q
 [A.c
 (D.int .u64
 (IntKind.wrap .u64
 (IntKind.wrap .u64 (IntKind.wrap .u64 n * (1000000000 : Int)) + IntKind.wrap .u64 n_1))),
 A.c (D.bool true)])
 (Q [A.c (D.int .u64 (0 : Int)), A.c (D.bool false)])))) := by kernel_rfl
theorem vc_Sign (Gv : Nat → List A → List A → Prop) (p : Bool) (es : List (List D)) (Q : List A → Prop) :
 wpF C0 Gv (fun _ => ⟨[], [], fun _ _ => True, fun _ => 0⟩) Tryz.f138 [.ag [.bool p, .sl es]] Q = (
 br p (Q [A.c (D.int .i64 (-1 : Int))])
 (br (toB (D.bool (decide ((Int.ofNat (List.length es)) > (0 : Int))))) (Q [A.c (D.int .i64 (1 : Int))]) (Q [A.c (D.int .i64 (0 : Int))]))) := by kernel_rfl
theorem vc_Cmp (Gv : Nat → List A → List A → Prop) (p q : Bool) (es fs : List (List D)) (Q : List A → Prop) :
 wpF C0 Gv (fun _ => ⟨[], [], fun _ _ => True, fun _ => 0⟩) Tryz.f183 [.ag [.bool p, .sl es], .ag [.bool q, .sl fs]] Q = (
 br (toB (D.bool !p == q)) (br p (Q [A.c (D.int .i64 (-1 : Int))]) (Q [A.c (D.int .i64 (1 : Int))]))
 (br p (∃ n, Gv 266 [A.c (D.sl fs), A.c (D.sl es)] [A.c (D.int .i64 n)] ∧ Q [A.c (D.int .i64 n)])
 (∃ n, Gv 266 [A.c (D.sl es), A.c (D.sl fs)] [A.c (D.int .i64 n)] ∧ Q [A.c (D.int .i64 n)]))) := by kernel_rfl
theorem vc_plus (Gv : Nat → List A → List A → Prop) (I0 : List D → List D → Prop) (M0 : List D → Nat) (es fs : List (List D)) (Q : List A → Prop) :
 wpF C0 Gv (fun _ => ⟨[.own 5 53 1, .slot 6 (.int .u32 0), .slot 22 (.int .i64 0)], [], I0, M0⟩) Tryz.f311 [.c (.sl es), .c (.sl fs)] Q = (
 br (toB (D.bool (decide ((Int.ofNat (List.length es)) < (Int.ofNat (List.length fs))))))
 (((0 : Int) ≤ (0 : Int) ∧
 (0 : Int) ≤ IntKind.wrap .i64 ((Int.ofNat (List.length fs)) + (1 : Int)) ∧ room (Int.toNat (IntKind.wrap .i64 ((Int.ofNat (List.length fs)) + (1 : Int))))) ∧
 I0 [] [D.sl [], D.int .u32 (0 : Int), D.int .i64 (0 : Int)] ∧
 ∀ (es_1 : List (List D)) (n n_1 : Int),
 I0 [] [D.sl es_1, D.int .u32 n, D.int .i64 n_1] →
 br (toB (D.bool (decide (n_1 < (Int.ofNat (List.length fs))))))
 (((0 : Int) ≤ n_1 ∧ n_1 < (Int.ofNat (List.length fs)) ∧ List.length (nth [] fs (Int.toNat n_1)) = 1) ∧
 ∃ n_2,
 cut (nth [] fs (Int.toNat n_1)) 0 1 [D.int .u32 n_2] ∧
 br (toB (D.bool (decide (n_1 < (Int.ofNat (List.length es))))))
 (((0 : Int) ≤ n_1 ∧ n_1 < (Int.ofNat (List.length es)) ∧ List.length (nth [] es (Int.toNat n_1)) = 1) ∧
 ∃ n_3,
 cut (nth [] es (Int.toNat n_1)) 0 1 [D.int .u32 n_3] ∧
 br (toB (D.bool (decide (IntKind.wrap .u32 (IntKind.wrap .u32 (n_2 + n) + n_3) ≥ (1000000000 : Int)))))
 ((room (List.length es_1 + 1) ∧
 lens 1
 [[D.int .u32
 (IntKind.wrap .u32
 (IntKind.wrap .u32 (IntKind.wrap .u32 (n_2 + n) + n_3) - (1000000000 : Int)))]]) ∧
 I0 []
 [D.sl
 (es_1 ++
 [[D.int .u32
 (IntKind.wrap .u32
 (IntKind.wrap .u32 (IntKind.wrap .u32 (n_2 + n) + n_3) - (1000000000 : Int)))]]),
 D.int .u32 (1 : Int), D.int .i64 (IntKind.wrap .i64 (n_1 + (1 : Int)))] ∧
 M0
 [D.sl
 (es_1 ++
 [[D.int .u32
 (IntKind.wrap .u32
 (IntKind.wrap .u32 (IntKind.wrap .u32 (n_2 + n) + n_3) - (1000000000 : Int)))]]),
 D.int .u32 (1 : Int), D.int .i64 (IntKind.wrap .i64 (n_1 + (1 : Int)))] <
 M0 [D.sl es_1, D.int .u32 n, D.int .i64 n_1])
 ((room (List.length es_1 + 1) ∧
 lens 1 [[D.int .u32 (IntKind.wrap .u32 (IntKind.wrap .u32 (n_2 + n) + n_3))]]) ∧
 I0 []
 [D.sl (es_1 ++ [[D.int .u32 (IntKind.wrap .u32 (IntKind.wrap .u32 (n_2 + n) + n_3))]]),
 D.int .u32 (0 : Int), D.int .i64 (IntKind.wrap .i64 (n_1 + (1 : Int)))] ∧
 M0
 [D.sl (es_1 ++ [[D.int .u32 (IntKind.wrap .u32 (IntKind.wrap .u32 (n_2 + n) + n_3))]]),
 D.int .u32 (0 : Int), D.int .i64 (IntKind.wrap .i64 (n_1 + (1 : Int)))] <
 M0 [D.sl es_1, D.int .u32 n, D.int .i64 n_1]))
 (br (toB (D.bool (decide (IntKind.wrap .u32 (n_2 + n) ≥ (1000000000 : Int)))))
 ((room (List.length es_1 + 1) ∧
 lens 1 [[D.int .u32 (IntKind.wrap .u32 (IntKind.wrap .u32 (n_2 + n) - (1000000000 : Int)))]]) ∧
 I0 []
 [D.sl (es_1 ++ [[D.int .u32 (IntKind.wrap .u32 (IntKind.wrap .u32 (n_2 + n) - (1000000000 : Int)))]]),
 D.int .u32 (1 : Int), D.int .i64 (IntKind.wrap .i64 (n_1 + (1 : Int)))] ∧
 M0
 [D.sl (es_1 ++ [[D.int .u32 (IntKind.wrap .u32 (IntKind.wrap .u32 (n_2 + n) - (1000000000 : Int)))]]),
 D.int .u32 (1 : Int), D.int .i64 (IntKind.wrap .i64 (n_1 + (1 : Int)))] <
 M0 [D.sl es_1, D.int .u32 n, D.int .i64 n_1])
 ((room (List.length es_1 + 1) ∧ lens 1 [[D.int .u32 (IntKind.wrap .u32 (n_2 + n))]]) ∧
 I0 []
 [D.sl (es_1 ++ [[D.int .u32 (IntKind.wrap .u32 (n_2 + n))]]), D.int .u32 (0 : Int),
 D.int .i64 (IntKind.wrap .i64 (n_1 + (1 : Int)))] ∧
 M0
 [D.sl (es_1 ++ [[D.int .u32 (IntKind.wrap .u32 (n_2 + n))]]), D.int .u32 (0 : Int),
 D.int .i64 (IntKind.wrap .i64 (n_1 + (1 : Int)))] <
 M0 [D.sl es_1, D.int .u32 n, D.int .i64 n_1])))
 ((room (List.length es_1 + 1) ∧ lens 1 [[D.int .u32 n]]) ∧ Q [A.c (D.sl (es_1 ++ [[D.int .u32 n]]))]))
 (((0 : Int) ≤ (0 : Int) ∧
 (0 : Int) ≤ IntKind.wrap .i64 ((Int.ofNat (List.length es)) + (1 : Int)) ∧ room (Int.toNat (IntKind.wrap .i64 ((Int.ofNat (List.length es)) + (1 : Int))))) ∧
 I0 [] [D.sl [], D.int .u32 (0 : Int), D.int .i64 (0 : Int)] ∧
 ∀ (es_1 : List (List D)) (n n_1 : Int),
 I0 [] [D.sl es_1, D.int .u32 n, D.int .i64 n_1] →
 br (toB (D.bool (decide (n_1 < (Int.ofNat (List.length es))))))
 (((0 : Int) ≤ n_1 ∧ n_1 < (Int.ofNat (List.length es)) ∧ List.length (nth [] es (Int.toNat n_1)) = 1) ∧
 ∃ n_2,
 cut (nth [] es (Int.toNat n_1)) 0 1 [D.int .u32 n_2] ∧
 br (toB (D.bool (decide (n_1 < (Int.ofNat (List.length fs))))))
 (((0 : Int) ≤ n_1 ∧ n_1 < (Int.ofNat (List.length fs)) ∧ List.length (nth [] fs (Int.toNat n_1)) = 1) ∧
 ∃ n_3,
 cut (nth [] fs (Int.toNat n_1)) 0 1 [D.int .u32 n_3] ∧
 br (toB (D.bool (decide (IntKind.wrap .u32 (IntKind.wrap .u32 (n_2 + n) + n_3) ≥ (1000000000 : Int)))))
 ((room (List.length es_1 + 1) ∧
 lens 1
 [[D.int .u32
 (IntKind.wrap .u32
 (IntKind.wrap .u32 (IntKind.wrap .u32 (n_2 + n) + n_3) - (1000000000 : Int)))]]) ∧
 I0 []
 [D.sl
 (es_1 ++
 [[D.int .u32
 (IntKind.wrap .u32
 (IntKind.wrap .u32 (IntKind.wrap .u32 (n_2 + n) + n_3) - (1000000000 : Int)))]]),
 D.int .u32 (1 : Int), D.int .i64 (IntKind.wrap .i64 (n_1 + (1 : Int)))] ∧
 M0
 [D.sl
 (es_1 ++
 [[D.int .u32
 (IntKind.wrap .u32
 (IntKind.wrap .u32 (IntKind.wrap .u32 (n_2 + n) + n_3) - (1000000000 : Int)))]]),
 D.int .u32 (1 : Int), D.int .i64 (IntKind.wrap .i64 (n_1 + (1 : Int)))] <
 M0 [D.sl es_1, D.int .u32 n, D.int .i64 n_1])
 ((room (List.length es_1 + 1) ∧
 lens 1 [[D.int .u32 (IntKind.wrap .u32 (IntKind.wrap .u32 (n_2 + n) + n_3))]]) ∧
 I0 []
 [D.sl (es_1 ++ [[D.int .u32 (IntKind.wrap .u32 (IntKind.wrap .u32 (n_2 + n) + n_3))]]),
 D.int .u32 (0 : Int), D.int .i64 (IntKind.wrap .i64 (n_1 + (1 : Int)))] ∧
 M0
 [D.sl (es_1 ++ [[D.int .u32 (IntKind.wrap .u32 (IntKind.wrap .u32 (n_2 + n) + n_3))]]),
 D.int .u32 (0 : Int), D.int .i64 (IntKind.wrap .i64 (n_1 + (1 : Int)))] <
 M0 [D.sl es_1, D.int .u32 n, D.int .i64 n_1]))
 (br (toB (D.bool (decide (IntKind.wrap .u32 (n_2 + n) ≥ (1000000000 : Int)))))
 ((room (List.length es_1 + 1) ∧
 lens 1 [[D.int .u32 (IntKind.wrap .u32 (IntKind.wrap .u32 (n_2 + n) - (1000000000 : Int)))]]) ∧
 I0 []
 [D.sl (es_1 ++ [[D.int .u32 (IntKind.wrap .u32 (IntKind.wrap .u32 (n_2 + n) - (1000000000 : Int)))]]),
 D.int .u32 (1 : Int), D.int .i64 (IntKind.wrap .i64 (n_1 + (1 : Int)))] ∧
 M0
 [D.sl (es_1 ++ [[D.int .u32 (IntKind.wrap .u32 (IntKind.wrap .u32 (n_2 + n) - (1000000000 : Int)))]]),
 D.int .u32 (1 : Int), D.int .i64 (IntKind.wrap .i64 (n_1 + (1 : Int)))] <
 M0 [D.sl es_1, D.int .u32 n, D.int .i64 n_1])
 ((room (List.length es_1 + 1) ∧ lens 1 [[D.int .u32 (IntKind.wrap .u32 (n_2 + n))]]) ∧
 I0 []
 [D.sl (es_1 ++ [[D.int .u32 (IntKind.wrap .u32 (n_2 + n))]]), D.int .u32 (0 : Int),
 D.int .i64 (IntKind.wrap .i64 (n_1 + (1 : Int)))] ∧
 M0
 [D.sl (es_1 ++ [[D.int .u32 (IntKind.wrap .u32 (n_2 + n))]]), D.int .u32 (0 : Int),
 D.int .i64 (IntKind.wrap .i64 (n_1 + (1 : Int)))] <
 M0 [D.sl es_1, D.int .u32 n, D.int .i64 n_1])))
 ((room (List.length es_1 + 1) ∧ lens 1 [[D.int .u32 n]]) ∧ Q [A.c (D.sl (es_1 ++ [[D.int .u32 n]]))]))) := by kernel_rfl
theorem vc_minus (Gv : Nat → List A → List A → Prop) (I0 : List D → List D → Prop) (M0 : List D → Nat) (es fs : List (List D)) (Q : List A → Prop) :
 wpF C0 Gv (fun _ => ⟨[.own 5 45 1, .slot 6 (.int .u32 0), .slot 15 (.int .i64 0)], [], I0, M0⟩) Tryz.f312 [.c (.sl es), .c (.sl fs)] Q = (
 ((0 : Int) ≤ (Int.ofNat (List.length es)) ∧ (Int.ofNat (List.length es)) ≤ (Int.ofNat (List.length es)) ∧ room (Int.toNat (Int.ofNat (List.length es)))) ∧
 I0 [] [D.sl (List.replicate (Int.toNat (Int.ofNat (List.length es))) [D.int .u32 (0 : Int)]), D.int .u32 (0 : Int), D.int .i64 (0 : Int)] ∧
 ∀ (es_1 : List (List D)) (n n_1 : Int),
 I0 [] [D.sl es_1, D.int .u32 n, D.int .i64 n_1] →
 br (toB (D.bool (decide (n_1 < (Int.ofNat (List.length es))))))
 (((0 : Int) ≤ n_1 ∧ n_1 < (Int.ofNat (List.length es)) ∧ List.length (nth [] es (Int.toNat n_1)) = 1) ∧
 ∃ n_2,
 cut (nth [] es (Int.toNat n_1)) 0 1 [D.int .u32 n_2] ∧
 br (toB (D.bool (decide (n_1 < (Int.ofNat (List.length fs))))))
 (((0 : Int) ≤ n_1 ∧ n_1 < (Int.ofNat (List.length fs)) ∧ List.length (nth [] fs (Int.toNat n_1)) = 1) ∧
 ∃ n_3,
 cut (nth [] fs (Int.toNat n_1)) 0 1 [D.int .u32 n_3] ∧
 br (toB (D.bool (decide (n_2 < IntKind.wrap .u32 (n + n_3)))))
 (((0 : Int) ≤ n_1 ∧ n_1 < (Int.ofNat (List.length es_1))) ∧
 0 < 1 ∧
 I0 []
 [D.sl
 (upd es_1 (Int.toNat n_1)
 (upd (nth [] es_1 (Int.toNat n_1)) 0
 (D.int .u32
 (IntKind.wrap .u32
 (IntKind.wrap .u32 (n_2 + (1000000000 : Int)) - IntKind.wrap .u32 (n + n_3)))))),
 D.int .u32 (1 : Int), D.int .i64 (IntKind.wrap .i64 (n_1 + (1 : Int)))] ∧
 M0
 [D.sl
 (upd es_1 (Int.toNat n_1)
 (upd (nth [] es_1 (Int.toNat n_1)) 0
 (D.int .u32
 (IntKind.wrap .u32
 (IntKind.wrap .u32 (n_2 + (1000000000 : Int)) - IntKind.wrap .u32 (n + n_3)))))),
 D.int .u32 (1 : Int), D.int .i64 (IntKind.wrap .i64 (n_1 + (1 : Int)))] <
 M0 [D.sl es_1, D.int .u32 n, D.int .i64 n_1])
 (((0 : Int) ≤ n_1 ∧ n_1 < (Int.ofNat (List.length es_1))) ∧
 0 < 1 ∧
 I0 []
 [D.sl
 (upd es_1 (Int.toNat n_1)
 (upd (nth [] es_1 (Int.toNat n_1)) 0
 (D.int .u32 (IntKind.wrap .u32 (n_2 - IntKind.wrap .u32 (n + n_3)))))),
 D.int .u32 (0 : Int), D.int .i64 (IntKind.wrap .i64 (n_1 + (1 : Int)))] ∧
 M0
 [D.sl
 (upd es_1 (Int.toNat n_1)
 (upd (nth [] es_1 (Int.toNat n_1)) 0
 (D.int .u32 (IntKind.wrap .u32 (n_2 - IntKind.wrap .u32 (n + n_3)))))),
 D.int .u32 (0 : Int), D.int .i64 (IntKind.wrap .i64 (n_1 + (1 : Int)))] <
 M0 [D.sl es_1, D.int .u32 n, D.int .i64 n_1]))
 (br (toB (D.bool (decide (n_2 < n))))
 (((0 : Int) ≤ n_1 ∧ n_1 < (Int.ofNat (List.length es_1))) ∧
 0 < 1 ∧
 I0 []
 [D.sl
 (upd es_1 (Int.toNat n_1)
 (upd (nth [] es_1 (Int.toNat n_1)) 0
 (D.int .u32 (IntKind.wrap .u32 (IntKind.wrap .u32 (n_2 + (1000000000 : Int)) - n))))),
 D.int .u32 (1 : Int), D.int .i64 (IntKind.wrap .i64 (n_1 + (1 : Int)))] ∧
 M0
 [D.sl
 (upd es_1 (Int.toNat n_1)
 (upd (nth [] es_1 (Int.toNat n_1)) 0
 (D.int .u32 (IntKind.wrap .u32 (IntKind.wrap .u32 (n_2 + (1000000000 : Int)) - n))))),
 D.int .u32 (1 : Int), D.int .i64 (IntKind.wrap .i64 (n_1 + (1 : Int)))] <
 M0 [D.sl es_1, D.int .u32 n, D.int .i64 n_1])
 (((0 : Int) ≤ n_1 ∧ n_1 < (Int.ofNat (List.length es_1))) ∧
 0 < 1 ∧
 I0 []
 [D.sl
 (upd es_1 (Int.toNat n_1)
 (upd (nth [] es_1 (Int.toNat n_1)) 0 (D.int .u32 (IntKind.wrap .u32 (n_2 - n))))),
 D.int .u32 (0 : Int), D.int .i64 (IntKind.wrap .i64 (n_1 + (1 : Int)))] ∧
 M0
 [D.sl
 (upd es_1 (Int.toNat n_1)
 (upd (nth [] es_1 (Int.toNat n_1)) 0 (D.int .u32 (IntKind.wrap .u32 (n_2 - n))))),
 D.int .u32 (0 : Int), D.int .i64 (IntKind.wrap .i64 (n_1 + (1 : Int)))] <
 M0 [D.sl es_1, D.int .u32 n, D.int .i64 n_1])))
 (Q [A.c (D.sl es_1)])) := by kernel_rfl
theorem vc_Add (Gv : Nat → List A → List A → Prop) (p q : Bool) (es fs : List (List D)) (Q : List A → Prop) :
 wpF C0 Gv (fun _ => ⟨[], [], fun _ _ => True, fun _ => 0⟩) Tryz.f235 [.ag [.bool p, .sl es], .ag [.bool q, .sl fs]] Q = (
 br (toB (D.bool (p == q)))
 (∃ es_1,
 Gv 311 [A.c (D.sl es), A.c (D.sl fs)] [A.c (D.sl es_1)] ∧
 ∃ b es, Gv 189 [A.c (D.bool p), A.c (D.sl es_1)] [A.ag [D.bool b, D.sl es]] ∧ Q [A.ag [D.bool b, D.sl es]])
 (∃ n,
 Gv 266 [A.c (D.sl es), A.c (D.sl fs)] [A.c (D.int .i64 n)] ∧
 br (toB (D.bool (decide (n < (0 : Int)))))
 (∃ es_1,
 Gv 312 [A.c (D.sl fs), A.c (D.sl es)] [A.c (D.sl es_1)] ∧
 ∃ b es, Gv 189 [A.c (D.bool q), A.c (D.sl es_1)] [A.ag [D.bool b, D.sl es]] ∧ Q [A.ag [D.bool b, D.sl es]])
 (∃ es_1,
 Gv 312 [A.c (D.sl es), A.c (D.sl fs)] [A.c (D.sl es_1)] ∧
 ∃ b es, Gv 189 [A.c (D.bool p), A.c (D.sl es_1)] [A.ag [D.bool b, D.sl es]] ∧ Q [A.ag [D.bool b, D.sl es]]))) := by kernel_rfl
theorem vc_Sub (Gv : Nat → List A → List A → Prop) (p q : Bool) (es fs : List (List D)) (Q : List A → Prop) :
 wpF C0 Gv (fun _ => ⟨[], [], fun _ _ => True, fun _ => 0⟩) Tryz.f234 [.ag [.bool p, .sl es], .ag [.bool q, .sl fs]] Q = (
 br (toB (D.bool !q))
 (∃ b es_1,
 Gv 235 [A.ag [D.bool p, D.sl es], A.ag [D.bool (decide ((Int.ofNat (List.length fs)) > (0 : Int))), D.sl fs]] [A.ag [D.bool b, D.sl es_1]] ∧
 Q [A.ag [D.bool b, D.sl es_1]])
 (∃ b es_1, Gv 235 [A.ag [D.bool p, D.sl es], A.ag [D.bool false, D.sl fs]] [A.ag [D.bool b, D.sl es_1]] ∧ Q [A.ag [D.bool b, D.sl es_1]])) := by kernel_rfl
theorem vc_Neg (Gv : Nat → List A → List A → Prop) (p : Bool) (es : List (List D)) (Q : List A → Prop) :
 wpF C0 Gv (fun _ => ⟨[], [], fun _ _ => True, fun _ => 0⟩) Tryz.f185 [.ag [.bool p, .sl es]] Q = (
 (room (List.length es) ∧ lens 1 es) ∧
 ∃ b es_1, Gv 189 [A.c (D.bool !p), A.c (D.sl es)] [A.ag [D.bool b, D.sl es_1]] ∧ Q [A.ag [D.bool b, D.sl es_1]]) := by kernel_rfl
theorem vc_Mul (Gv : Nat → List A → List A → Prop) (p q : Bool) (es fs : List (List D)) (Q : List A → Prop) :
 wpF C0 Gv (fun _ => ⟨[], [], fun _ _ => True, fun _ => 0⟩) Tryz.f101 [.ag [.bool p, .sl es], .ag [.bool q, .sl fs]] Q = (
 ∃ es_1,
 Gv 190 [A.c (D.sl es), A.c (D.sl fs)] [A.c (D.sl es_1)] ∧
 ∃ b es, Gv 189 [A.c (D.bool !p == q), A.c (D.sl es_1)] [A.ag [D.bool b, D.sl es]] ∧ Q [A.ag [D.bool b, D.sl es]]) := by kernel_rfl
theorem vc_byWord (Gv : Nat → List A → List A → Prop) (I0 : List D → List D → Prop) (M0 : List D → Nat) (es : List (List D)) (n : Int) (Q : List A → Prop) :
 wpF C0 Gv (fun _ => ⟨[.own 6 44 1, .slot 7 (.int .u64 0), .slot 8 (.int .i64 0)], [], I0, M0⟩) Tryz.f308 [.c (.sl es), .c (.int .u32 n)] Q = (
 ((0 : Int) ≤ (Int.ofNat (List.length es)) ∧ (Int.ofNat (List.length es)) ≤ (Int.ofNat (List.length es)) ∧ room (Int.toNat (Int.ofNat (List.length es)))) ∧
 I0 []
 [D.sl (List.replicate (Int.toNat (Int.ofNat (List.length es))) [D.int .u32 (0 : Int)]), D.int .u64 (0 : Int),
 D.int .i64 (IntKind.wrap .i64 ((Int.ofNat (List.length es)) - (1 : Int)))] ∧
 ∀ (es_1 : List (List D)) (n_1 n_2 : Int),
 I0 [] [D.sl es_1, D.int .u64 n_1, D.int .i64 n_2] →
 br (toB (D.bool (decide (n_2 ≥ (0 : Int)))))
 (((0 : Int) ≤ n_2 ∧ n_2 < (Int.ofNat (List.length es)) ∧ List.length (nth [] es (Int.toNat n_2)) = 1) ∧
 ∃ n_3,
 cut (nth [] es (Int.toNat n_2)) 0 1 [D.int .u32 n_3] ∧
 IntKind.wrap .u64 n ≠ (0 : Int) ∧
 IntKind.wrap .u64 n ≠ (0 : Int) ∧
 ((0 : Int) ≤ n_2 ∧ n_2 < (Int.ofNat (List.length es_1))) ∧
 0 < 1 ∧
 I0 []
 [D.sl
 (upd es_1 (Int.toNat n_2)
 (upd (nth [] es_1 (Int.toNat n_2)) 0
 (D.int .u32
 (IntKind.wrap .u32
 (IntKind.wrap .u64
 (Int.tdiv
 (IntKind.wrap .u64 (IntKind.wrap .u64 (n_1 * (1000000000 : Int)) + IntKind.wrap .u64 n_3))
 (IntKind.wrap .u64 n))))))),
 D.int .u64
 (Int.tmod (IntKind.wrap .u64 (IntKind.wrap .u64 (n_1 * (1000000000 : Int)) + IntKind.wrap .u64 n_3))
 (IntKind.wrap .u64 n)),
 D.int .i64 (IntKind.wrap .i64 (n_2 - (1 : Int)))] ∧
 M0
 [D.sl
 (upd es_1 (Int.toNat n_2)
 (upd (nth [] es_1 (Int.toNat n_2)) 0
 (D.int .u32
 (IntKind.wrap .u32
 (IntKind.wrap .u64
 (Int.tdiv
 (IntKind.wrap .u64 (IntKind.wrap .u64 (n_1 * (1000000000 : Int)) + IntKind.wrap .u64 n_3))
 (IntKind.wrap .u64 n))))))),
 D.int .u64
 (Int.tmod (IntKind.wrap .u64 (IntKind.wrap .u64 (n_1 * (1000000000 : Int)) + IntKind.wrap .u64 n_3))
 (IntKind.wrap .u64 n)),
 D.int .i64 (IntKind.wrap .i64 (n_2 - (1 : Int)))] <
 M0 [D.sl es_1, D.int .u64 n_1, D.int .i64 n_2])
 (Q [A.c (D.sl es_1), A.c (D.sl [[D.int .u32 (IntKind.wrap .u32 n_1)]])])) := by kernel_rfl
end Eng
end

section
open Go Go.Proofs Eng
set_option maxRecDepth 1000000
namespace Eng
theorem vc_times (Gv : Nat → List A → List A → Prop) (I0 : List D → List D → Prop) (M0 : List D → Nat) (I1 : List D → List D → Prop) (M1 : List D → Nat) (es fs : List (List D)) (Q : Nat → List (List D) → Prop) :
 wpFo C0 Gv (ann2 ⟨[.own 5 68 1, .slot 20 (.int .i64 0)], [], I0, M0⟩ ⟨[.own 5 68 1, .slot 8 (.int .u64 0), .slot 27 (.int .i64 0)], [.slot 6 (.int .i64 0), .slot 7 (.int .u32 0), .own 5 68 1], I1, M1⟩) Tryz.f190 [.c (.sl es), .c (.sl fs)] Q = (
 ((0 : Int) ≤ IntKind.wrap .i64 ((Int.ofNat (List.length es)) + (Int.ofNat (List.length fs))) ∧
 IntKind.wrap .i64 ((Int.ofNat (List.length es)) + (Int.ofNat (List.length fs))) ≤ IntKind.wrap .i64 ((Int.ofNat (List.length es)) + (Int.ofNat (List.length fs))) ∧
 room (Int.toNat (IntKind.wrap .i64 ((Int.ofNat (List.length es)) + (Int.ofNat (List.length fs)))))) ∧
 I0 []
 [D.sl (List.replicate (Int.toNat (IntKind.wrap .i64 ((Int.ofNat (List.length es)) + (Int.ofNat (List.length fs))))) [D.int .u32 (0 : Int)]),
 D.int .i64 (0 : Int)] ∧
 ∀ (es_1 : List (List D)) (n : Int),
 I0 [] [D.sl es_1, D.int .i64 n] →
 br (toB (D.bool (decide (n < (Int.ofNat (List.length es))))))
 (((0 : Int) ≤ n ∧ n < (Int.ofNat (List.length es)) ∧ List.length (nth [] es (Int.toNat n)) = 1) ∧
 ∃ n_1,
 cut (nth [] es (Int.toNat n)) 0 1 [D.int .u32 n_1] ∧
 I1 [D.int .i64 n, D.int .u32 n_1, D.sl es_1] [D.sl es_1, D.int .u64 (0 : Int), D.int .i64 (0 : Int)] ∧
 ∀ (es : List (List D)) (n_2 n_3 : Int),
 I1 [D.int .i64 n, D.int .u32 n_1, D.sl es_1] [D.sl es, D.int .u64 n_2, D.int .i64 n_3] →
 br (toB (D.bool (decide (n_3 < (Int.ofNat (List.length fs))))))
 (((0 : Int) ≤ n_3 ∧ n_3 < (Int.ofNat (List.length fs)) ∧ List.length (nth [] fs (Int.toNat n_3)) = 1) ∧
 ∃ n_4,
 cut (nth [] fs (Int.toNat n_3)) 0 1 [D.int .u32 n_4] ∧
 ((0 : Int) ≤ IntKind.wrap .i64 (n + n_3) ∧ IntKind.wrap .i64 (n + n_3) < (Int.ofNat (List.length es))) ∧
 ∃ n_5,
 cut (nth [] es (Int.toNat (IntKind.wrap .i64 (n + n_3)))) 0 1 [D.int .u32 n_5] ∧
 (1000000000 : Int) ≠ (0 : Int) ∧
 (1000000000 : Int) ≠ (0 : Int) ∧
 ((0 : Int) ≤ IntKind.wrap .i64 (n + n_3) ∧ IntKind.wrap .i64 (n + n_3) < (Int.ofNat (List.length es))) ∧
 0 < 1 ∧
 I1 [D.int .i64 n, D.int .u32 n_1, D.sl es_1]
 [D.sl
 (upd es (Int.toNat (IntKind.wrap .i64 (n + n_3)))
 (upd (nth [] es (Int.toNat (IntKind.wrap .i64 (n + n_3)))) 0
 (D.int .u32
 (IntKind.wrap .u32
 (Int.tmod
 (IntKind.wrap .u64
 (IntKind.wrap .u64
 (IntKind.wrap .u64 n_5 +
 IntKind.wrap .u64 (IntKind.wrap .u64 n_1 * IntKind.wrap .u64 n_4)) +
 n_2))
 (1000000000 : Int)))))),
 D.int .u64
 (IntKind.wrap .u64
 (Int.tdiv
 (IntKind.wrap .u64
 (IntKind.wrap .u64
 (IntKind.wrap .u64 n_5 +
 IntKind.wrap .u64 (IntKind.wrap .u64 n_1 * IntKind.wrap .u64 n_4)) +
 n_2))
 (1000000000 : Int))),
 D.int .i64 (IntKind.wrap .i64 (n_3 + (1 : Int)))] ∧
 M1
 [D.sl
 (upd es (Int.toNat (IntKind.wrap .i64 (n + n_3)))
 (upd (nth [] es (Int.toNat (IntKind.wrap .i64 (n + n_3)))) 0
 (D.int .u32
 (IntKind.wrap .u32
 (Int.tmod
 (IntKind.wrap .u64
 (IntKind.wrap .u64
 (IntKind.wrap .u64 n_5 +
 IntKind.wrap .u64
 (IntKind.wrap .u64 n_1 * IntKind.wrap .u64 n_4)) +
 n_2))
 (1000000000 : Int)))))),
 D.int .u64
 (IntKind.wrap .u64
 (Int.tdiv
 (IntKind.wrap .u64
 (IntKind.wrap .u64
 (IntKind.wrap .u64 n_5 +
 IntKind.wrap .u64 (IntKind.wrap .u64 n_1 * IntKind.wrap .u64 n_4)) +
 n_2))
 (1000000000 : Int))),
 D.int .i64 (IntKind.wrap .i64 (n_3 + (1 : Int)))] <
 M1 [D.sl es, D.int .u64 n_2, D.int .i64 n_3])
 (((0 : Int) ≤ IntKind.wrap .i64 (n + (Int.ofNat (List.length fs))) ∧ IntKind.wrap .i64 (n + (Int.ofNat (List.length fs))) < (Int.ofNat (List.length es))) ∧
 0 < 1 ∧
 I0 []
 [D.sl
 (upd es (Int.toNat (IntKind.wrap .i64 (n + (Int.ofNat (List.length fs)))))
 (upd (nth [] es (Int.toNat (IntKind.wrap .i64 (n + (Int.ofNat (List.length fs)))))) 0
 (D.int .u32 (IntKind.wrap .u32 n_2)))),
 D.int .i64 (IntKind.wrap .i64 (n + (1 : Int)))] ∧
 M0
 [D.sl
 (upd es (Int.toNat (IntKind.wrap .i64 (n + (Int.ofNat (List.length fs)))))
 (upd (nth [] es (Int.toNat (IntKind.wrap .i64 (n + (Int.ofNat (List.length fs)))))) 0
 (D.int .u32 (IntKind.wrap .u32 n_2)))),
 D.int .i64 (IntKind.wrap .i64 (n + (1 : Int)))] <
 M0 [D.sl es_1, D.int .i64 n]))
 ((es_1 ≠ [] ∧ flatEs es_1 = true) ∧ Q 1 es_1)) := by kernel_rfl
end Eng
end

section
namespace Eng
open Go Go.Proofs
set_option maxRecDepth 100000
theorem itrim_ok {l : List Nat} (hl : Limbs l) (hr : l.length ≤ 1073741824) : Gives C0 307 [.c (.sl (raw l))] [.c (.sl (raw (lim (val l))))] := by
 refine wpF_ok (anns := fun _ => ⟨[.slot 0 (.slice none 0 0)], [], fun _ ds => ∃ k, k ≤ l.length ∧ ds = [.sl (raw (l.take k))] ∧ val (l.take k) = val l, fun ds => (toL (nth .undef ds 0)).length⟩) mixedT Tryz.func307 ?_
 rw [vc_trim]
 simp only [Int.ofNat_eq_natCast]
 refine ⟨⟨l.length, Nat.le_refl _, by rw [List.take_length], by rw [List.take_length]⟩, ?_⟩
 rintro es ⟨k, hk, he, hv⟩
 simp only [List.cons.injEq, D.sl.injEq, and_true] at he
 subst he
 have hlen : (raw (l.take k)).length = k := by rw [raw_length, List.length_take]; omega
 have hfin : (k = 0 ∨ ∃ h : k - 1 < l.length, l[k - 1] ≠ 0) → [A.c (D.sl (raw (l.take k)))] = [A.c (D.sl (raw (lim (val l))))] := by
  intro h
  rw [← hv, lim_uniq (hl.take k)]
  rcases h with rfl | ⟨h, hne⟩
  ·exact .inl (by simp)
  ·refine .inr ?_
   rw [List.getLast?_take]
   split
   ·simp
   ·rw [List.getElem?_eq_getElem h]
    simpa using hne
 refine brd (fun h => ?_) (fun h => ?_)
 ·rw [hlen] at h ⊢
  have hk0 : 0 < k := by omega
  have hw : IntKind.wrap .i64 ((k : Int) - 1) = ((k - 1 : Nat) : Int) := by rw [i64w (by omega) (by omega)]; omega
  rw [hw]
  have hkl : k - 1 < (l.take k).length := by rw [List.length_take]; omega
  have hg : (l.take k)[k - 1] = l[k - 1] := List.getElem_take ..
  refine ⟨⟨by omega, by omega, raw_len1 hkl⟩, _, cut_raw hkl, brb (fun hz => ?_) (fun hz => ?_)⟩
  ·have hz : l[k - 1] = 0 := by rw [hg] at hz; simpa using hz
   refine ⟨⟨by omega, by omega, by omega, lens_raw _⟩, ⟨k - 1, by omega, ?_, ?_⟩, ?_⟩
   ·simp only [Int.toNat_natCast, raw_take, List.drop_zero, List.take_take]
    congr 4
    omega
   ·have : l.take k = l.take (k - 1) ++ [l[k - 1]] := by
     have := List.take_succ_eq_append_getElem (l := l) (i := k - 1) (by omega)
     rw [show k - 1 + 1 = k by omega] at this
     exact this
    rw [← hv, this, hz, val_append]
    simp [val]
   ·simp only [Int.toNat_natCast, nth, toL, List.drop_zero, List.length_take, hlen]
    omega
  ·exact hfin (.inr ⟨by omega, by rw [hg] at hz; simpa using hz⟩)
 ·rw [hlen] at h
  exact hfin (.inl (by omega))
def cmpN (a b : Nat) : Int := if a < b then -1 else if b < a then 1 else 0
theorem val_drop_lt {a b : List Nat} (ha : Limbs a) (hl : a.length = b.length) {k : Nat} (hk : k < a.length) (hd : a.drop (k + 1) = b.drop (k + 1)) (h : a[k] < b[k]) : val a < val b := by
 have e1 : a = a.take k ++ a[k] :: a.drop (k + 1) := by rw [← List.drop_eq_getElem_cons hk, List.take_append_drop]
 have e2 : b = b.take k ++ b[k] :: b.drop (k + 1) := by rw [← List.drop_eq_getElem_cons (by omega), List.take_append_drop]
 rw [e1, e2, val_append, val_append, hd]
 have l1 : (a.take k).length = k := by rw [List.length_take]; omega
 have l2 : (b.take k).length = k := by rw [List.length_take]; omega
 rw [l1, l2]
 have h1 := val_lt (ha.take k)
 rw [l1] at h1
 simp only [val]
 have : 1000000000 ^ k * (a[k] + 1 + 1000000000 * val (b.drop (k + 1))) ≤ 1000000000 ^ k * (b[k] + 1000000000 * val (b.drop (k + 1))) := Nat.mul_le_mul_left _ (by omega)
 have e3 : 1000000000 ^ k * (a[k] + 1 + 1000000000 * val (b.drop (k + 1))) = 1000000000 ^ k * (a[k] + 1000000000 * val (b.drop (k + 1))) + 1000000000 ^ k := by
  rw [show a[k] + 1 + 1000000000 * val (b.drop (k + 1)) = (a[k] + 1000000000 * val (b.drop (k + 1))) + 1 by omega, Nat.mul_add, Nat.mul_one]
 omega
theorem icompare_ok {a b : List Nat} (ha : Limbs a) (hb : Limbs b) (hra : a.length ≤ 1073741824) (hrb : b.length ≤ 1073741824) : Gives C0 266 [.c (.sl (raw a)), .c (.sl (raw b))] [.c (.int .i64 (cmpN (val a) (val b)))] := by
 generalize hA : lim (val a) = A
 generalize hB : lim (val b) = B
 have lA : Limbs A := hA ▸ lim_limbs _
 have lB : Limbs B := hB ▸ lim_limbs _
 have vA : val A = val a := hA ▸ lim_val _
 have vB : val B = val b := hB ▸ lim_val _
 have zA : A = [] ∨ A.getLast? ≠ some 0 := hA ▸ lim_last _
 have zB : B = [] ∨ B.getLast? ≠ some 0 := hB ▸ lim_last _
 have nA : A.length ≤ a.length := hA ▸ lim_length_le (val_lt ha)
 have nB : B.length ≤ b.length := hB ▸ lim_length_le (val_lt hb)
 refine wpF_ok (anns := fun _ => ⟨[.slot 5 (.int .i64 0)], [], fun _ ds => ∃ k : Nat, k ≤ A.length ∧ ds = [.int .i64 ((k : Int) - 1)] ∧ A.drop k = B.drop k, fun ds => (toI (nth .undef ds 0) + 1).toNat⟩) mixedT Tryz.func266 ?_
 rw [vc_compare]
 simp only [Int.ofNat_eq_natCast]
 refine ⟨_, itrim_ok ha hra, _, itrim_ok hb hrb, ?_⟩
 rw [hA, hB, raw_length, raw_length]
 refine brb (fun h => ?_) (fun h => ?_)
 ·have h : A.length ≠ B.length := by
   intro e; rw [e] at h; simp at h
  refine brd (fun h1 => ?_) (fun h1 => ?_)
  ·have hne : B ≠ [] := (by intro e; have h0 : B.length = 0 := (by rw [e]; rfl); omega)
   have := len_lt lA (zB.resolve_left hne) hne (by omega)
   rw [cmpN, if_pos (by omega)]
  ·have hne : A ≠ [] := (by intro e; have h0 : A.length = 0 := (by rw [e]; rfl); omega)
   have := len_lt lB (zA.resolve_left hne) hne (by omega)
   rw [cmpN, if_neg (by omega), if_pos (by omega)]
 ·have h : A.length = B.length := by
   have : (A.length : Int) = B.length := by simpa using h
   omega
  refine ⟨⟨A.length, Nat.le_refl _, by rw [i64w (by omega) (by omega)], by rw [List.drop_length, h, List.drop_length]⟩, ?_⟩
  rintro n ⟨k, hk, he, hd⟩
  simp only [List.cons.injEq, D.int.injEq, true_and, and_true] at he
  subst he
  refine brd (fun h1 => ?_) (fun h1 => ?_)
  ·have hk0 : k - 1 < A.length := by omega
   have hk1 : k - 1 < B.length := by omega
   have ht : ((k : Int) - 1).toNat = k - 1 := by omega
   have hd' : A.drop (k - 1 + 1) = B.drop (k - 1 + 1) := by rw [show k - 1 + 1 = k by omega]; exact hd
   rw [ht]
   refine ⟨⟨by omega, by omega, raw_len1 hk0⟩, _, cut_raw hk0, ⟨by omega, by omega, raw_len1 hk1⟩, _, cut_raw hk1, brd (fun h2 => ?_) (fun h2 => ?_)⟩
   ·have := val_drop_lt lA h hk0 hd' (by omega)
    rw [cmpN, if_pos (by omega)]
   ·refine ⟨⟨by omega, by omega, raw_len1 hk0⟩, _, cut_raw hk0, ⟨by omega, by omega, raw_len1 hk1⟩, _, cut_raw hk1, brd (fun h3 => ?_) (fun h3 => ?_)⟩
    ·have := val_drop_lt lB h.symm hk1 hd'.symm (by omega)
     rw [cmpN, if_neg (by omega), if_pos (by omega)]
    ·have hw : IntKind.wrap .i64 ((k : Int) - 1 - 1) = ((k - 1 : Nat) : Int) - 1 := by rw [i64w (by omega) (by omega)]; omega
     rw [hw]
     refine ⟨⟨k - 1, by omega, rfl, ?_⟩, ?_⟩
     ·rw [List.drop_eq_getElem_cons hk0, List.drop_eq_getElem_cons hk1, hd']
      congr 1
      omega
     ·simp only [nth, toI]; omega
  ·have hk0 : k = 0 := by omega
   subst hk0
   have : A = B := by simpa using hd
   rw [cmpN, ← vA, ← vB, this, if_neg (by omega), if_neg (by omega)]
theorem isigned_ok {l : List Nat} (b : Bool) (hl : Limbs l) (hr : l.length ≤ 1073741824) : Gives C0 189 [.c (.bool b), .c (.sl (raw l))] [.ag [.bool (b && decide (0 < val l)), .sl (raw (lim (val l)))]] := by
 refine wpF_ok (anns := fun _ => ⟨[.slot 5 (.int .i64 0)], [], fun _ ds => ∃ k : Nat, k ≤ l.length ∧ ds = [.int .i64 (k : Int)] ∧ val (l.take k) = val l, fun ds => (toI (nth .undef ds 0)).toNat⟩) mixedT Tryz.func189 ?_
 rw [vc_signed]
 simp only [Int.ofNat_eq_natCast]
 refine ⟨⟨l.length, Nat.le_refl _, by rw [raw_length], by rw [List.take_length]⟩, ?_⟩
 rintro n ⟨k, hk, he, hv⟩
 simp only [List.cons.injEq, D.int.injEq, true_and, and_true] at he
 subst he
 have hfin : (k = 0 ∨ ∃ h : k - 1 < l.length, l[k - 1] ≠ 0) → List.drop 0 (List.take (k : Int).toNat (raw l)) = raw (lim (val l)) ∧ (0 < val l ↔ 0 < k) := by
  intro h
  have h0 : lim (val l) = l.take k := by
   rw [← hv, lim_uniq (hl.take k)]
   rcases h with rfl | ⟨h, hne⟩
   ·exact .inl (by simp)
   ·refine .inr ?_
    rw [List.getLast?_take]
    split
    ·simp
    ·rw [List.getElem?_eq_getElem h]
     simpa using hne
  refine ⟨by rw [h0, Int.toNat_natCast, raw_take, List.drop_zero], ?_⟩
  rw [← lim_len_pos, h0, List.length_take]
  omega
 have hend : (k = 0 ∨ ∃ h : k - 1 < l.length, l[k - 1] ≠ 0) →
  br b
   (((0 : Int) ≤ 0 ∧ (0 : Int) ≤ k ∧ (k : Int) ≤ k ∧ (k : Int) ≤ (raw l).length ∧ lens 1 (raw l)) ∧
     [A.ag [D.bool (decide ((k : Int) > 0)), D.sl (List.drop 0 (List.take (k : Int).toNat (raw l)))]] = [.ag [.bool (b && decide (0 < val l)), .sl (raw (lim (val l)))]])
   (((0 : Int) ≤ 0 ∧ (0 : Int) ≤ k ∧ (k : Int) ≤ k ∧ (k : Int) ≤ (raw l).length ∧ lens 1 (raw l)) ∧
     [A.ag [D.bool false, D.sl (List.drop 0 (List.take (k : Int).toNat (raw l)))]] = [.ag [.bool (b && decide (0 < val l)), .sl (raw (lim (val l)))]]) := by
  intro h
  obtain ⟨h1, h2⟩ := hfin h
  rw [h1, raw_length]
  refine brb' (fun hb => ?_) (fun hb => ?_)
  ·subst hb
   refine ⟨⟨by omega, by omega, by omega, by omega, lens_raw _⟩, ?_⟩
   have : decide ((k : Int) > 0) = decide (0 < val l) := by
    rw [decide_eq_decide]; omega
   rw [this, Bool.true_and]
  ·subst hb
   exact ⟨⟨by omega, by omega, by omega, by omega, lens_raw _⟩, by rw [Bool.false_and]⟩
 refine brd (fun h => ?_) (fun h => ?_)
 ·have hw : IntKind.wrap .i64 ((k : Int) - 1) = ((k - 1 : Nat) : Int) := by rw [i64w (by omega) (by omega)]; omega
  rw [hw, Int.toNat_natCast]
  have hkl : k - 1 < l.length := by omega
  refine ⟨⟨by omega, by rw [raw_length]; omega, raw_len1 hkl⟩, _, cut_raw hkl, brb (fun hz => ?_) (fun hz => ?_)⟩
  ·have hz : l[k - 1] = 0 := by simpa using hz
   refine ⟨⟨k - 1, by omega, rfl, ?_⟩, ?_⟩
   ·have : l.take k = l.take (k - 1) ++ [l[k - 1]] := by
     have := List.take_succ_eq_append_getElem (l := l) (i := k - 1) (by omega)
     rw [show k - 1 + 1 = k by omega] at this
     exact this
    rw [← hv, this, hz, val_append]
    simp [val]
   ·simp only [nth, toI]; omega
  ·exact hend (.inr ⟨hkl, by simpa using hz⟩)
 ·exact hend (.inl (by omega))
end Eng
end

section
namespace Eng
open Go Go.Proofs
set_option maxRecDepth 100000
theorem val_take_succ (l : List Nat) (k : Nat) : val (l.take (k + 1)) = val (l.take k) + 1000000000 ^ k * l.getD k 0 := by
 by_cases h : k < l.length
 ·rw [List.take_succ_eq_append_getElem h, val_append, List.length_take, Nat.min_eq_left (by omega)]
  simp [val, List.getD, h]
 ·rw [List.take_of_length_le (by omega), List.take_of_length_le (by omega)]
  simp [List.getD, h]
theorem getD_ge {l : List Nat} {k : Nat} (h : l.length ≤ k) : l.getD k 0 = 0 := by simp [List.getD, List.getElem?_eq_none h]
theorem val_snoc (o : List Nat) (d : Nat) : val (o ++ [d]) = val o + 1000000000 ^ o.length * d := by rw [val_append]; simp [val]
theorem pow_dist {k d c t : Nat} (h : d + 1000000000 * c = t) : 1000000000 ^ k * d + 1000000000 ^ (k + 1) * c = 1000000000 ^ k * t := by
 rw [← h, Nat.mul_add, Nat.pow_succ, Nat.mul_assoc]
theorem plus_step {x y o : List Nat} {k c d c' : Nat} (hk : k < x.length) (ho : o.length = k) (hv : val o + 1000000000 ^ k * c = val (x.take k) + val (y.take k)) (ht : d + 1000000000 * c' = x[k] + c + y.getD k 0) :
 val (o ++ [d]) + 1000000000 ^ (k + 1) * c' = val (x.take (k + 1)) + val (y.take (k + 1)) := by
 rw [val_snoc, ho, val_take_succ, val_take_succ]
 have h1 := pow_dist (k := k) ht
 have h2 : x.getD k 0 = x[k] := by simp [List.getD, hk]
 rw [h2]
 have h3 : 1000000000 ^ k * (x[k] + c + y.getD k 0) = 1000000000 ^ k * x[k] + 1000000000 ^ k * c + 1000000000 ^ k * y.getD k 0 := by rw [Nat.mul_add, Nat.mul_add]
 omega
theorem iplus_ok {a b : List Nat} (ha : Limbs a) (hb : Limbs b) (hra : a.length ≤ 1073741823) (hrb : b.length ≤ 1073741823) : Gives C0 311 [.c (.sl (raw a)), .c (.sl (raw b))] [.c (.sl (raw (pad (max a.length b.length + 1) (val a + val b))))] := by
 by_cases hab : a.length < b.length
 ·refine wpF_ok (anns := fun _ => ⟨[.own 5 53 1, .slot 6 (.int .u32 0), .slot 22 (.int .i64 0)], [], fun _ ds => ∃ (k : Nat) (o : List Nat) (c : Nat), k ≤ b.length ∧ o.length = k ∧ ds = [.sl (raw o), .int .u32 (c : Int), .int .i64 (k : Int)] ∧ Limbs o ∧ c ≤ 1 ∧ val o + 1000000000 ^ k * c = val (b.take k) + val (a.take k), fun ds => b.length - (toI (nth .undef ds 2)).toNat⟩) mixedT Tryz.func311 ?_
  rw [vc_plus]
  simp only [Int.ofNat_eq_natCast, raw_length]
  refine brd (fun h0 => ?_) (fun h0 => ?_)
  ·skip
   refine ⟨⟨by omega, by rw [i64w (by omega) (by omega)]; omega, by rw [i64w (by omega) (by omega)]; unfold room; omega⟩, ⟨0, [], 0, by omega, rfl, rfl, Limbs.nil, by omega, by simp [val]⟩, ?_⟩
   rintro es n m ⟨k, o, c, hk, ho, he, lo, hc, hv⟩
   simp only [List.cons.injEq, D.int.injEq, D.sl.injEq, true_and, and_true] at he
   obtain ⟨rfl, rfl, rfl⟩ := he
   refine brd (fun h1 => ?_) (fun h1 => ?_)
   ·have hkx : k < b.length := by omega
    have hxk := hb.get hkx
    have hk1 : IntKind.wrap .i64 ((k : Int) + 1) = ((k + 1 : Nat) : Int) := by rw [i64w (by omega) (by omega)]; omega
    rw [Int.toNat_natCast, hk1, raw_length, ho]
    refine ⟨⟨by omega, by omega, raw_len1 hkx⟩, _, cut_raw hkx, brd (fun h2 => ?_) (fun h2 => ?_)⟩
    ·have hky : k < a.length := by omega
     have hyk := ha.get hky
     have hgd : a.getD k 0 = a[k] := by simp [List.getD, hky]
     refine ⟨⟨by omega, by omega, raw_len1 hky⟩, _, cut_raw hky, ?_⟩
     have hw : IntKind.wrap .u32 (IntKind.wrap .u32 ((b[k] : Int) + (c : Int)) + (a[k] : Int)) = ((b[k] + c + a[k] : Nat) : Int) := by rw [u32w (n := (b[k] : Int) + (c : Int)) (by omega) (by omega), u32w (by omega) (by omega)]; omega
     rw [hw]
     refine brd (fun h3 => ?_) (fun h3 => ?_)
     ·have hw2 : IntKind.wrap .u32 (((b[k] + c + a[k] : Nat) : Int) - 1000000000) = ((b[k] + c + a[k] - 1000000000 : Nat) : Int) := by rw [u32w (by omega) (by omega)]; omega
      rw [hw2]
      refine ⟨⟨by unfold room; omega, fun e he => by simp at he; subst he; rfl⟩, ⟨k + 1, o ++ [b[k] + c + a[k] - 1000000000], 1, by omega, by simp [ho], by rw [raw_append]; rfl, lo.append (Limbs.cons (by omega) Limbs.nil), by omega, plus_step hkx ho hv (by have := hgd; omega)⟩, ?_⟩
      simp only [nth, toI]; omega
     ·refine ⟨⟨by unfold room; omega, fun e he => by simp at he; subst he; rfl⟩, ⟨k + 1, o ++ [b[k] + c + a[k]], 0, by omega, by simp [ho], by rw [raw_append]; rfl, lo.append (Limbs.cons (by omega) Limbs.nil), by omega, plus_step hkx ho hv (by have := hgd; omega)⟩, ?_⟩
      simp only [nth, toI]; omega
    ·have hgd : a.getD k 0 = 0 := getD_ge (by omega)
     have hw : IntKind.wrap .u32 ((b[k] : Int) + (c : Int)) = ((b[k] + c : Nat) : Int) := by rw [u32w (by omega) (by omega)]; omega
     rw [hw]
     refine brd (fun h3 => ?_) (fun h3 => ?_)
     ·have hw2 : IntKind.wrap .u32 (((b[k] + c : Nat) : Int) - 1000000000) = ((b[k] + c - 1000000000 : Nat) : Int) := by rw [u32w (by omega) (by omega)]; omega
      rw [hw2]
      refine ⟨⟨by unfold room; omega, fun e he => by simp at he; subst he; rfl⟩, ⟨k + 1, o ++ [b[k] + c - 1000000000], 1, by omega, by simp [ho], by rw [raw_append]; rfl, lo.append (Limbs.cons (by omega) Limbs.nil), by omega, plus_step hkx ho hv (by have := hgd; omega)⟩, ?_⟩
      simp only [nth, toI]; omega
     ·refine ⟨⟨by unfold room; omega, fun e he => by simp at he; subst he; rfl⟩, ⟨k + 1, o ++ [b[k] + c], 0, by omega, by simp [ho], by rw [raw_append]; rfl, lo.append (Limbs.cons (by omega) Limbs.nil), by omega, plus_step hkx ho hv (by have := hgd; omega)⟩, ?_⟩
      simp only [nth, toI]; omega
   ·have hkx : k = b.length := by omega
    subst hkx
    rw [raw_length, ho]
    refine ⟨⟨by unfold room; omega, fun e he => by simp at he; subst he; rfl⟩, ?_⟩
    rw [List.take_length, List.take_of_length_le (by omega)] at hv
    have e1 : raw o ++ [[D.int .u32 (c : Int)]] = raw (o ++ [c]) := by rw [raw_append]; rfl
    have l1 : Limbs (o ++ [c]) := lo.append (Limbs.cons (by omega) Limbs.nil)
    have v1 : val (o ++ [c]) = val a + val b := by
     rw [val_snoc, ho]; omega
    have e2 : o ++ [c] = pad (max a.length b.length + 1) (val a + val b) := by
     rw [← v1, ← val_pad l1]
     congr 1
     ·simp [ho]; omega
     ·rw [val_pad l1]
    rw [e1, e2]
  ·omega
 ·refine wpF_ok (anns := fun _ => ⟨[.own 5 53 1, .slot 6 (.int .u32 0), .slot 22 (.int .i64 0)], [], fun _ ds => ∃ (k : Nat) (o : List Nat) (c : Nat), k ≤ a.length ∧ o.length = k ∧ ds = [.sl (raw o), .int .u32 (c : Int), .int .i64 (k : Int)] ∧ Limbs o ∧ c ≤ 1 ∧ val o + 1000000000 ^ k * c = val (a.take k) + val (b.take k), fun ds => a.length - (toI (nth .undef ds 2)).toNat⟩) mixedT Tryz.func311 ?_
  rw [vc_plus]
  simp only [Int.ofNat_eq_natCast, raw_length]
  refine brd (fun h0 => ?_) (fun h0 => ?_)
  ·omega
  ·skip
   refine ⟨⟨by omega, by rw [i64w (by omega) (by omega)]; omega, by rw [i64w (by omega) (by omega)]; unfold room; omega⟩, ⟨0, [], 0, by omega, rfl, rfl, Limbs.nil, by omega, by simp [val]⟩, ?_⟩
   rintro es n m ⟨k, o, c, hk, ho, he, lo, hc, hv⟩
   simp only [List.cons.injEq, D.int.injEq, D.sl.injEq, true_and, and_true] at he
   obtain ⟨rfl, rfl, rfl⟩ := he
   refine brd (fun h1 => ?_) (fun h1 => ?_)
   ·have hkx : k < a.length := by omega
    have hxk := ha.get hkx
    have hk1 : IntKind.wrap .i64 ((k : Int) + 1) = ((k + 1 : Nat) : Int) := by rw [i64w (by omega) (by omega)]; omega
    rw [Int.toNat_natCast, hk1, raw_length, ho]
    refine ⟨⟨by omega, by omega, raw_len1 hkx⟩, _, cut_raw hkx, brd (fun h2 => ?_) (fun h2 => ?_)⟩
    ·have hky : k < b.length := by omega
     have hyk := hb.get hky
     have hgd : b.getD k 0 = b[k] := by simp [List.getD, hky]
     refine ⟨⟨by omega, by omega, raw_len1 hky⟩, _, cut_raw hky, ?_⟩
     have hw : IntKind.wrap .u32 (IntKind.wrap .u32 ((a[k] : Int) + (c : Int)) + (b[k] : Int)) = ((a[k] + c + b[k] : Nat) : Int) := by rw [u32w (n := (a[k] : Int) + (c : Int)) (by omega) (by omega), u32w (by omega) (by omega)]; omega
     rw [hw]
     refine brd (fun h3 => ?_) (fun h3 => ?_)
     ·have hw2 : IntKind.wrap .u32 (((a[k] + c + b[k] : Nat) : Int) - 1000000000) = ((a[k] + c + b[k] - 1000000000 : Nat) : Int) := by rw [u32w (by omega) (by omega)]; omega
      rw [hw2]
      refine ⟨⟨by unfold room; omega, fun e he => by simp at he; subst he; rfl⟩, ⟨k + 1, o ++ [a[k] + c + b[k] - 1000000000], 1, by omega, by simp [ho], by rw [raw_append]; rfl, lo.append (Limbs.cons (by omega) Limbs.nil), by omega, plus_step hkx ho hv (by have := hgd; omega)⟩, ?_⟩
      simp only [nth, toI]; omega
     ·refine ⟨⟨by unfold room; omega, fun e he => by simp at he; subst he; rfl⟩, ⟨k + 1, o ++ [a[k] + c + b[k]], 0, by omega, by simp [ho], by rw [raw_append]; rfl, lo.append (Limbs.cons (by omega) Limbs.nil), by omega, plus_step hkx ho hv (by have := hgd; omega)⟩, ?_⟩
      simp only [nth, toI]; omega
    ·have hgd : b.getD k 0 = 0 := getD_ge (by omega)
     have hw : IntKind.wrap .u32 ((a[k] : Int) + (c : Int)) = ((a[k] + c : Nat) : Int) := by rw [u32w (by omega) (by omega)]; omega
     rw [hw]
     refine brd (fun h3 => ?_) (fun h3 => ?_)
     ·have hw2 : IntKind.wrap .u32 (((a[k] + c : Nat) : Int) - 1000000000) = ((a[k] + c - 1000000000 : Nat) : Int) := by rw [u32w (by omega) (by omega)]; omega
      rw [hw2]
      refine ⟨⟨by unfold room; omega, fun e he => by simp at he; subst he; rfl⟩, ⟨k + 1, o ++ [a[k] + c - 1000000000], 1, by omega, by simp [ho], by rw [raw_append]; rfl, lo.append (Limbs.cons (by omega) Limbs.nil), by omega, plus_step hkx ho hv (by have := hgd; omega)⟩, ?_⟩
      simp only [nth, toI]; omega
     ·refine ⟨⟨by unfold room; omega, fun e he => by simp at he; subst he; rfl⟩, ⟨k + 1, o ++ [a[k] + c], 0, by omega, by simp [ho], by rw [raw_append]; rfl, lo.append (Limbs.cons (by omega) Limbs.nil), by omega, plus_step hkx ho hv (by have := hgd; omega)⟩, ?_⟩
      simp only [nth, toI]; omega
   ·have hkx : k = a.length := by omega
    subst hkx
    rw [raw_length, ho]
    refine ⟨⟨by unfold room; omega, fun e he => by simp at he; subst he; rfl⟩, ?_⟩
    rw [List.take_length, List.take_of_length_le (by omega)] at hv
    have e1 : raw o ++ [[D.int .u32 (c : Int)]] = raw (o ++ [c]) := by rw [raw_append]; rfl
    have l1 : Limbs (o ++ [c]) := lo.append (Limbs.cons (by omega) Limbs.nil)
    have v1 : val (o ++ [c]) = val a + val b := by
     rw [val_snoc, ho]; omega
    have e2 : o ++ [c] = pad (max a.length b.length + 1) (val a + val b) := by
     rw [← v1, ← val_pad l1]
     congr 1
     ·simp [ho]; omega
     ·rw [val_pad l1]
    rw [e1, e2]
theorem upd_raw {l : List Nat} {i x : Nat} (h : i < l.length) : upd (raw l) i (upd (nth [] (raw l) i) 0 (.int .u32 (x : Int))) = raw (l.set i x) := by
 rw [nth_raw h]
 exact raw_set l i x
theorem set_rep {o : List Nat} {k m d : Nat} (ho : o.length = k) (hm : 0 < m) : (o ++ List.replicate m 0).set k d = (o ++ [d]) ++ List.replicate (m - 1) 0 := by
 obtain ⟨m, rfl⟩ : ∃ m', m = m' + 1 := ⟨m - 1, by omega⟩
 rw [List.replicate_succ, List.set_append_right _ _ (by omega), ho]
 simp
theorem minus_step {x y o : List Nat} {k c d c' : Nat} (hk : k < x.length) (ho : o.length = k) (hv : val o + val (y.take k) = val (x.take k) + 1000000000 ^ k * c) (ht : d + c + y.getD k 0 = x[k] + 1000000000 * c') :
 val (o ++ [d]) + val (y.take (k + 1)) = val (x.take (k + 1)) + 1000000000 ^ (k + 1) * c' := by
 rw [val_snoc, ho, val_take_succ, val_take_succ]
 have h2 : x.getD k 0 = x[k] := by simp [List.getD, hk]
 rw [h2]
 have h3 : 1000000000 ^ k * (d + c + y.getD k 0) = 1000000000 ^ k * d + 1000000000 ^ k * c + 1000000000 ^ k * y.getD k 0 := by rw [Nat.mul_add, Nat.mul_add]
 have h4 : 1000000000 ^ k * (x[k] + 1000000000 * c') = 1000000000 ^ k * x[k] + 1000000000 ^ (k + 1) * c' := by rw [Nat.mul_add, Nat.pow_succ, Nat.mul_assoc]
 rw [ht] at h3
 omega
theorem iminus_ok {a b : List Nat} (ha : Limbs a) (hb : Limbs b) (hra : a.length ≤ 1073741824) (hab : val b ≤ val a) : Gives C0 312 [.c (.sl (raw a)), .c (.sl (raw b))] [.c (.sl (raw (pad a.length (val a - val b))))] := by
 refine wpF_ok (anns := fun _ => ⟨[.own 5 45 1, .slot 6 (.int .u32 0), .slot 15 (.int .i64 0)], [], fun _ ds => ∃ (k : Nat) (o : List Nat) (c : Nat), k ≤ a.length ∧ o.length = k ∧ ds = [.sl (raw (o ++ List.replicate (a.length - k) 0)), .int .u32 (c : Int), .int .i64 (k : Int)] ∧ Limbs o ∧ c ≤ 1 ∧ val o + val (b.take k) = val (a.take k) + 1000000000 ^ k * c, fun ds => a.length - (toI (nth .undef ds 2)).toNat⟩) mixedT Tryz.func312 ?_
 rw [vc_minus]
 simp only [Int.ofNat_eq_natCast, raw_length]
 refine ⟨⟨by omega, by omega, by unfold room; omega⟩, ⟨0, [], 0, by omega, rfl, by rw [Int.toNat_natCast, raw_replicate]; rfl, Limbs.nil, by omega, by simp [val]⟩, ?_⟩
 rintro es n m ⟨k, o, c, hk, ho, he, lo, hc, hv⟩
 simp only [List.cons.injEq, D.int.injEq, D.sl.injEq, true_and, and_true] at he
 obtain ⟨rfl, rfl, rfl⟩ := he
 have hol : (o ++ List.replicate (a.length - k) 0).length = a.length := by simp [ho]; omega
 refine brd (fun h1 => ?_) (fun h1 => ?_)
 ·have hkx : k < a.length := by omega
  have hxk := ha.get hkx
  have hk1 : IntKind.wrap .i64 ((k : Int) + 1) = ((k + 1 : Nat) : Int) := by rw [i64w (by omega) (by omega)]; omega
  rw [Int.toNat_natCast, hk1, raw_length, hol]
  refine ⟨⟨by omega, by omega, raw_len1 hkx⟩, _, cut_raw hkx, brd (fun h2 => ?_) (fun h2 => ?_)⟩
  ·have hky : k < b.length := by omega
   have hyk := hb.get hky
   have hgd : b.getD k 0 = b[k] := by simp [List.getD, hky]
   refine ⟨⟨by omega, by omega, raw_len1 hky⟩, _, cut_raw hky, ?_⟩
   have hw : IntKind.wrap .u32 ((c : Int) + (b[k] : Int)) = ((c + b[k] : Nat) : Int) := by rw [u32w (by omega) (by omega)]; omega
   rw [hw]
   refine brd (fun h3 => ?_) (fun h3 => ?_)
   ·have hw2 : IntKind.wrap .u32 (IntKind.wrap .u32 ((a[k] : Int) + 1000000000) - ((c + b[k] : Nat) : Int)) = ((a[k] + 1000000000 - (c + b[k]) : Nat) : Int) := by rw [u32w (n := (a[k] : Int) + 1000000000) (by omega) (by omega), u32w (by omega) (by omega)]; omega
    rw [hw2, upd_raw (by simp [ho]; omega), set_rep ho (by omega)]
    refine ⟨⟨by omega, by omega⟩, by omega, ⟨k + 1, o ++ [a[k] + 1000000000 - (c + b[k])], 1, by omega, by simp [ho], by rw [show a.length - k - 1 = a.length - (k + 1) by omega]; rfl, lo.append (Limbs.cons (by omega) Limbs.nil), by omega, minus_step hkx ho hv (by have := hgd; omega)⟩, ?_⟩
    simp only [nth, toI]; omega
   ·have hw2 : IntKind.wrap .u32 ((a[k] : Int) - ((c + b[k] : Nat) : Int)) = ((a[k] - (c + b[k]) : Nat) : Int) := by rw [u32w (by omega) (by omega)]; omega
    rw [hw2, upd_raw (by simp [ho]; omega), set_rep ho (by omega)]
    refine ⟨⟨by omega, by omega⟩, by omega, ⟨k + 1, o ++ [a[k] - (c + b[k])], 0, by omega, by simp [ho], by rw [show a.length - k - 1 = a.length - (k + 1) by omega]; rfl, lo.append (Limbs.cons (by omega) Limbs.nil), by omega, minus_step hkx ho hv (by have := hgd; omega)⟩, ?_⟩
    simp only [nth, toI]; omega
  ·have hgd : b.getD k 0 = 0 := getD_ge (by omega)
   refine brd (fun h3 => ?_) (fun h3 => ?_)
   ·have hw2 : IntKind.wrap .u32 (IntKind.wrap .u32 ((a[k] : Int) + 1000000000) - (c : Int)) = ((a[k] + 1000000000 - (c) : Nat) : Int) := by rw [u32w (n := (a[k] : Int) + 1000000000) (by omega) (by omega), u32w (by omega) (by omega)]; omega
    rw [hw2, upd_raw (by simp [ho]; omega), set_rep ho (by omega)]
    refine ⟨⟨by omega, by omega⟩, by omega, ⟨k + 1, o ++ [a[k] + 1000000000 - (c)], 1, by omega, by simp [ho], by rw [show a.length - k - 1 = a.length - (k + 1) by omega]; rfl, lo.append (Limbs.cons (by omega) Limbs.nil), by omega, minus_step hkx ho hv (by have := hgd; omega)⟩, ?_⟩
    simp only [nth, toI]; omega
   ·have hw2 : IntKind.wrap .u32 ((a[k] : Int) - (c : Int)) = ((a[k] - (c) : Nat) : Int) := by rw [u32w (by omega) (by omega)]; omega
    rw [hw2, upd_raw (by simp [ho]; omega), set_rep ho (by omega)]
    refine ⟨⟨by omega, by omega⟩, by omega, ⟨k + 1, o ++ [a[k] - (c)], 0, by omega, by simp [ho], by rw [show a.length - k - 1 = a.length - (k + 1) by omega]; rfl, lo.append (Limbs.cons (by omega) Limbs.nil), by omega, minus_step hkx ho hv (by have := hgd; omega)⟩, ?_⟩
    simp only [nth, toI]; omega
 ·have hkx : k = a.length := by omega
  subst hkx
  rw [List.take_length] at hv
  rw [Nat.sub_self, List.replicate_zero, List.append_nil]
  have h2 := val_lt lo
  rw [ho] at h2
  have h3 : val b = val (b.take a.length) + 1000000000 ^ (b.take a.length).length * val (b.drop a.length) := by rw [← val_append, List.take_append_drop]
  have h4 := val_lt ha
  have h5 : val (b.take a.length) = val b := by
   rcases Nat.lt_or_ge b.length a.length with hl | hl
   ·rw [List.take_of_length_le (by omega)]
   ·rw [List.length_take, Nat.min_eq_left hl] at h3
    rcases Nat.eq_zero_or_pos (val (b.drop a.length)) with h6 | h6
    ·rw [h6] at h3; omega
    ·have := Nat.mul_le_mul_left (1000000000 ^ a.length) h6
     omega
  have h6 : c = 0 := by
   rcases Nat.eq_zero_or_pos c with h6 | h6
   ·exact h6
   ·have := Nat.mul_le_mul_left (1000000000 ^ a.length) h6
    omega
  subst h6
  have h7 : o = pad a.length (val a - val b) := by
   rw [show val a - val b = val o by omega]
   have := val_pad lo
   rw [ho] at this
   exact this.symm
  rw [h7]
end Eng
end

section
namespace Eng
open Go Go.Proofs
set_option maxRecDepth 100000
theorem gives_of_own {C : Cx} {f s : Nat} {args : List A} {es : List (List D)} (h : GivesOwn C f args s es) : Gives C f args [.c (.sl es)] := by
 intro w F vs hb hi ha
 refine (h w F vs hb hi ha).mono fun e w' he => ?_
 obtain ⟨hbel, b, c, cs, t, rfl, h1, h2, h3, h4, h5, h6, h7, h8, h9, h10⟩ := he
 refine ⟨hbel, _, rfl, ?_⟩
 have hrow : Row w' (fun b => F b ∨ (w.heap.size ≤ b ∧ b < w'.heap.size)) es b 0 s := ⟨h8, .inr ⟨h1, h2⟩, fun j hj => by
  obtain ⟨v, q1, q2⟩ := h10 j hj
  refine ⟨v, ?_, q2 _ _⟩
  rw [Nat.zero_add, cell_blk h3]
  exact q1⟩
 exact hrow.CD h5.1
theorem val_set : ∀ {o : List Nat} {j : Nat} (d : Nat), j < o.length → val (o.set j d) + 1000000000 ^ j * o.getD j 0 = val o + 1000000000 ^ j * d
 | [], _, _, h => absurd h (by simp)
 | x :: o, 0, d, _ => by simp [val]; omega
 | x :: o, j + 1, d, h => by
  have ih := val_set (o := o) (j := j) d (by simpa using h)
  simp only [List.set_cons_succ, val, List.getD_cons_succ]
  rw [Nat.pow_succ, Nat.mul_comm (1000000000 ^ j) 1000000000, Nat.mul_assoc, Nat.mul_assoc]
  omega
theorem limbs_set {o : List Nat} (h : Limbs o) {j d : Nat} (hd : d < 1000000000) : Limbs (o.set j d) := fun y hy => by
 rcases List.mem_or_eq_of_mem_set hy with hy | rfl
 ·exact h y hy
 ·exact hd
theorem getD_set_ne {o : List Nat} {i j d : Nat} (h : i ≠ j) : (o.set i d).getD j 0 = o.getD j 0 := by simp [List.getD, List.getElem?_set_ne h]
theorem getD_get {o : List Nat} {j : Nat} (h : j < o.length) : o.getD j 0 = o[j] := by simp [List.getD, h]
theorem tmodN (t : Nat) : Int.tmod (t : Int) 1000000000 = ((t % 1000000000 : Nat) : Int) := by rw [Int.tmod_eq_emod_of_nonneg (by omega)]; omega
theorem tdivN (t : Nat) : Int.tdiv (t : Int) 1000000000 = ((t / 1000000000 : Nat) : Int) := by rw [Int.tdiv_eq_ediv_of_nonneg (by omega)]; omega
set_option maxHeartbeats 1000000 in
theorem itimes_own {a b : List Nat} (ha : Limbs a) (hb : Limbs b) (hra : a.length ≤ 536870912) (hrb : b.length ≤ 536870912) (hne : 0 < a.length + b.length) :
 GivesOwn C0 190 [.c (.sl (raw a)), .c (.sl (raw b))] 1 (raw (pad (a.length + b.length) (val a * val b))) := by
 refine wpFo_ok (anns := ann2
  ⟨[.own 5 68 1, .slot 20 (.int .i64 0)], [], fun _ ds => ∃ (i : Nat) (o : List Nat), i ≤ a.length ∧ ds = [.sl (raw o), .int .i64 (i : Int)] ∧ o.length = a.length + b.length ∧ Limbs o ∧ (∀ j, i + b.length ≤ j → o.getD j 0 = 0) ∧ val o = val (a.take i) * val b, fun ds => a.length - (toI (nth .undef ds 1)).toNat⟩
  ⟨[.own 5 68 1, .slot 8 (.int .u64 0), .slot 27 (.int .i64 0)], [.slot 6 (.int .i64 0), .slot 7 (.int .u32 0), .own 5 68 1], fun g ds => ∃ (i k c : Nat) (o0 o : List Nat), g = [.int .i64 (i : Int), .int .u32 ((a.getD i 0 : Nat) : Int), .sl (raw o0)] ∧ i < a.length ∧ k ≤ b.length ∧ c < 1000000000 ∧ ds = [.sl (raw o), .int .u64 (c : Int), .int .i64 (k : Int)] ∧ o.length = a.length + b.length ∧ Limbs o ∧ (∀ j, i + b.length ≤ j → o.getD j 0 = 0) ∧ val o + 1000000000 ^ (i + k) * c = val o0 + 1000000000 ^ i * (a.getD i 0 * val (b.take k)), fun ds => b.length - (toI (nth .undef ds 2)).toNat⟩) mixedT Tryz.func190 ?_
 rw [vc_times]
 simp only [Int.ofNat_eq_natCast, raw_length]
 have hab : IntKind.wrap .i64 ((a.length : Int) + (b.length : Int)) = ((a.length + b.length : Nat) : Int) := by rw [i64w (by omega) (by omega)]; omega
 rw [hab, Int.toNat_natCast, raw_replicate]
 refine ⟨⟨by omega, by omega, by unfold room; omega⟩, ⟨0, List.replicate (a.length + b.length) 0, by omega, rfl, by simp, fun y hy => by rw [List.eq_of_mem_replicate hy]; omega, fun j _ => by simp [List.getD, List.getElem?_replicate]; split <;> rfl, by simp [val_replicate, val]⟩, ?_⟩
 rintro es n ⟨i, o0, hi, he, hol, lo, hz, hv⟩
 simp only [List.cons.injEq, D.int.injEq, D.sl.injEq, true_and, and_true] at he
 obtain ⟨rfl, rfl⟩ := he
 refine brd (fun h1 => ?_) (fun h1 => ?_)
 ·have hia : i < a.length := by omega
  have hai := ha.get hia
  rw [Int.toNat_natCast]
  refine ⟨⟨by omega, by omega, raw_len1 hia⟩, _, cut_raw hia, ⟨i, 0, 0, o0, o0, by rw [getD_get hia], hia, by omega, by omega, rfl, hol, lo, hz, by simp [val]⟩, ?_⟩
  rintro es m k' ⟨i', k, c, o0', o, hg, _, hk, hc, he, hol', lo', hz', hv'⟩
  simp only [List.cons.injEq, D.int.injEq, D.sl.injEq, true_and, and_true] at hg he
  obtain ⟨hi', hx', ho0⟩ := hg
  obtain ⟨rfl, rfl, rfl⟩ := he
  have hi'' : i' = i := by omega
  subst hi''
  have ho0 := raw_inj ho0
  subst ho0
  rw [getD_get hia] at hv'
  refine brd (fun h2 => ?_) (fun h2 => ?_)
  ·have hkb : k < b.length := by omega
   have hbk := hb.get hkb
   have hj : i' + k < o.length := by omega
   have hoj := lo'.get hj
   have hw : IntKind.wrap .i64 ((i' : Int) + (k : Int)) = ((i' + k : Nat) : Int) := by rw [i64w (by omega) (by omega)]; omega
   have hk1 : IntKind.wrap .i64 ((k : Int) + 1) = ((k + 1 : Nat) : Int) := by rw [i64w (by omega) (by omega)]; omega
   rw [hw, hk1, Int.toNat_natCast, Int.toNat_natCast, raw_length]
   refine ⟨⟨by omega, by omega, raw_len1 hkb⟩, _, cut_raw hkb, ⟨by omega, by omega⟩, _, cut_raw hj, by omega, by omega, ⟨by omega, by omega⟩, by omega, ?_⟩
   have hp : a[i'] * b[k] ≤ 999999999 * 999999999 := Nat.mul_le_mul (by omega) (by omega)
   obtain ⟨p, hpe⟩ : ∃ p, p = a[i'] * b[k] := ⟨_, rfl⟩
   rw [← hpe] at hp
   have hpi : (a[i'] : Int) * (b[k] : Int) = (p : Int) := by rw [hpe]; exact (Int.natCast_mul _ _).symm
   obtain ⟨t, hte⟩ : ∃ t, t = o[i' + k] + p + c := ⟨_, rfl⟩
   have ht : IntKind.wrap .u64 (IntKind.wrap .u64 (IntKind.wrap .u64 (o[i' + k] : Int) + IntKind.wrap .u64 (IntKind.wrap .u64 (a[i'] : Int) * IntKind.wrap .u64 (b[k] : Int))) + (c : Int)) = (t : Int) := by
    rw [u64w (n := (o[i' + k] : Int)) (by omega) (by omega), u64w (n := (a[i'] : Int)) (by omega) (by omega), u64w (n := (b[k] : Int)) (by omega) (by omega), hpi, u64w (n := (p : Int)) (by omega) (by omega), u64w (n := (o[i' + k] : Int) + (p : Int)) (by omega) (by omega), u64w (by omega) (by omega)]
    omega
   rw [ht, tmodN, tdivN, u32w (n := ((t % 1000000000 : Nat) : Int)) (by omega) (by omega), u64w (n := ((t / 1000000000 : Nat) : Int)) (by omega) (by omega), upd_raw hj]
   refine ⟨⟨i', k + 1, t / 1000000000, o0, o.set (i' + k) (t % 1000000000), by rw [getD_get hia], hia, by omega, by omega, rfl, by simp [hol'], limbs_set lo' (by omega), fun j hjj => by rw [getD_set_ne (by omega)]; exact hz' j hjj, ?_⟩, ?_⟩
   ·have h3 := val_set (t % 1000000000) hj
    rw [getD_get hj] at h3
    rw [getD_get hia, val_take_succ, getD_get hkb]
    have h4 := pow_dist (k := i' + k) (show t % 1000000000 + 1000000000 * (t / 1000000000) = t by omega)
    rw [show i' + (k + 1) = i' + k + 1 by omega]
    have h5 : 1000000000 ^ (i' + k) * t = 1000000000 ^ (i' + k) * o[i' + k] + 1000000000 ^ (i' + k) * p + 1000000000 ^ (i' + k) * c := by rw [hte, Nat.mul_add, Nat.mul_add]
    have h6 : 1000000000 ^ i' * (a[i'] * (val (b.take k) + 1000000000 ^ k * b[k])) = 1000000000 ^ i' * (a[i'] * val (b.take k)) + 1000000000 ^ (i' + k) * p := by
     rw [Nat.mul_add, Nat.mul_add, hpe, Nat.pow_add]
     congr 1
     simp only [Nat.mul_assoc, Nat.mul_left_comm]
    omega
   ·simp only [nth, toI]; omega
  ·have hkb : k = b.length := by omega
   subst hkb
   have hj : i' + b.length < o.length := by omega
   have hw : IntKind.wrap .i64 ((i' : Int) + (b.length : Int)) = ((i' + b.length : Nat) : Int) := by rw [i64w (by omega) (by omega)]; omega
   have hk1 : IntKind.wrap .i64 ((i' : Int) + 1) = ((i' + 1 : Nat) : Int) := by rw [i64w (by omega) (by omega)]; omega
   rw [hw, hk1, Int.toNat_natCast, raw_length, u32w (n := (c : Int)) (by omega) (by omega), upd_raw hj]
   refine ⟨⟨by omega, by omega⟩, by omega, ⟨i' + 1, o.set (i' + b.length) c, by omega, rfl, by simp [hol'], limbs_set lo' hc, fun j hjj => by rw [getD_set_ne (by omega)]; exact hz' j (by omega), ?_⟩, ?_⟩
   ·have h3 := val_set c hj
    rw [hz' _ (Nat.le_refl _)] at h3
    rw [List.take_length] at hv'
    rw [val_take_succ, getD_get hia, Nat.add_mul, ← hv, Nat.mul_assoc]
    omega
   ·simp only [nth, toI]; omega
 ·have hia : i = a.length := by omega
  subst hia
  rw [List.take_length] at hv
  refine ⟨⟨fun e => ?_, flat_raw _⟩, trivial, ?_⟩
  ·have h0 := congrArg List.length e
   rw [raw_length] at h0
   have h0 : o0.length = 0 := h0
   omega
  ·rw [← hv, ← hol, val_pad lo]
theorem itimes_ok {a b : List Nat} (ha : Limbs a) (hb : Limbs b) (hra : a.length ≤ 536870912) (hrb : b.length ≤ 536870912) :
 Gives C0 190 [.c (.sl (raw a)), .c (.sl (raw b))] [.c (.sl (raw (pad (a.length + b.length) (val a * val b))))] := by
 rcases Nat.eq_zero_or_pos (a.length + b.length) with h | h
 ·have h1 : a = [] := List.eq_nil_of_length_eq_zero (by omega)
  have h2 : b = [] := List.eq_nil_of_length_eq_zero (by omega)
  subst h1 h2
  exact runF_ok (lim := 100) (n := 5) (tab := noT) mixedT (fun _ _ _ h => by simp [noT] at h) _ _ _ (by kernel_rfl)
 ·exact gives_of_own (itimes_own ha hb hra hrb h)
theorem ibyWord_ok {a : List Nat} {d : Nat} (ha : Limbs a) (hd0 : 0 < d) (hd : d < 1000000000) (hra : a.length ≤ 1073741824) :
 Gives C0 308 [.c (.sl (raw a)), .c (.int .u32 (d : Int))] [.c (.sl (raw (pad a.length (val a / d)))), .c (.sl (raw [val a % d]))] := by
 refine wpF_ok (anns := fun _ => ⟨[.own 6 44 1, .slot 7 (.int .u64 0), .slot 8 (.int .i64 0)], [], fun _ ds => ∃ (k r : Nat) (h : List Nat), k ≤ a.length ∧ r < d ∧ h.length = a.length - k ∧ Limbs h ∧ ds = [.sl (raw (List.replicate k 0 ++ h)), .int .u64 (r : Int), .int .i64 ((k : Int) - 1)] ∧ val (a.drop k) = val h * d + r, fun ds => (toI (nth .undef ds 2) + 1).toNat⟩) mixedT Tryz.func308 ?_
 rw [vc_byWord]
 simp only [Int.ofNat_eq_natCast, raw_length, Int.toNat_natCast, raw_replicate]
 refine ⟨⟨by omega, by omega, by unfold room; omega⟩, ⟨a.length, 0, [], Nat.le_refl _, hd0, by simp, Limbs.nil, by rw [i64w (by omega) (by omega), List.append_nil]; rfl, by simp [val]⟩, ?_⟩
 rintro es m n ⟨k, r, h, hk, hr, hl, lh, he, hv⟩
 simp only [List.cons.injEq, D.int.injEq, D.sl.injEq, true_and, and_true] at he
 obtain ⟨rfl, rfl, rfl⟩ := he
 refine brd (fun h1 => ?_) (fun h1 => ?_)
 ·have hk0 : k - 1 < a.length := by omega
  have hak := ha.get hk0
  have ht0 : ((k : Int) - 1).toNat = k - 1 := by omega
  have hk1 : IntKind.wrap .i64 ((k : Int) - 1 - 1) = ((k - 1 : Nat) : Int) - 1 := by rw [i64w (by omega) (by omega)]; omega
  have hdw : IntKind.wrap .u64 (d : Int) = (d : Int) := u64w (by omega) (by omega)
  have hlen : (List.replicate k 0 ++ h).length = a.length := by simp [hl]; omega
  rw [ht0, hk1, hdw, raw_length, hlen]
  refine ⟨⟨by omega, by omega, raw_len1 hk0⟩, _, cut_raw hk0, by omega, by omega, ⟨by omega, by omega⟩, by omega, ?_⟩
  have hrr : r * 1000000000 ≤ 999999998 * 1000000000 := Nat.mul_le_mul_right _ (by omega)
  obtain ⟨t, hte⟩ : ∃ t, t = r * 1000000000 + a[k - 1] := ⟨_, rfl⟩
  have ht : IntKind.wrap .u64 (IntKind.wrap .u64 ((r : Int) * 1000000000) + IntKind.wrap .u64 (a[k - 1] : Int)) = (t : Int) := by
   rw [u64w (n := (r : Int) * 1000000000) (by omega) (by omega), u64w (n := (a[k - 1] : Int)) (by omega) (by omega), u64w (by omega) (by omega)]
   omega
  have hq : t / d < 1000000000 := by
   rw [Nat.div_lt_iff_lt_mul hd0]
   have : (r + 1) * 1000000000 ≤ d * 1000000000 := Nat.mul_le_mul_right _ hr
   omega
  have hm : t % d < d := Nat.mod_lt _ hd0
  have e1 : Int.tdiv (t : Int) (d : Int) = ((t / d : Nat) : Int) := by rw [Int.tdiv_eq_ediv_of_nonneg (by omega)]; rfl
  have e2 : Int.tmod (t : Int) (d : Int) = ((t % d : Nat) : Int) := by rw [Int.tmod_eq_emod_of_nonneg (by omega)]; rfl
  have hdm := Nat.div_add_mod t d
  rw [ht, e1, e2]
  obtain ⟨q, hqe⟩ : ∃ q, q = t / d := ⟨_, rfl⟩
  obtain ⟨m, hme⟩ : ∃ m, m = t % d := ⟨_, rfl⟩
  rw [← hqe, ← hme] at hdm ⊢
  rw [← hqe] at hq
  rw [← hme] at hm
  rw [u64w (n := (q : Int)) (by omega) (by omega), u32w (n := (q : Int)) (by omega) (by omega), upd_raw (by omega)]
  refine ⟨⟨k - 1, m, q :: h, by omega, hm, by simp [hl]; omega, Limbs.cons hq lh, ?_, ?_⟩, ?_⟩
  ·have : (List.replicate k 0 ++ h).set (k - 1) q = List.replicate (k - 1) 0 ++ q :: h := by
    obtain ⟨k', rfl⟩ : ∃ k', k = k' + 1 := ⟨k - 1, by omega⟩
    rw [List.replicate_succ', List.append_assoc, Nat.add_sub_cancel, List.set_append_right _ _ (by simp)]
    simp
   rw [this]
  ·rw [List.drop_eq_getElem_cons hk0, show k - 1 + 1 = k by omega]
   simp only [val]
   rw [hv]
   have h5 : (q + 1000000000 * val h) * d = d * q + 1000000000 * (val h * d) := by
    rw [Nat.add_mul, Nat.mul_comm q d, Nat.mul_assoc]
   omega
  ·simp only [nth, toI]; omega
 ·have hk0 : k = 0 := by omega
  subst hk0
  simp only [List.drop_zero, List.replicate_zero, List.nil_append] at hv ⊢
  have e1 : val a / d = val h := by
   rw [hv, Nat.mul_comm, Nat.mul_add_div hd0, Nat.div_eq_of_lt hr, Nat.add_zero]
  have e2 : val a % d = r := by
   rw [hv, Nat.mul_comm, Nat.mul_add_mod, Nat.mod_eq_of_lt hr]
  rw [e1, e2, u32w (by omega) (by omega)]
  have := val_pad lh
  rw [hl, Nat.sub_zero] at this
  rw [this]
  rfl
end Eng
end

section
namespace Eng
open Go
theorem mlt {a b c : Nat} (h : a < b) (hc : 0 < c) : a * c < b * c := Nat.mul_lt_mul_of_pos_right h hc
theorem val2 {v : List Nat} {p : Nat} : val (v.take (p + 2)) = (v.getD (p + 1) 0 * 1000000000 + v.getD p 0) * 1000000000 ^ p + val (v.take p) := by
 rw [val_take_succ v (p + 1), val_take_succ v p, Nat.pow_succ]
 grind
theorem val3 {u : List Nat} {p : Nat} : val (u.take (p + 3)) = ((u.getD (p + 2) 0 * 1000000000 + u.getD (p + 1) 0) * 1000000000 + u.getD p 0) * 1000000000 ^ p + val (u.take p) := by
 rw [val_take_succ u (p + 2), val_take_succ u (p + 1), val_take_succ u p, Nat.pow_succ, Nat.pow_succ]
 grind
theorem limbs_set' {o : List Nat} (h : Limbs o) {j d : Nat} (hd : d < 1000000000) : Limbs (o.set j d) := fun y hy => by
 rcases List.mem_or_eq_of_mem_set hy with hy | rfl
 ·exact h y hy
 ·exact hd
structure DInv (n m V U0 kk : Nat) (ul ql : List Nat) : Prop where
 hk : kk ≤ m
 lu : ul.length = n + m
 lq : ql.length = m
 Lu : Limbs ul
 Lq : Limbs ql
 hlt : val ul < V * 1000000000 ^ kk
 heq : U0 = val (ql.drop kk) * (V * 1000000000 ^ kk) + val ul
theorem round_num {V' V X B W lo md h qv : Nat} (hW : W = V' * B) (hV : V < V') (hlo : lo < X) (hlt : lo + X * (md + W * h) < V * (X * B)) (hV0 : 0 < V) :
 h = 0 ∧ md < V * B ∧ lo + X * (md % V) < V * X ∧ qv * (V * (X * B)) + (lo + X * (md + W * h)) = (md / V + B * qv) * (V * X) + (lo + X * (md % V)) := by
 have h0 : h = 0 := by
  rcases Nat.eq_zero_or_pos h with h0 | h0
  ·exact h0
  ·exfalso
   have h1 : W ≤ W * h := Nat.le_mul_of_pos_right W h0
   have h2 : X * W ≤ X * (md + W * h) := Nat.mul_le_mul_left X (by omega)
   have h3 : V * (X * B) = X * (V * B) := by grind
   have h4 : X * (V * B) ≤ X * W := Nat.mul_le_mul_left X (by rw [hW]; exact Nat.mul_le_mul_right B (by omega))
   omega
 subst h0
 rw [Nat.mul_zero, Nat.add_zero] at hlt ⊢
 have h3 : V * (X * B) = X * (V * B) := by grind
 have hm : md < V * B := by
  apply Nat.lt_of_not_le; intro hle
  have := Nat.mul_le_mul_left X hle
  omega
 have hmod := Nat.mod_lt md hV0
 have hdm := Nat.div_add_mod md V
 refine ⟨rfl, hm, ?_, ?_⟩
 ·have : X * (md % V + 1) ≤ X * V := Nat.mul_le_mul_left X hmod
  rw [Nat.mul_add, Nat.mul_one] at this
  rw [Nat.mul_comm V X]
  omega
 ·have e1 : (md / V + B * qv) * (V * X) = X * (V * (md / V)) + qv * (V * (X * B)) := by grind
  have e2 : X * md = X * (V * (md / V)) + X * (md % V) := by rw [← Nat.mul_add, hdm]
  omega
theorem DInv.mid {n m V U0 k : Nat} {ul ql : List Nat} (h : DInv n m V U0 (k + 1) ul ql) (hV : V < 1000000000 ^ n) (hV0 : 0 < V) :
 val ((ul.drop k).take (n + 1)) < V * 1000000000 ∧ ∀ r : List Nat, Limbs r → r.length = n + 1 → val r = val ((ul.drop k).take (n + 1)) % V →
  DInv n m V U0 k (ul.take k ++ r ++ ul.drop (k + (n + 1))) (ql.set k (val ((ul.drop k).take (n + 1)) / V)) := by
 have hk := h.hk
 have lu := h.lu
 have lq := h.lq
 have e0 : ul = ul.take k ++ ((ul.drop k).take (n + 1) ++ ul.drop (k + (n + 1))) := by
  rw [← List.drop_drop, List.take_append_drop, List.take_append_drop]
 have l1 : (ul.take k).length = k := by rw [List.length_take]; omega
 have l2 : ((ul.drop k).take (n + 1)).length = n + 1 := by rw [List.length_take, List.length_drop]; omega
 have hv : val ul = val (ul.take k) + 1000000000 ^ k * (val ((ul.drop k).take (n + 1)) + 1000000000 ^ (n + 1) * val (ul.drop (k + (n + 1)))) := by
  conv => lhs; rw [e0]
  rw [val_append, val_append, l1, l2]
 have hlo := val_lt (h.Lu.take k)
 rw [l1] at hlo
 have hlt := h.hlt
 have heq := h.heq
 rw [hv] at hlt heq
 have hp : 1000000000 ^ (k + 1) = 1000000000 ^ k * 1000000000 := Nat.pow_succ ..
 rw [hp] at hlt heq
 obtain ⟨a1, a2, a3, a4⟩ := round_num (V' := 1000000000 ^ n) (W := 1000000000 ^ (n + 1)) (B := 1000000000) (qv := val (ql.drop (k + 1))) (Nat.pow_succ ..) hV hlo hlt hV0
 have hq : val ((ul.drop k).take (n + 1)) / V < 1000000000 := by
  rw [Nat.div_lt_iff_lt_mul hV0, Nat.mul_comm]; exact a2
 refine ⟨a2, fun r Lr lr vr => ⟨by omega, ?_, by rw [List.length_set]; exact lq, ?_, limbs_set' h.Lq hq, ?_, ?_⟩⟩
 ·rw [List.length_append, List.length_append, l1, lr, List.length_drop]; omega
 ·exact ((h.Lu.take k).append Lr).append (h.Lu.drop _)
 ·rw [val_append, val_append, l1, a1, vr, Nat.mul_zero, Nat.add_zero]
  exact a3
 ·have e5 : (ql.set k (val ((ul.drop k).take (n + 1)) / V)).drop k = (val ((ul.drop k).take (n + 1)) / V) :: ql.drop (k + 1) := by
   rw [List.drop_set, if_neg (Nat.lt_irrefl k), Nat.sub_self, List.drop_eq_getElem_cons (show k < ql.length by omega), List.set_cons_zero]
  rw [e5, val_append, val_append, l1, a1, vr, Nat.mul_zero, Nat.add_zero, heq, a4]
  rfl
theorem guess_first {V P v1 t3 t2 md r0 : Nat} (hV : V < (v1 + 1) * P) (hV2 : v1 * P ≤ V) (hv : 500000000 ≤ v1) (hmd : md = (t3 * 1000000000 + t2) * P + r0) (hr0 : r0 < P) (ht2 : t2 < 1000000000) (hlt : md < V * 1000000000) (_hV0 : 0 < V) :
 md / V ≤ (t3 * 1000000000 + t2) / v1 ∧ (t3 * 1000000000 + t2) / v1 ≤ 1000000001 ∧ t3 ≤ v1 := by
 have hP : 0 < P := by omega
 have ht3 : t3 < v1 + 1 := by
  apply Nat.lt_of_not_le; intro h
  have h1 : (v1 + 1) * 1000000000 * P ≤ t3 * 1000000000 * P := Nat.mul_le_mul_right P (Nat.mul_le_mul_right _ h)
  have h2 : t3 * 1000000000 * P ≤ (t3 * 1000000000 + t2) * P := Nat.mul_le_mul_right P (by omega)
  have h3 : (v1 + 1) * 1000000000 * P = (v1 + 1) * P * 1000000000 := by grind
  have h4 : V * 1000000000 < (v1 + 1) * P * 1000000000 := mlt hV (Nat.zero_lt_of_ne_zero (by decide))
  omega
 refine ⟨?_, ?_, by omega⟩
 ·rw [Nat.le_div_iff_mul_le (by omega)]
  have h1 : md / V * V ≤ md := Nat.div_mul_le_self md V
  have h2 : md / V * (v1 * P) ≤ md / V * V := Nat.mul_le_mul_left _ hV2
  have h3 : md / V * (v1 * P) = md / V * v1 * P := (Nat.mul_assoc ..).symm
  apply Nat.le_of_lt_succ
  apply Nat.lt_of_not_le; intro h
  have h4 : ((t3 * 1000000000 + t2) + 1) * P ≤ md / V * v1 * P := Nat.mul_le_mul_right P h
  rw [Nat.add_mul, Nat.one_mul] at h4
  omega
 ·apply Nat.le_of_lt_succ
  rw [Nat.div_lt_iff_lt_mul (by omega)]
  omega
theorem top_lt' {g v1 r t0 v2 B : Nat} (h : r * B + t0 < g * v2) : (g * v1 + r) * B + t0 < g * (v1 * B + v2) := by
 rw [Nat.mul_add, ← Nat.mul_assoc, Nat.add_mul]
 omega
theorem top_le' {g v1 r t0 v2 B : Nat} (h : g * v2 ≤ r * B + t0) : g * (v1 * B + v2) ≤ (g * v1 + r) * B + t0 := by
 rw [Nat.mul_add, ← Nat.mul_assoc, Nat.add_mul]
 omega
theorem top_lt {g v1 r t0 v2 : Nat} (h : r * 1000000000 + t0 < g * v2) : (g * v1 + r) * 1000000000 + t0 < g * (v1 * 1000000000 + v2) := top_lt' h
theorem top_le {g v1 r t0 v2 : Nat} (h : g * v2 ≤ r * 1000000000 + t0) : g * (v1 * 1000000000 + v2) ≤ (g * v1 + r) * 1000000000 + t0 := top_le' h
theorem guess_more {P v1 v2 vl V t0 ul U g r top : Nat} (hV : V = (v1 * 1000000000 + v2) * P + vl) (hU : U = (top * 1000000000 + t0) * P + ul) (hul : ul < P) (htop : top = g * v1 + r) (h : r * 1000000000 + t0 < g * v2) (hV0 : 0 < V) : U / V < g := by
 rw [Nat.div_lt_iff_lt_mul hV0]
 refine guess_dn (V1 := v1 * 1000000000 + v2) (U3 := top * 1000000000 + t0) hV hU hul ?_
 rw [htop]
 exact top_lt h
theorem guess_fits {P v1 v2 vl V t0 ul U g r top : Nat} (hV : V = (v1 * 1000000000 + v2) * P + vl) (hU : U = (top * 1000000000 + t0) * P + ul) (hvl : vl < P) (htop : top = g * v1 + r) (h : g * v2 ≤ r * 1000000000 + t0) (hg : g ≤ 1000000000) (hv1 : 1 ≤ v1) : g * V ≤ U + V := by
 refine guess_up (V1 := v1 * 1000000000 + v2) (U3 := top * 1000000000 + t0) hV hU hvl ?_ hg ?_
 ·rw [htop]
  exact top_le h
 ·rw [hV]
  have : 1000000000 * P ≤ (v1 * 1000000000 + v2) * P := Nat.mul_le_mul_right P (by omega)
  exact Nat.le_trans this (Nat.le_add_right _ _)
theorem sub_round {us vs : List Nat} {V g : Nat} (hu : Limbs us) (hv : Limbs vs) (hl : vs.length ≤ us.length) (hV : val vs = V) (hV0 : 0 < V) (hVu : V ≤ 1000000000 ^ us.length) (hq : val us / V ≤ g) (hg : g ≤ 1000000000) (hgV : g * V ≤ val us + V) :
 ∃ (r : List Nat) (c b : Nat), subF (g : Int) (ints us) (ints vs) 0 0 = (ints r, (c : Int), (b : Int)) ∧ Limbs r ∧ r.length = us.length ∧
  ((c = 0 ∧ b = 0 ∧ g = val us / V ∧ val r = val us % V) ∨ ((c ≠ 0 ∨ b ≠ 0) ∧ g = val us / V + 1 ∧ ∃ r2 : List Nat, resF (ints r) (ints vs) 0 = ints r2 ∧ Limbs r2 ∧ r2.length = us.length ∧ val r2 = val us % V)) := by
 obtain ⟨r, c, b, h1, h2, h3, h4, h5, h6⟩ := subF_nat (by_ := g) hg (us := us) (vs := vs) (c := 0) (b := 0) hu hv hl (by omega) (by omega)
 have hr := val_lt h2
 have hus := val_lt hu
 rw [h3] at hr
 have hd := Nat.div_add_mod (val us) V
 have hm := Nat.mod_lt (val us) hV0
 have hlt : val us < (val us / V + 1) * V := by rw [Nat.add_mul, Nat.one_mul, Nat.mul_comm]; omega
 have hq1 : val us / V * V ≤ val us := Nat.div_mul_le_self _ _
 have he : val us - val us / V * V = val us % V := by rw [Nat.mul_comm]; omega
 refine ⟨r, c, b, h1, h2, h3, ?_⟩
 rw [hV] at h6
 by_cases hs : c + b = 0
 ·obtain ⟨e1, e2⟩ := digit_sub (V := V) (g := g) (s := c + b) hq1 hq hus hr (by omega) hs hlt
  exact .inl ⟨by omega, by omega, e1, by rw [e2, he]⟩
 ·obtain ⟨r2, c2, g1, g2, g3, g4, g5⟩ := resF_nat (us := r) (vs := vs) (c := 0) h2 hv (by omega) (by omega)
  have hr2 := val_lt g2
  rw [g3, h3] at hr2
  rw [h3, hV] at g5
  obtain ⟨e1, e2⟩ := digit_res (V := V) (g := g) (s := c + b) (r' := val r2) (c := c2) hq1 hgV hus hr hVu (by omega) hs hr2 g4 (by omega) hlt hq
  exact .inr ⟨by omega, e1, r2, g1, g2, by omega, by rw [e2, he]⟩
end Eng
end

section
namespace Eng
open Go Go.Proofs
set_option maxRecDepth 100000
def cI (z : Int) : List D := [.bool (decide (z < 0)), .sl (raw (lim z.natAbs))]
def encI (z : Int) : A := .ag (cI z)
def topN : Nat := (1000000000 ^ 100) ^ 10
def Sm (z : Int) : Prop := z.natAbs < topN
theorem lim_len_mul {n j k : Nat} (h : n < (1000000000 ^ j) ^ k) : (lim n).length ≤ j * k := lim_length_le (by rw [Nat.pow_mul]; exact h)
theorem Sm.len {z : Int} (h : Sm z) : (lim z.natAbs).length ≤ 1000 := lim_len_mul (j := 100) (k := 10) h
theorem signed_enc {l : List Nat} (b : Bool) (hl : Limbs l) (hr : l.length ≤ 1073741824) {z : Int} (hz : z = if b then -(val l : Int) else (val l : Int)) :
 Gives C0 189 [.c (.bool b), .c (.sl (raw l))] [encI z] := by
 have h := isigned_ok b hl hr
 have e1 : z.natAbs = val l := by rw [hz]; split <;> omega
 have e2 : decide (z < 0) = (b && decide (0 < val l)) := by
  rw [hz]
  cases b
  ·simp only [Bool.false_eq_true, if_false, Bool.false_and, decide_eq_false_iff_not]; omega
  ·simp only [if_true, Bool.true_and, decide_eq_decide]; omega
 unfold encI cI
 rw [e1, e2]
 exact h
theorem isplit_ok {u : Nat} (hu : u < 18446744073709551616) : Gives C0 232 [.c (.int .u64 (u : Int))] [.c (.sl (raw [u % 1000000000, u / 1000000000 % 1000000000, u / 1000000000 / 1000000000]))] := by
 refine wpF_ok (anns := fun _ => ⟨[], [], fun _ _ => True, fun _ => 0⟩) mixedT Tryz.func232 ?_
 rw [vc_split]
 refine ⟨by omega, by omega, by omega, by omega, by omega, ?_⟩
 rw [tmodN, tdivN, u64w (n := ((u / 1000000000 : Nat) : Int)) (by omega) (by omega), tmodN, tdivN, u32w (n := ((u % 1000000000 : Nat) : Int)) (by omega) (by omega), u32w (n := ((u / 1000000000 % 1000000000 : Nat) : Int)) (by omega) (by omega),
  u64w (n := ((u / 1000000000 / 1000000000 : Nat) : Int)) (by omega) (by omega), u32w (n := ((u / 1000000000 / 1000000000 : Nat) : Int)) (by omega) (by omega)]
 rfl
theorem split_limbs {u : Nat} (hu : u < 18446744073709551616) : Limbs [u % 1000000000, u / 1000000000 % 1000000000, u / 1000000000 / 1000000000] ∧ val [u % 1000000000, u / 1000000000 % 1000000000, u / 1000000000 / 1000000000] = u := by
 refine ⟨Limbs.cons (by omega) (Limbs.cons (by omega) (Limbs.cons (by omega) Limbs.nil)), ?_⟩
 simp only [val]
 omega
theorem iFromInt64_ok {n : Int} (h1 : -9223372036854775808 ≤ n) (h2 : n < 9223372036854775808) : Gives C0 136 [.c (.int .i64 n)] [encI n] := by
 refine wpF_ok (anns := fun _ => ⟨[], [], fun _ _ => True, fun _ => 0⟩) mixedT Tryz.func136 ?_
 rw [vc_FromInt64]
 have hu : n.natAbs < 18446744073709551616 := by omega
 obtain ⟨hl, hv⟩ := split_limbs hu
 have hs := isplit_ok hu
 refine brd (fun h => ?_) (fun h => ?_)
 ·have e : IntKind.wrap .u64 ((0 : Int) - IntKind.wrap .u64 n) = ((n.natAbs : Nat) : Int) := by
   simp only [IntKind.wrap_u64]; omega
  rw [e]
  refine ⟨_, hs, _, _, signed_enc _ hl (by simp) (z := n) ?_, rfl⟩
  rw [hv, decide_eq_true h, if_pos rfl]; omega
 ·have e : IntKind.wrap .u64 n = ((n.natAbs : Nat) : Int) := by
   simp only [IntKind.wrap_u64]; omega
  rw [e]
  refine ⟨_, hs, _, _, signed_enc _ hl (by simp) (z := n) ?_, rfl⟩
  rw [hv, decide_eq_false h, if_neg (by simp)]; omega
def sgn (z : Int) : Int := if z < 0 then -1 else if 0 < z then 1 else 0
def cmpZ (x y : Int) : Int := if x < y then -1 else if y < x then 1 else 0
theorem iSign_ok (z : Int) : Gives C0 138 [encI z] [.c (.int .i64 (sgn z))] := by
 refine wpF_ok (anns := fun _ => ⟨[], [], fun _ _ => True, fun _ => 0⟩) mixedT Tryz.func138 ?_
 unfold encI cI
 rw [vc_Sign]
 simp only [Int.ofNat_eq_natCast, raw_length]
 refine brb' (fun h => ?_) (fun h => brd (fun h1 => ?_) (fun h1 => ?_))
 ·have h := of_decide_eq_true h
  rw [sgn, if_pos h]
 ·have h := of_decide_eq_false h
  have : 0 < z.natAbs := lim_len_pos.1 (by omega)
  rw [sgn, if_neg h, if_pos (by omega)]
 ·have h := of_decide_eq_false h
  have : ¬ 0 < z.natAbs := fun h2 => h1 (by have := lim_len_pos.2 h2; omega)
  rw [sgn, if_neg h, if_neg (by omega)]
theorem iCmp_ok {x y : Int} (hx : Sm x) (hy : Sm y) : Gives C0 183 [encI x, encI y] [.c (.int .i64 (cmpZ x y))] := by
 refine wpF_ok (anns := fun _ => ⟨[], [], fun _ _ => True, fun _ => 0⟩) mixedT Tryz.func183 ?_
 unfold encI cI
 rw [vc_Cmp]
 have lx := hx.len
 have ly := hy.len
 refine brb (fun h => ?_) (fun h => ?_)
 ·have h : decide (x < 0) ≠ decide (y < 0) := by simpa using h
  have h : ¬ (x < 0 ↔ y < 0) := fun e => h (by rw [decide_eq_decide]; exact e)
  refine brb' (fun h1 => ?_) (fun h1 => ?_)
  ·have h1 := of_decide_eq_true h1
   rw [cmpZ, if_pos (by omega)]
  ·have h1 := of_decide_eq_false h1
   rw [cmpZ, if_neg (by omega), if_pos (by omega)]
 ·have h : decide (x < 0) = decide (y < 0) := by simpa using h
  have h : x < 0 ↔ y < 0 := by rw [decide_eq_decide] at h; exact h
  refine brb' (fun h1 => ?_) (fun h1 => ?_)
  ·have h1 := of_decide_eq_true h1
   refine ⟨_, icompare_ok (lim_limbs _) (lim_limbs _) (by omega) (by omega), ?_⟩
   rw [lim_val, lim_val, cmpN, cmpZ]
   have e1 : (y.natAbs < x.natAbs) = (x < y) := by rw [eq_iff_iff]; omega
   have e2 : (x.natAbs < y.natAbs) = (y < x) := by rw [eq_iff_iff]; omega
   simp only [e1, e2]
  ·have h1 := of_decide_eq_false h1
   refine ⟨_, icompare_ok (lim_limbs _) (lim_limbs _) (by omega) (by omega), ?_⟩
   rw [lim_val, lim_val, cmpN, cmpZ]
   have e1 : (x.natAbs < y.natAbs) = (x < y) := by rw [eq_iff_iff]; omega
   have e2 : (y.natAbs < x.natAbs) = (y < x) := by rw [eq_iff_iff]; omega
   simp only [e1, e2]
theorem iNeg_ok {x : Int} (hx : Sm x) : Gives C0 185 [encI x] [encI (-x)] := by
 refine wpF_ok (anns := fun _ => ⟨[], [], fun _ _ => True, fun _ => 0⟩) mixedT Tryz.func185 ?_
 have lx := hx.len
 rw [show encI x = .ag (cI x) from rfl, cI, vc_Neg, raw_length]
 refine ⟨⟨by unfold room; omega, lens_raw _⟩, _, _, signed_enc _ (lim_limbs _) (by omega) (z := -x) ?_, rfl⟩
 rw [lim_val]
 by_cases h : x < 0
 ·rw [decide_eq_true h]; simp; omega
 ·rw [decide_eq_false h]; simp; omega
theorem iMul_ok {x y : Int} (hx : Sm x) (hy : Sm y) : Gives C0 101 [encI x, encI y] [encI (x * y)] := by
 refine wpF_ok (anns := fun _ => ⟨[], [], fun _ _ => True, fun _ => 0⟩) mixedT Tryz.func101 ?_
 have lx := hx.len
 have ly := hy.len
 rw [show encI x = .ag (cI x) from rfl, show encI y = .ag (cI y) from rfl, cI, cI, vc_Mul]
 refine ⟨_, itimes_ok (lim_limbs _) (lim_limbs _) (by omega) (by omega), _, _, signed_enc _ (pad_limbs _ _) (by rw [pad_length]; omega) (z := x * y) ?_, rfl⟩
 have hv : val (pad ((lim x.natAbs).length + (lim y.natAbs).length) (val (lim x.natAbs) * val (lim y.natAbs))) = x.natAbs * y.natAbs := by
  rw [pad_val, lim_val, lim_val]
  refine Nat.mod_eq_of_lt ?_
  have h1 := val_lt (lim_limbs x.natAbs)
  have h2 := val_lt (lim_limbs y.natAbs)
  rw [lim_val] at h1 h2
  rw [Nat.pow_add]
  exact Nat.mul_lt_mul'' h1 h2
 rw [hv]
 obtain ⟨a, ha⟩ : ∃ a, a = x.natAbs := ⟨_, rfl⟩
 obtain ⟨b, hb⟩ : ∃ b, b = y.natAbs := ⟨_, rfl⟩
 rw [← ha, ← hb, Int.natCast_mul]
 by_cases h1 : x < 0 <;> by_cases h2 : y < 0
 ·have ex : x = -(a : Int) := by omega
  have ey : y = -(b : Int) := by omega
  rw [decide_eq_true h1, decide_eq_true h2, ex, ey]
  simp only [Bool.not_true, beq_self_eq_true, Bool.false_eq_true, if_false]
  rw [Int.neg_mul_neg]
 ·have ex : x = -(a : Int) := by omega
  have ey : y = (b : Int) := by omega
  rw [decide_eq_true h1, decide_eq_false h2, ex, ey]
  simp only [Bool.not_true, Bool.not_false, beq_false, if_true]
  rw [Int.neg_mul]
 ·have ex : x = (a : Int) := by omega
  have ey : y = -(b : Int) := by omega
  rw [decide_eq_false h1, decide_eq_true h2, ex, ey]
  simp only [Bool.not_false, beq_true, if_true]
  rw [Int.mul_neg]
 ·have ex : x = (a : Int) := by omega
  have ey : y = (b : Int) := by omega
  rw [decide_eq_false h1, decide_eq_false h2, ex, ey]
  simp
theorem iAdd_ok {x y : Int} (hx : Sm x) (hy : Sm y) : Gives C0 235 [encI x, encI y] [encI (x + y)] := by
 refine wpF_ok (anns := fun _ => ⟨[], [], fun _ _ => True, fun _ => 0⟩) mixedT Tryz.func235 ?_
 have lx := hx.len
 have ly := hy.len
 rw [show encI x = .ag (cI x) from rfl, show encI y = .ag (cI y) from rfl, cI, cI, vc_Add]
 have hpv : ∀ (a b : List Nat), Limbs a → Limbs b → val (pad (max a.length b.length + 1) (val a + val b)) = val a + val b := by
  intro a b ha hb
  rw [pad_val]
  refine Nat.mod_eq_of_lt ?_
  have h1 := val_lt ha
  have h2 := val_lt hb
  have h3 : 1000000000 ^ a.length ≤ 1000000000 ^ max a.length b.length := Nat.pow_le_pow_right (by omega) (by omega)
  have h4 : 1000000000 ^ b.length ≤ 1000000000 ^ max a.length b.length := Nat.pow_le_pow_right (by omega) (by omega)
  rw [Nat.pow_succ]
  omega
 have hmv : ∀ (a b : List Nat), Limbs a → val b ≤ val a → val (pad a.length (val a - val b)) = val a - val b := by
  intro a b ha hb
  rw [pad_val]
  exact Nat.mod_eq_of_lt (by have := val_lt ha; omega)
 refine brb (fun h => ?_) (fun h => ?_)
 ·have h : decide (x < 0) = decide (y < 0) := by simpa using h
  have h' : x < 0 ↔ y < 0 := by rw [decide_eq_decide] at h; exact h
  refine ⟨_, iplus_ok (lim_limbs _) (lim_limbs _) (by omega) (by omega), _, _, signed_enc _ (pad_limbs _ _) (by rw [pad_length]; omega) (z := x + y) ?_, rfl⟩
  rw [hpv _ _ (lim_limbs _) (lim_limbs _), lim_val, lim_val]
  by_cases h : x < 0
  ·rw [decide_eq_true h, if_pos rfl]; omega
  ·rw [decide_eq_false h, if_neg (by simp)]; omega
 ·have h : decide (x < 0) ≠ decide (y < 0) := by simpa using h
  have h' : ¬ (x < 0 ↔ y < 0) := fun e => h (by rw [decide_eq_decide]; exact e)
  refine ⟨_, icompare_ok (lim_limbs _) (lim_limbs _) (by omega) (by omega), ?_⟩
  rw [lim_val, lim_val]
  have hc : cmpN x.natAbs y.natAbs < 0 ↔ x.natAbs < y.natAbs := by
   unfold cmpN
   split
   ·simp; assumption
   ·split <;> simp <;> omega
  refine brd (fun h1 => ?_) (fun h1 => ?_)
  ·have h1 := hc.1 h1
   refine ⟨_, iminus_ok (lim_limbs _) (lim_limbs _) (by omega) (by rw [lim_val, lim_val]; omega), _, _, signed_enc _ (pad_limbs _ _) (by rw [pad_length]; omega) (z := x + y) ?_, rfl⟩
   rw [hmv _ _ (lim_limbs _) (by rw [lim_val, lim_val]; omega), lim_val, lim_val]
   by_cases h : y < 0
   ·rw [decide_eq_true h, if_pos rfl]; omega
   ·rw [decide_eq_false h, if_neg (by simp)]; omega
  ·have h1 : ¬ x.natAbs < y.natAbs := fun h2 => h1 (hc.2 h2)
   refine ⟨_, iminus_ok (lim_limbs _) (lim_limbs _) (by omega) (by rw [lim_val, lim_val]; omega), _, _, signed_enc _ (pad_limbs _ _) (by rw [pad_length]; omega) (z := x + y) ?_, rfl⟩
   rw [hmv _ _ (lim_limbs _) (by rw [lim_val, lim_val]; omega), lim_val, lim_val]
   by_cases h : x < 0
   ·rw [decide_eq_true h, if_pos rfl]; omega
   ·rw [decide_eq_false h, if_neg (by simp)]; omega
theorem iSub_ok {x y : Int} (hx : Sm x) (hy : Sm y) : Gives C0 234 [encI x, encI y] [encI (x - y)] := by
 refine wpF_ok (anns := fun _ => ⟨[], [], fun _ _ => True, fun _ => 0⟩) mixedT Tryz.func234 ?_
 have hn : Sm (-y) := by unfold Sm at *; rw [Int.natAbs_neg]; exact hy
 have ha := iAdd_ok hx hn
 rw [show encI x = .ag (cI x) from rfl, show encI y = .ag (cI y) from rfl, cI, cI, vc_Sub]
 simp only [Int.ofNat_eq_natCast, raw_length]
 have e1 : (-y).natAbs = y.natAbs := Int.natAbs_neg y
 refine brb (fun h => ?_) (fun h => ?_)
 ·have h : ¬ y < 0 := by simpa using h
  refine ⟨_, _, ?_, rfl⟩
  have e2 : decide (((lim y.natAbs).length : Int) > 0) = decide (-y < 0) := by
   rw [decide_eq_decide]
   have := lim_len_pos (n := y.natAbs)
   omega
  rw [e2, ← e1]
  exact ha
 ·have h : y < 0 := by simpa using h
  refine ⟨_, _, ?_, rfl⟩
  have e2 : false = decide (-y < 0) := by
   rw [eq_comm, decide_eq_false_iff_not]; omega
  rw [e2, ← e1]
  exact ha
theorem iword_ok {x : Int} (hx : Sm x) : Gives C0 268 [encI x] (if x.natAbs < 1000000000000000000 then [.c (.int .u64 (x.natAbs : Int)), .c (.bool true)] else [.c (.int .u64 0), .c (.bool false)]) := by
 refine wpF_ok (anns := fun _ => ⟨[], [], fun _ _ => True, fun _ => 0⟩) mixedT Tryz.func268 ?_
 have lx := hx.len
 rw [show encI x = .ag (cI x) from rfl, cI, vc_word]
 simp only [Int.ofNat_eq_natCast, raw_length]
 generalize hl : lim x.natAbs = l at *
 have hll : Limbs l := hl ▸ lim_limbs _
 have hv : val l = x.natAbs := hl ▸ lim_val _
 have hge : 1000000000000000000 ≤ x.natAbs → 2 < l.length := fun h => hl ▸ lim_length_of_le (k := 2) (by omega)
 have hlt := val_lt hll
 refine brb (fun h => ?_) (fun h => brb (fun h1 => ?_) (fun h1 => brb (fun h2 => ?_) (fun h2 => ?_)))
 ·have h : l.length = 0 := by have : (l.length : Int) = 0 := by simpa using h
                              omega
  have : l = [] := List.eq_nil_of_length_eq_zero h
  subst this
  simp only [val] at hv
  rw [if_pos (by omega), ← hv]
  rfl
 ·have h1 : l.length = 1 := by have : (l.length : Int) = 1 := by simpa using h1
                               omega
  obtain ⟨a, rfl⟩ : ∃ a, l = [a] := List.length_eq_one_iff.1 h1
  have ha := (hll.of_cons).1
  simp only [val] at hv
  refine ⟨⟨by omega, by rw [h1]; omega, rfl⟩, _, cut_raw (l := [a]) (i := 0) (by simp), ?_⟩
  rw [if_pos (by omega)]
  have : IntKind.wrap .u64 (([a][0] : Nat) : Int) = (x.natAbs : Int) := by
   show IntKind.wrap .u64 (a : Int) = _
   rw [u64w (by omega) (by omega)]; omega
  rw [this]
 ·have h2 : l.length = 2 := by have : (l.length : Int) = 2 := by simpa using h2
                               omega
  obtain ⟨a, b, rfl⟩ : ∃ a b, l = [a, b] := (match l, h2 with | [a, b], _ => ⟨a, b, rfl⟩)
  have ha := (hll.of_cons).1
  have hb := ((hll.of_cons).2.of_cons).1
  simp only [val] at hv
  refine ⟨⟨by omega, by rw [h2]; omega, rfl⟩, _, cut_raw (l := [a, b]) (i := 1) (by simp), ⟨by omega, by rw [h2]; omega, rfl⟩, _, cut_raw (l := [a, b]) (i := 0) (by simp), ?_⟩
  rw [if_pos (by omega)]
  have : IntKind.wrap .u64 (IntKind.wrap .u64 (IntKind.wrap .u64 (([a, b][1] : Nat) : Int) * 1000000000) + IntKind.wrap .u64 (([a, b][0] : Nat) : Int)) = (x.natAbs : Int) := by
   show IntKind.wrap .u64 (IntKind.wrap .u64 (IntKind.wrap .u64 (b : Int) * 1000000000) + IntKind.wrap .u64 (a : Int)) = _
   rw [u64w (n := (b : Int)) (by omega) (by omega), u64w (n := (a : Int)) (by omega) (by omega), u64w (n := (b : Int) * 1000000000) (by omega) (by omega), u64w (by omega) (by omega)]; omega
  rw [this]
 ·have h : (l.length : Int) ≠ 0 := by simpa using h
  have h1 : (l.length : Int) ≠ 1 := by simpa using h1
  have h2 : (l.length : Int) ≠ 2 := by simpa using h2
  have : ¬ x.natAbs < 1000000000000000000 := by
   intro hc
   have h5 := lim_length_le (n := x.natAbs) (k := 2) (by omega)
   rw [hl] at h5
   omega
  rw [if_neg this]
end Eng
end
