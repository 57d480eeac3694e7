/- The verification condition of the long division, printed by a program (vcgenc.py), its thrice repeated end put behind a name (AfterV); checked by the kernel. -/
import Derived.Test.YtbehlcfelmbmlaaGreatDoorCtxB
import Derived.KernelRfl
section
open Go Go.Proofs Eng
set_option maxRecDepth 1000000
namespace Eng
def AfterV (I0 : List D → List D → Prop) (M0 : List D → Nat) (es es_2 es_3 es_4 : List (List D)) (n_1 g : Int) : Prop :=
 (((0 : Int) ≤ n_1 ∧ n_1 < IntKind.wrap .i64 (IntKind.wrap .i64 (n_1 + (Int.ofNat (List.length es))) + (1 : Int)) ∧ IntKind.wrap .i64 (IntKind.wrap .i64
 (n_1 + (Int.ofNat (List.length es))) + (1 : Int)) ≤ (Int.ofNat (List.length es_3))) ∧ ((es_2 ≠ [] ∧ intsB es_2 = true ∧ List.length es_2 ≤ 1073741824) ∧ Int.toNat n_1 +
 (Int.toNat (IntKind.wrap .i64 (IntKind.wrap .i64 (n_1 + (Int.ofNat (List.length es))) + (1 : Int))) - Int.toNat n_1) ≤ List.length es_3 ∧ intsB (List.take (Int.toNat
 (IntKind.wrap .i64 (IntKind.wrap .i64 (n_1 + (Int.ofNat (List.length es))) + (1 : Int))) - Int.toNat n_1) (List.drop (Int.toNat n_1) es_3)) = true) ∧ br (toB (D.bool
 (decide ((0 : Int) < Prod.snd (Prod.snd (subF g (intsD (List.take (Int.toNat (IntKind.wrap .i64 (IntKind.wrap .i64 (n_1 + (Int.ofNat (List.length es))) + (1 : Int)))
 - Int.toNat n_1) (List.drop (Int.toNat n_1) es_3))) (intsD es_2) (0 : Int) (0 : Int)))) || decide ((0 : Int) < Prod.fst (Prod.snd (subF g (intsD (List.take (Int.toNat (IntKind.wrap
 .i64 (IntKind.wrap .i64 (n_1 + (Int.ofNat (List.length es))) + (1 : Int))) - Int.toNat n_1) (List.drop (Int.toNat n_1) es_3))) (intsD es_2) (0 : Int) (0 : Int)))))))
 (((0 : Int) ≤ n_1 ∧ n_1 < IntKind.wrap .i64 (IntKind.wrap .i64 (n_1 + (Int.ofNat (List.length es))) + (1 : Int)) ∧ IntKind.wrap .i64 (IntKind.wrap .i64
 (n_1 + (Int.ofNat (List.length es))) + (1 : Int)) ≤ (Int.ofNat (List.length (List.take (Int.toNat n_1) es_3 ++ ofInts (Prod.fst (subF g (intsD (List.take (Int.toNat (IntKind.wrap
 .i64 (IntKind.wrap .i64 (n_1 + (Int.ofNat (List.length es))) + (1 : Int))) - Int.toNat n_1) (List.drop (Int.toNat n_1) es_3))) (intsD es_2) (0 : Int) (0 : Int))) ++
 List.drop (Int.toNat n_1 + (Int.toNat (IntKind.wrap .i64 (IntKind.wrap .i64 (n_1 + (Int.ofNat (List.length es))) + (1 : Int))) - Int.toNat n_1)) es_3)))) ∧ ((es_2 ≠
 [] ∧ intsB es_2 = true ∧ List.length es_2 ≤ 1073741824) ∧ Int.toNat n_1 + (Int.toNat (IntKind.wrap .i64 (IntKind.wrap .i64 (n_1 + (Int.ofNat (List.length
 es))) + (1 : Int))) - Int.toNat n_1) ≤ List.length (List.take (Int.toNat n_1) es_3 ++ ofInts (Prod.fst (subF g (intsD (List.take (Int.toNat (IntKind.wrap .i64 (IntKind.wrap
 .i64 (n_1 + (Int.ofNat (List.length es))) + (1 : Int))) - Int.toNat n_1) (List.drop (Int.toNat n_1) es_3))) (intsD es_2) (0 : Int) (0 : Int))) ++ List.drop (Int.toNat n_1 +
 (Int.toNat (IntKind.wrap .i64 (IntKind.wrap .i64 (n_1 + (Int.ofNat (List.length es))) + (1 : Int))) - Int.toNat n_1)) es_3) ∧ intsB (List.take (Int.toNat
 (IntKind.wrap .i64 (IntKind.wrap .i64 (n_1 + (Int.ofNat (List.length es))) + (1 : Int))) - Int.toNat n_1) (List.drop (Int.toNat n_1) (List.take (Int.toNat n_1) es_3
 ++ ofInts (Prod.fst (subF g (intsD (List.take (Int.toNat (IntKind.wrap .i64 (IntKind.wrap .i64 (n_1 + (Int.ofNat (List.length es))) + (1 : Int))) - Int.toNat n_1)
 (List.drop (Int.toNat n_1) es_3))) (intsD es_2) (0 : Int) (0 : Int))) ++ List.drop (Int.toNat n_1 + (Int.toNat (IntKind.wrap .i64 (IntKind.wrap .i64 (n_1 + (Int.ofNat
 (List.length es))) + (1 : Int))) - Int.toNat n_1)) es_3))) = true) ∧ ((0 : Int) ≤ n_1 ∧ n_1 < (Int.ofNat (List.length es_4))) ∧ 0 < 1 ∧ I0 [] [D.sl (List.take
 (Int.toNat n_1) (List.take (Int.toNat n_1) es_3 ++ ofInts (Prod.fst (subF g (intsD (List.take (Int.toNat (IntKind.wrap .i64 (IntKind.wrap .i64 (n_1 + (Int.ofNat
 (List.length es))) + (1 : Int))) - Int.toNat n_1) (List.drop (Int.toNat n_1) es_3))) (intsD es_2) (0 : Int) (0 : Int))) ++ List.drop (Int.toNat n_1 + (Int.toNat (IntKind.wrap
 .i64 (IntKind.wrap .i64 (n_1 + (Int.ofNat (List.length es))) + (1 : Int))) - Int.toNat n_1)) es_3) ++ ofInts (resF (intsD (List.take (Int.toNat (IntKind.wrap
 .i64 (IntKind.wrap .i64 (n_1 + (Int.ofNat (List.length es))) + (1 : Int))) - Int.toNat n_1) (List.drop (Int.toNat n_1) (List.take (Int.toNat n_1) es_3 ++ ofInts
 (Prod.fst (subF g (intsD (List.take (Int.toNat (IntKind.wrap .i64 (IntKind.wrap .i64 (n_1 + (Int.ofNat (List.length es))) + (1 : Int))) - Int.toNat n_1) (List.drop
 (Int.toNat n_1) es_3))) (intsD es_2) (0 : Int) (0 : Int))) ++ List.drop (Int.toNat n_1 + (Int.toNat (IntKind.wrap .i64 (IntKind.wrap .i64 (n_1 + (Int.ofNat
 (List.length es))) + (1 : Int))) - Int.toNat n_1)) es_3)))) (intsD es_2) (0 : Int)) ++ List.drop (Int.toNat n_1 + (Int.toNat (IntKind.wrap .i64 (IntKind.wrap .i64
 (n_1 + (Int.ofNat (List.length es))) + (1 : Int))) - Int.toNat n_1)) (List.take (Int.toNat n_1) es_3 ++ ofInts (Prod.fst (subF g (intsD (List.take (Int.toNat (IntKind.wrap
 .i64 (IntKind.wrap .i64 (n_1 + (Int.ofNat (List.length es))) + (1 : Int))) - Int.toNat n_1) (List.drop (Int.toNat n_1) es_3))) (intsD es_2) (0 : Int) (0 : Int))) ++
 List.drop (Int.toNat n_1 + (Int.toNat (IntKind.wrap .i64 (IntKind.wrap .i64 (n_1 + (Int.ofNat (List.length es))) + (1 : Int))) - Int.toNat n_1)) es_3)), D.sl (upd
 es_4 (Int.toNat n_1) (upd (nth [] es_4 (Int.toNat n_1)) 0 (D.int .u32 (IntKind.wrap .u32 (IntKind.wrap .u64 (g - (1 : Int))))))), D.int .i64
 (IntKind.wrap .i64 (n_1 - (1 : Int)))] ∧ M0 [D.sl (List.take (Int.toNat n_1) (List.take (Int.toNat n_1) es_3 ++ ofInts (Prod.fst (subF g (intsD (List.take (Int.toNat
 (IntKind.wrap .i64 (IntKind.wrap .i64 (n_1 + (Int.ofNat (List.length es))) + (1 : Int))) - Int.toNat n_1) (List.drop (Int.toNat n_1) es_3))) (intsD es_2) (0 : Int) (0
 : Int))) ++ List.drop (Int.toNat n_1 + (Int.toNat (IntKind.wrap .i64 (IntKind.wrap .i64 (n_1 + (Int.ofNat (List.length es))) + (1 : Int))) - Int.toNat n_1)) es_3) ++
 ofInts (resF (intsD (List.take (Int.toNat (IntKind.wrap .i64 (IntKind.wrap .i64 (n_1 + (Int.ofNat (List.length es))) + (1 : Int))) - Int.toNat n_1) (List.drop
 (Int.toNat n_1) (List.take (Int.toNat n_1) es_3 ++ ofInts (Prod.fst (subF g (intsD (List.take (Int.toNat (IntKind.wrap .i64 (IntKind.wrap .i64 (n_1 + (Int.ofNat
 (List.length es))) + (1 : Int))) - Int.toNat n_1) (List.drop (Int.toNat n_1) es_3))) (intsD es_2) (0 : Int) (0 : Int))) ++ List.drop (Int.toNat n_1 + (Int.toNat (IntKind.wrap
 .i64 (IntKind.wrap .i64 (n_1 + (Int.ofNat (List.length es))) + (1 : Int))) - Int.toNat n_1)) es_3)))) (intsD es_2) (0 : Int)) ++ List.drop (Int.toNat n_1 + (Int.toNat
 (IntKind.wrap .i64 (IntKind.wrap .i64 (n_1 + (Int.ofNat (List.length es))) + (1 : Int))) - Int.toNat n_1)) (List.take (Int.toNat n_1) es_3 ++ ofInts (Prod.fst (subF g
 (intsD (List.take (Int.toNat (IntKind.wrap .i64 (IntKind.wrap .i64 (n_1 + (Int.ofNat (List.length es))) + (1 : Int))) - Int.toNat n_1) (List.drop (Int.toNat n_1)
 es_3))) (intsD es_2) (0 : Int) (0 : Int))) ++ List.drop (Int.toNat n_1 + (Int.toNat (IntKind.wrap .i64 (IntKind.wrap .i64 (n_1 + (Int.ofNat (List.length es))) + (1 :
 Int))) - Int.toNat n_1)) es_3)), D.sl (upd es_4 (Int.toNat n_1) (upd (nth [] es_4 (Int.toNat n_1)) 0 (D.int .u32 (IntKind.wrap .u32 (IntKind.wrap .u64
 (g - (1 : Int))))))), D.int .i64 (IntKind.wrap .i64 (n_1 - (1 : Int)))] < M0 [D.sl es_3, D.sl es_4, D.int .i64 n_1]) (((0 : Int) ≤ n_1 ∧ n_1 < (Int.ofNat
 (List.length es_4))) ∧ 0 < 1 ∧ I0 [] [D.sl (List.take (Int.toNat n_1) es_3 ++ ofInts (Prod.fst (subF g (intsD (List.take (Int.toNat (IntKind.wrap .i64
 (IntKind.wrap .i64 (n_1 + (Int.ofNat (List.length es))) + (1 : Int))) - Int.toNat n_1) (List.drop (Int.toNat n_1) es_3))) (intsD es_2) (0 : Int) (0 : Int))) ++ List.drop
 (Int.toNat n_1 + (Int.toNat (IntKind.wrap .i64 (IntKind.wrap .i64 (n_1 + (Int.ofNat (List.length es))) + (1 : Int))) - Int.toNat n_1)) es_3), D.sl (upd es_4
 (Int.toNat n_1) (upd (nth [] es_4 (Int.toNat n_1)) 0 (D.int .u32 (IntKind.wrap .u32 g)))), D.int .i64 (IntKind.wrap .i64 (n_1 - (1 : Int)))] ∧
 M0 [D.sl (List.take (Int.toNat n_1) es_3 ++ ofInts (Prod.fst (subF g (intsD (List.take (Int.toNat (IntKind.wrap .i64 (IntKind.wrap .i64 (n_1 + (Int.ofNat (List.length
 es))) + (1 : Int))) - Int.toNat n_1) (List.drop (Int.toNat n_1) es_3))) (intsD es_2) (0 : Int) (0 : Int))) ++ List.drop (Int.toNat n_1 + (Int.toNat (IntKind.wrap .i64
 (IntKind.wrap .i64 (n_1 + (Int.ofNat (List.length es))) + (1 : Int))) - Int.toNat n_1)) es_3), D.sl (upd es_4 (Int.toNat n_1) (upd (nth [] es_4 (Int.toNat n_1)) 0
 (D.int .u32 (IntKind.wrap .u32 g)))), D.int .i64 (IntKind.wrap .i64 (n_1 - (1 : Int)))] < M0 [D.sl es_3, D.sl es_4, D.int .i64 n_1]))
theorem vc_divide (Gv : Nat → List A → List A → Prop) (I0 : List D → List D → Prop) (M0 : List D → Nat) (I1 : List D → List D → Prop) (M1 : List D → Nat) (chk : List A → Bool) (mk
 : List A → List (List D)) (es fs : List (List D)) (Q : List A → Prop) : wpF (CM chk mk) Gv (ann2 ⟨[.own 8 180 1, .own 10 181 1, .slot 11 (.int .i64 0)], [], I0, M0⟩ ⟨[.slot 13
 (.int .u64 0), .slot 14 (.int .u64 0)], [.slot 12 (.int .u64 0), .slot 11 (.int .i64 0), .own 8 180 1], I1, M1⟩) Tryz.f233 [.c (.sl es), .c (.sl fs)] Q = (∃ es_1, Gv 307
 [A.c (D.sl es)] [A.c (D.sl es_1)] ∧ ∃ es, Gv 307 [A.c (D.sl fs)] [A.c (D.sl es)] ∧ br (toB (D.bool ((Int.ofNat (List.length es)) == (1 : Int)))) (((0 : Int) ≤ (0 : Int) ∧
 (0 : Int) < (Int.ofNat (List.length es)) ∧ List.length (nth [] es 0) = 1) ∧ ∃ n, cut (nth [] es 0) 0 1 [D.int .u32 n] ∧ ∃ es es_2, Gv
 308 [A.c (D.sl es_1), A.c (D.int .u32 n)] [A.c (D.sl es), A.c (D.sl es_2)] ∧ Q [A.c (D.sl es), A.c (D.sl es_2)]) (∃ n, Gv 266 [A.c (D.sl es_1), A.c (D.sl
 es)] [A.c (D.int .i64 n)] ∧ br (toB (D.bool (decide (n < (0 : Int))))) ((room (List.length es_1) ∧ lens 1 es_1) ∧ Q [A.c (D.sl []), A.c (D.sl es_1)]) (((0 : Int) ≤
 IntKind.wrap .i64 ((Int.ofNat (List.length es)) - (1 : Int)) ∧ IntKind.wrap .i64 ((Int.ofNat (List.length es)) - (1 : Int)) < (Int.ofNat (List.length es)) ∧
 List.length (nth [] es (Int.toNat (IntKind.wrap .i64 ((Int.ofNat (List.length es)) - (1 : Int))))) = 1) ∧ ∃ n, cut (nth [] es (Int.toNat (IntKind.wrap .i64
 ((Int.ofNat (List.length es)) - (1 : Int))))) 0 1 [D.int .u32 n] ∧ IntKind.wrap .u64 (IntKind.wrap .u64 n + (1 : Int)) ≠ (0 : Int) ∧ chk [A.c
 (D.sl es_1), A.c (D.sl [[D.int .u32 (IntKind.wrap .u32 (IntKind.wrap .u64 (Int.tdiv (1000000000 : Int) (IntKind.wrap .u64 (IntKind.wrap .u64 n +
 (1 : Int))))))]])] = true ∧ (room (List.length (mk [A.c (D.sl es_1), A.c (D.sl [[D.int .u32 (IntKind.wrap .u32 (IntKind.wrap .u64 (Int.tdiv (1000000000 : Int)
 (IntKind.wrap .u64 (IntKind.wrap .u64 n + (1 : Int))))))]])]) + 1) ∧ lens 1 [[D.int .u32 (0 : Int)]]) ∧ chk [A.c (D.sl es), A.c (D.sl [[D.int
 .u32 (IntKind.wrap .u32 (IntKind.wrap .u64 (Int.tdiv (1000000000 : Int) (IntKind.wrap .u64 (IntKind.wrap .u64 n + (1 : Int))))))]])] = true ∧ ∃
 es_2, Gv 307 [A.c (D.sl (mk [A.c (D.sl es), A.c (D.sl [[D.int .u32 (IntKind.wrap .u32 (IntKind.wrap .u64 (Int.tdiv (1000000000 : Int) (IntKind.wrap
 .u64 (IntKind.wrap .u64 n + (1 : Int))))))]])]))] [A.c (D.sl es_2)] ∧ ((0 : Int) ≤ IntKind.wrap .i64 ((Int.ofNat (List.length (mk [A.c (D.sl es_1), A.c (D.sl
 [[D.int .u32 (IntKind.wrap .u32 (IntKind.wrap .u64 (Int.tdiv (1000000000 : Int) (IntKind.wrap .u64 (IntKind.wrap .u64 n + (1 : Int))))))]])] ++
 [[D.int .u32 (0 : Int)]]))) - (Int.ofNat (List.length es))) ∧ IntKind.wrap .i64 ((Int.ofNat (List.length (mk [A.c (D.sl es_1), A.c (D.sl [[D.int .u32
 (IntKind.wrap .u32 (IntKind.wrap .u64 (Int.tdiv (1000000000 : Int) (IntKind.wrap .u64 (IntKind.wrap .u64 n + (1 : Int))))))]])] ++ [[D.int .u32
 (0 : Int)]]))) - (Int.ofNat (List.length es))) ≤ IntKind.wrap .i64 ((Int.ofNat (List.length (mk [A.c (D.sl es_1), A.c (D.sl [[D.int .u32 (IntKind.wrap .u32
 (IntKind.wrap .u64 (Int.tdiv (1000000000 : Int) (IntKind.wrap .u64 (IntKind.wrap .u64 n + (1 : Int))))))]])] ++ [[D.int .u32 (0 : Int)]]))) - (Int.ofNat
 (List.length es))) ∧ room (Int.toNat (IntKind.wrap .i64 ((Int.ofNat (List.length (mk [A.c (D.sl es_1), A.c (D.sl [[D.int .u32 (IntKind.wrap .u32 (IntKind.wrap
 .u64 (Int.tdiv (1000000000 : Int) (IntKind.wrap .u64 (IntKind.wrap .u64 n + (1 : Int))))))]])] ++ [[D.int .u32 (0 : Int)]]))) - (Int.ofNat (List.length
 es)))))) ∧ I0 [] [D.sl (mk [A.c (D.sl es_1), A.c (D.sl [[D.int .u32 (IntKind.wrap .u32 (IntKind.wrap .u64 (Int.tdiv (1000000000 : Int) (IntKind.wrap
 .u64 (IntKind.wrap .u64 n + (1 : Int))))))]])] ++ [[D.int .u32 (0 : Int)]]), D.sl (List.replicate (Int.toNat (IntKind.wrap .i64 ((Int.ofNat (List.length
 (mk [A.c (D.sl es_1), A.c (D.sl [[D.int .u32 (IntKind.wrap .u32 (IntKind.wrap .u64 (Int.tdiv (1000000000 : Int) (IntKind.wrap .u64 (IntKind.wrap
 .u64 n + (1 : Int))))))]])] ++ [[D.int .u32 (0 : Int)]]))) - (Int.ofNat (List.length es))))) [D.int .u32 (0 : Int)]), D.int .i64 (IntKind.wrap
 .i64 (IntKind.wrap .i64 ((Int.ofNat (List.length (mk [A.c (D.sl es_1), A.c (D.sl [[D.int .u32 (IntKind.wrap .u32 (IntKind.wrap .u64 (Int.tdiv
 (1000000000 : Int) (IntKind.wrap .u64 (IntKind.wrap .u64 n + (1 : Int))))))]])] ++ [[D.int .u32 (0 : Int)]]))) - (Int.ofNat (List.length es))) - (1 : Int)))] ∧
 ∀ (es_3 es_4 : List (List D)) (n_1 : Int), I0 [] [D.sl es_3, D.sl es_4, D.int .i64 n_1] → br (toB (D.bool (decide (n_1 ≥ (0 : Int))))) (((0 : Int) ≤ IntKind.wrap .i64
 (n_1 + (Int.ofNat (List.length es))) ∧ IntKind.wrap .i64 (n_1 + (Int.ofNat (List.length es))) < (Int.ofNat (List.length es_3))) ∧ ∃ n, cut (nth [] es_3 (Int.toNat
 (IntKind.wrap .i64 (n_1 + (Int.ofNat (List.length es)))))) 0 1 [D.int .u32 n] ∧ ((0 : Int) ≤ IntKind.wrap .i64 (IntKind.wrap .i64 (n_1 +
 (Int.ofNat (List.length es))) - (1 : Int)) ∧ IntKind.wrap .i64 (IntKind.wrap .i64 (n_1 + (Int.ofNat (List.length es))) - (1 : Int)) < (Int.ofNat (List.length es_3)))
 ∧ ∃ n_2, cut (nth [] es_3 (Int.toNat (IntKind.wrap .i64 (IntKind.wrap .i64 (n_1 + (Int.ofNat (List.length es))) - (1 : Int))))) 0 1 [D.int .u32
 n_2] ∧ ((0 : Int) ≤ IntKind.wrap .i64 ((Int.ofNat (List.length es)) - (1 : Int)) ∧ IntKind.wrap .i64 ((Int.ofNat (List.length es)) - (1 : Int)) < (Int.ofNat
 (List.length es_2)) ∧ List.length (nth [] es_2 (Int.toNat (IntKind.wrap .i64 ((Int.ofNat (List.length es)) - (1 : Int))))) = 1) ∧ ∃ n_3, cut (nth [] es_2 (Int.toNat
 (IntKind.wrap .i64 ((Int.ofNat (List.length es)) - (1 : Int))))) 0 1 [D.int .u32 n_3] ∧ IntKind.wrap .u64 n_3 ≠ (0 : Int) ∧ ((0 : Int) ≤
 IntKind.wrap .i64 ((Int.ofNat (List.length es)) - (1 : Int)) ∧ IntKind.wrap .i64 ((Int.ofNat (List.length es)) - (1 : Int)) < (Int.ofNat (List.length es_2)) ∧
 List.length (nth [] es_2 (Int.toNat (IntKind.wrap .i64 ((Int.ofNat (List.length es)) - (1 : Int))))) = 1) ∧ ∃ n_4, cut (nth [] es_2 (Int.toNat (IntKind.wrap
 .i64 ((Int.ofNat (List.length es)) - (1 : Int))))) 0 1 [D.int .u32 n_4] ∧ IntKind.wrap .u64 n_4 ≠ (0 : Int) ∧ I1 [D.int .u64
 (IntKind.wrap .u64 (IntKind.wrap .u64 (IntKind.wrap .u64 n * (1000000000 : Int)) + IntKind.wrap .u64 n_2)), D.int .i64 n_1, D.sl es_3] [D.int
 .u64 (IntKind.wrap .u64 (Int.tdiv (IntKind.wrap .u64 (IntKind.wrap .u64 (IntKind.wrap .u64 n * (1000000000 : Int)) + IntKind.wrap .u64
 n_2)) (IntKind.wrap .u64 n_3))), D.int .u64 (Int.tmod (IntKind.wrap .u64 (IntKind.wrap .u64 (IntKind.wrap .u64 n * (1000000000 : Int)) +
 IntKind.wrap .u64 n_2)) (IntKind.wrap .u64 n_4))] ∧ ∀ (n_5 n_6 : Int), I1 [D.int .u64 (IntKind.wrap .u64 (IntKind.wrap .u64 (IntKind.wrap
 .u64 n * (1000000000 : Int)) + IntKind.wrap .u64 n_2)), D.int .i64 n_1, D.sl es_3] [D.int .u64 n_5, D.int .u64 n_6] → br (toB (D.bool (decide
 (n_5 ≥ (1000000000 : Int))))) (((0 : Int) ≤ IntKind.wrap .i64 ((Int.ofNat (List.length es)) - (1 : Int)) ∧ IntKind.wrap .i64 ((Int.ofNat (List.length es)) - (1 :
 Int)) < (Int.ofNat (List.length es_2)) ∧ List.length (nth [] es_2 (Int.toNat (IntKind.wrap .i64 ((Int.ofNat (List.length es)) - (1 : Int))))) = 1) ∧ ∃ n_7, cut (nth
 [] es_2 (Int.toNat (IntKind.wrap .i64 ((Int.ofNat (List.length es)) - (1 : Int))))) 0 1 [D.int .u32 n_7] ∧ br (toB (D.bool (decide (IntKind.wrap
 .u64 (n_6 + IntKind.wrap .u64 n_7) ≥ (1000000000 : Int))))) (AfterV I0 M0 es es_2 es_3 es_4 n_1 (IntKind.wrap .u64 (n_5 - (1 : Int)))) (I1 [D.int .u64
 (IntKind.wrap .u64 (IntKind.wrap .u64 (IntKind.wrap .u64 n * (1000000000 : Int)) + IntKind.wrap .u64 n_2)), D.int .i64 n_1, D.sl es_3] [D.int
 .u64 (IntKind.wrap .u64 (n_5 - (1 : Int))), D.int .u64 (IntKind.wrap .u64 (n_6 + IntKind.wrap .u64 n_7))] ∧ M1 [D.int .u64 (IntKind.wrap
 .u64 (n_5 - (1 : Int))), D.int .u64 (IntKind.wrap .u64 (n_6 + IntKind.wrap .u64 n_7))] < M1 [D.int .u64 n_5, D.int .u64 n_6])) (((0 : Int)
 ≤ IntKind.wrap .i64 ((Int.ofNat (List.length es)) - (2 : Int)) ∧ IntKind.wrap .i64 ((Int.ofNat (List.length es)) - (2 : Int)) < (Int.ofNat (List.length es_2)) ∧
 List.length (nth [] es_2 (Int.toNat (IntKind.wrap .i64 ((Int.ofNat (List.length es)) - (2 : Int))))) = 1) ∧ ∃ n_7, cut (nth [] es_2 (Int.toNat (IntKind.wrap
 .i64 ((Int.ofNat (List.length es)) - (2 : Int))))) 0 1 [D.int .u32 n_7] ∧ ((0 : Int) ≤ IntKind.wrap .i64 (IntKind.wrap .i64 (n_1 +
 (Int.ofNat (List.length es))) - (2 : Int)) ∧ IntKind.wrap .i64 (IntKind.wrap .i64 (n_1 + (Int.ofNat (List.length es))) - (2 : Int)) < (Int.ofNat (List.length es_3)))
 ∧ ∃ n_8, cut (nth [] es_3 (Int.toNat (IntKind.wrap .i64 (IntKind.wrap .i64 (n_1 + (Int.ofNat (List.length es))) - (2 : Int))))) 0 1 [D.int .u32
 n_8] ∧ br (toB (D.bool (decide (IntKind.wrap .u64 (n_5 * IntKind.wrap .u64 n_7) > IntKind.wrap .u64 (IntKind.wrap .u64 (n_6 * (1000000000 : Int)) +
 IntKind.wrap .u64 n_8))))) (((0 : Int) ≤ IntKind.wrap .i64 ((Int.ofNat (List.length es)) - (1 : Int)) ∧ IntKind.wrap .i64 ((Int.ofNat (List.length es)) - (1 :
 Int)) < (Int.ofNat (List.length es_2)) ∧ List.length (nth [] es_2 (Int.toNat (IntKind.wrap .i64 ((Int.ofNat (List.length es)) - (1 : Int))))) = 1) ∧ ∃ n_9, cut (nth
 [] es_2 (Int.toNat (IntKind.wrap .i64 ((Int.ofNat (List.length es)) - (1 : Int))))) 0 1 [D.int .u32 n_9] ∧ br (toB (D.bool (decide (IntKind.wrap
 .u64 (n_6 + IntKind.wrap .u64 n_9) ≥ (1000000000 : Int))))) (AfterV I0 M0 es es_2 es_3 es_4 n_1 (IntKind.wrap .u64 (n_5 - (1 : Int)))) (I1 [D.int .u64
 (IntKind.wrap .u64 (IntKind.wrap .u64 (IntKind.wrap .u64 n * (1000000000 : Int)) + IntKind.wrap .u64 n_2)), D.int .i64 n_1, D.sl es_3] [D.int
 .u64 (IntKind.wrap .u64 (n_5 - (1 : Int))), D.int .u64 (IntKind.wrap .u64 (n_6 + IntKind.wrap .u64 n_9))] ∧ M1 [D.int .u64 (IntKind.wrap
 .u64 (n_5 - (1 : Int))), D.int .u64 (IntKind.wrap .u64 (n_6 + IntKind.wrap .u64 n_9))] < M1 [D.int .u64 n_5, D.int .u64 n_6])) (AfterV I0
 M0 es es_2 es_3 es_4 n_1 n_5))) (((0 : Int) ≤ (0 : Int) ∧ (0 : Int) ≤ (Int.ofNat (List.length es)) ∧ (Int.ofNat (List.length es)) ≤ (Int.ofNat (List.length es_3)) ∧ lens 1
 es_3) ∧ ∃ es_5, Gv 307 [A.c (D.sl (List.drop 0 (List.take (Int.toNat (Int.ofNat (List.length es))) es_3)))] [A.c (D.sl es_5)] ∧ ∃ es es_6, Gv 308 [A.c (D.sl
 es_5), A.c (D.int .u32 (IntKind.wrap .u32 (IntKind.wrap .u64 (Int.tdiv (1000000000 : Int) (IntKind.wrap .u64 (IntKind.wrap .u64 n + (1 :
 Int)))))))] [A.c (D.sl es), A.c (D.sl es_6)] ∧ Q [A.c (D.sl es_4), A.c (D.sl es)])))) := by kernel_rfl
end Eng
end
