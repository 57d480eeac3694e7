/- Contexts for cover.Cover: sorting, cloning, making compact as calls that turn arrays. -/
import Derived.Test.YtkkodaemmgpgfaaGreatDoorTabB
import Derived.Test.YtkkodaemmgpgfaaGreatDoorCvA
import Derived.Test.YtkkodaemmgpgfaaGreatDoorSortA
import Derived.Test.YtkkodaemmgpgfaaGreatDoorShfA
import Derived.KernelRfl
section
namespace Eng
open Go Go.Proofs
abbrev Ck1 := List A → Bool
abbrev Mk1 := List A → List (List D)
abbrev Ck2 := List (List D) → List A → Bool
abbrev Mk2 := List (List D) → List A → List (List D)
noncomputable def CVx (c1 : Ck1) (m1 : Mk1) (sc : Ck2) (sm : Mk2) (c2 : Ck2) (m2 : Mk2) (tc : Ck2) (tm : Mk2) : Cx :=
 CX [(114, effCl c1 4 m1), (115, effIn 4 sc sm (fun _ _ => [])), (116, effCo 4 c2 m2), (63, effIn 4 tc tm (fun _ _ => []))]
def ann4 (a b c d : Ann) (n : Nat) : Ann := match n with
 | 0 => a
 | 1 => b
 | 2 => c
 | _ => d
end Eng
end

section
open Go Go.Proofs Eng
set_option maxRecDepth 1000000
namespace Eng
theorem vc_cvranks (Gv : Nat → List A → List A → Prop) (c1 : Ck1) (m1 : Mk1) (sc : Ck2) (sm : Mk2) (c2 : Ck2) (m2 : Mk2) (tc : Ck2) (tm : Mk2) (es : List (List D)) (Q : List A → Prop) :
 wpF (CVx c1 m1 sc sm c2 m2 tc tm) Gv (fun _ => ⟨[], [], fun _ _ => True, fun _ => 0⟩) Tryz.f60 [.c (.sl es)] Q = (
 c1 [A.c (D.sl es)] = true ∧
 sc (m1 [A.c (D.sl es)]) [A.c (D.fn 49)] = true ∧
 c2 (sm (m1 [A.c (D.sl es)]) [A.c (D.fn 49)]) [A.c (D.fn 117)] = true ∧
 Q [A.c (D.sl (m2 (sm (m1 [A.c (D.sl es)]) [A.c (D.fn 49)]) [A.c (D.fn 117)]))]) := by kernel_rfl
theorem vc_clone (Gv : Nat → List A → List A → Prop) (c1 : Ck1) (m1 : Mk1) (sc : Ck2) (sm : Mk2) (c2 : Ck2) (m2 : Mk2) (tc : Ck2) (tm : Mk2) (es : List (List D)) (Q : Nat → List (List D) → Prop) :
 wpFc (CVx c1 m1 sc sm c2 m2 tc tm) Gv (fun _ => ⟨[], [], fun _ _ => True, fun _ => 0⟩) Tryz.f114 [.c (.sl es)] none [] Q = (
 0 < List.length es ∧ (room (0 + List.length es) ∧ lens 4 es) ∧ es ≠ [] ∧ Q 4 es) := by kernel_rfl
theorem vc_compact (Gv : Nat → List A → List A → Prop) (I0 : List D → List D → Prop) (M0 : List D → Nat) (I1 : List D → List D → Prop) (M1 : List D → Nat) (c1 : Ck1) (m1 : Mk1) (sc : Ck2) (sm : Mk2) (c2 : Ck2) (m2 : Mk2) (tc : Ck2) (tm : Mk2) (es : List (List D)) (Q : Nat → List (List D) → Prop) :
 wpFc (CVx c1 m1 sc sm c2 m2 tc tm) Gv (ann2 ⟨[.slot 5 (.int .i64 0), .own 0 73 4], [], I0, M0⟩ ⟨[.slot 7 (.int .i64 0), .slot 5 (.int .i64 0), .own 0 73 4], [.slot 5 (.int .i64 0)], I1, M1⟩) Tryz.f116 [] (some (4, es)) [.c (.fn 117)] Q = (
 br (toB (D.bool (decide ((Int.ofNat (List.length es)) < (2 : Int))))) (es ≠ [] ∧ Q 4 es)
 (I0 [] [D.int .i64 (1 : Int), D.sl es] ∧
 ∀ (n : Int) (es : List (List D)),
 I0 [] [D.int .i64 n, D.sl es] →
 br (toB (D.bool (decide (n < (Int.ofNat (List.length es))))))
 (((0 : Int) ≤ n ∧ n < (Int.ofNat (List.length es))) ∧
 ∃ b es_1 b_1 es_2,
 cut (nth [] es (Int.toNat n)) 0 4 [D.bool b, D.sl es_1, D.bool b_1, D.sl es_2] ∧
 ((0 : Int) ≤ IntKind.wrap .i64 (n - (1 : Int)) ∧ IntKind.wrap .i64 (n - (1 : Int)) < (Int.ofNat (List.length es))) ∧
 ∃ b_2 es_3 b_3 es_4,
 cut (nth [] es (Int.toNat (IntKind.wrap .i64 (n - (1 : Int))))) 0 4 [D.bool b_2, D.sl es_3, D.bool b_3, D.sl es_4] ∧
 ∃ b_4,
 Gv 117 [A.ag [D.bool b, D.sl es_1, D.bool b_1, D.sl es_2], A.ag [D.bool b_2, D.sl es_3, D.bool b_3, D.sl es_4]]
 [A.c (D.bool b_4)] ∧
 br b_4
 (((0 : Int) ≤ n ∧ n < (Int.ofNat (List.length es)) ∧ (Int.ofNat (List.length es)) ≤ (Int.ofNat (List.length es))) ∧
 I1 [D.int .i64 n] [D.int .i64 (1 : Int), D.int .i64 n, D.sl es] ∧
 ∀ (n_1 n_2 : Int) (es_5 : List (List D)),
 I1 [D.int .i64 n] [D.int .i64 n_1, D.int .i64 n_2, D.sl es_5] →
 br (toB (D.bool (decide (n_1 < (Int.ofNat (Int.toNat (Int.ofNat (List.length es)) - Int.toNat n))))))
 (((0 : Int) ≤ n_1 ∧ n_1 < (Int.ofNat (Int.toNat (Int.ofNat (List.length es)) - Int.toNat n))) ∧
 ∃ b es_6 b_5 es_7,
 cut (nth [] es_5 (Int.toNat n + Int.toNat n_1)) 0 4 [D.bool b, D.sl es_6, D.bool b_5, D.sl es_7] ∧
 ((0 : Int) ≤ IntKind.wrap .i64 (n_1 - (1 : Int)) ∧
 IntKind.wrap .i64 (n_1 - (1 : Int)) < (Int.ofNat (Int.toNat (Int.ofNat (List.length es)) - Int.toNat n))) ∧
 ∃ b_6 es_8 b_7 es_9,
 cut (nth [] es_5 (Int.toNat n + Int.toNat (IntKind.wrap .i64 (n_1 - (1 : Int))))) 0 4
 [D.bool b_6, D.sl es_8, D.bool b_7, D.sl es_9] ∧
 ∃ b_8,
 Gv 117
 [A.ag [D.bool b, D.sl es_6, D.bool b_5, D.sl es_7], A.ag [D.bool b_6, D.sl es_8, D.bool b_7, D.sl es_9]]
 [A.c (D.bool b_8)] ∧
 br (toB (D.bool !b_8))
 (((0 : Int) ≤ n_1 ∧ n_1 < (Int.ofNat (Int.toNat (Int.ofNat (List.length es)) - Int.toNat n))) ∧
 ∃ b es b_9 es_10,
 cut (nth [] es_5 (Int.toNat n + Int.toNat n_1)) 0 4
 [D.bool b, D.sl es, D.bool b_9, D.sl es_10] ∧
 ((0 : Int) ≤ n_2 ∧ n_2 < (Int.ofNat (List.length es_5))) ∧
 4 ≤ 4 ∧
 I1 [D.int .i64 n]
 [D.int .i64 (IntKind.wrap .i64 (n_1 + (1 : Int))),
 D.int .i64 (IntKind.wrap .i64 (n_2 + (1 : Int))),
 D.sl
 (upd es_5 (Int.toNat n_2)
 (updsD (nth [] es_5 (Int.toNat n_2)) 0
 [D.bool b, D.sl es, D.bool b_9, D.sl es_10]))] ∧
 M1
 [D.int .i64 (IntKind.wrap .i64 (n_1 + (1 : Int))),
 D.int .i64 (IntKind.wrap .i64 (n_2 + (1 : Int))),
 D.sl
 (upd es_5 (Int.toNat n_2)
 (updsD (nth [] es_5 (Int.toNat n_2)) 0
 [D.bool b, D.sl es, D.bool b_9, D.sl es_10]))] <
 M1 [D.int .i64 n_1, D.int .i64 n_2, D.sl es_5])
 (I1 [D.int .i64 n]
 [D.int .i64 (IntKind.wrap .i64 (n_1 + (1 : Int))), D.int .i64 n_2, D.sl es_5] ∧
 M1
 [D.int .i64 (IntKind.wrap .i64 (n_1 + (1 : Int))), D.int .i64 n_2,
 D.sl es_5] <
 M1 [D.int .i64 n_1, D.int .i64 n_2, D.sl es_5]))
 (((0 : Int) ≤ n_2 ∧ n_2 < (Int.ofNat (List.length es_5)) ∧ (Int.ofNat (List.length es_5)) ≤ (Int.ofNat (List.length es_5))) ∧
 0 < Int.toNat (Int.ofNat (List.length es_5)) - Int.toNat n_2 ∧
 ((0 : Int) ≤ n_2 ∧
 n_2 ≤
 (Int.ofNat (List.length
 (List.take (Int.toNat n_2) es_5 ++
 (List.replicate (Int.toNat (Int.ofNat (List.length es_5)) - Int.toNat n_2)
 [D.bool false, D.sl [], D.bool false, D.sl []] ++
 List.drop (Int.toNat n_2 + (Int.toNat (Int.ofNat (List.length es_5)) - Int.toNat n_2)) es_5)))) ∧
 0 <
 List.length
 (List.take (Int.toNat n_2) es_5 ++
 (List.replicate (Int.toNat (Int.ofNat (List.length es_5)) - Int.toNat n_2)
 [D.bool false, D.sl [], D.bool false, D.sl []] ++
 List.drop (Int.toNat n_2 + (Int.toNat (Int.ofNat (List.length es_5)) - Int.toNat n_2)) es_5))) ∧
 List.take (Int.toNat n_2)
 (List.take (Int.toNat n_2) es_5 ++
 (List.replicate (Int.toNat (Int.ofNat (List.length es_5)) - Int.toNat n_2)
 [D.bool false, D.sl [], D.bool false, D.sl []] ++
 List.drop (Int.toNat n_2 + (Int.toNat (Int.ofNat (List.length es_5)) - Int.toNat n_2)) es_5)) ≠
 [] ∧
 Q 4
 (List.take (Int.toNat n_2)
 (List.take (Int.toNat n_2) es_5 ++
 (List.replicate (Int.toNat (Int.ofNat (List.length es_5)) - Int.toNat n_2)
 [D.bool false, D.sl [], D.bool false, D.sl []] ++
 List.drop (Int.toNat n_2 + (Int.toNat (Int.ofNat (List.length es_5)) - Int.toNat n_2)) es_5)))))
 (I0 [] [D.int .i64 (IntKind.wrap .i64 (n + (1 : Int))), D.sl es] ∧
 M0 [D.int .i64 (IntKind.wrap .i64 (n + (1 : Int))), D.sl es] < M0 [D.int .i64 n, D.sl es]))
 (es ≠ [] ∧ Q 4 es))) := by kernel_rfl
theorem vc_cover (Gv : Nat → List A → List A → Prop) (I0 : List D → List D → Prop) (M0 : List D → Nat) (I1 : List D → List D → Prop) (M1 : List D → Nat) (I2 : List D → List D → Prop) (M2 : List D → Nat) (I3 : List D → List D → Prop) (M3 : List D → Nat) (c1 : Ck1) (m1 : Mk1) (sc : Ck2) (sm : Mk2) (c2 : Ck2) (m2 : Mk2) (tc : Ck2) (tm : Mk2) (p8 q8 p9 q9 p3 q3 p4 q4 : Bool) (l8 m8 l9 m9 l3 m3 l4 m4 : List (List D)) (es : List (List D)) (Q : List A → Prop) :
 wpF (CVx c1 m1 sc sm c2 m2 tc tm) Gv (ann4 ⟨[.slot 42 (.int .i64 0), .cel 5 125 4, .cel 6 126 4], [], I0, M0⟩ ⟨[.slot 71 (.int .i64 0), .own 11 127 4], [], I1, M1⟩ ⟨[.slot 14 (.int .i64 0)], [], I2, M2⟩ ⟨[.slot 15 (.int .i64 0), .slot 96 (.int .i64 0)], [.slot 14 (.int .i64 0)], I3, M3⟩) Tryz.f17 [.ag [.bool p8, .sl l8, .bool q8, .sl m8, .bool p9, .sl l9, .bool q9, .sl m9, .bool p3, .sl l3, .bool q3, .sl m3, .bool p4, .sl l4, .bool q4, .sl m4], .c (.sl es)] Q = (
 ∃ b,
 Gv 46
 [A.ag
 [D.bool p8, D.sl l8, D.bool q8, D.sl m8, D.bool p9, D.sl l9, D.bool q9, D.sl m9, D.bool p3, D.sl l3, D.bool q3, D.sl m3, D.bool p4, D.sl l4,
 D.bool q4, D.sl m4]]
 [A.c (D.bool b)] ∧
 br (toB (D.bool !b)) (Q [A.c (D.bool false)])
 (br (toB (D.bool (decide ((Int.ofNat (List.length es)) > (4096 : Int))))) (Q [A.c (D.bool false)])
 (∃ b,
 Gv 58 [A.c (D.sl es), A.c (D.fn 59)] [A.c (D.bool b)] ∧
 br b (Q [A.c (D.bool false)])
 (I0 []
 [D.int .i64 (0 : Int), D.sl [[D.bool p8, D.sl l8, D.bool q8, D.sl m8], [D.bool p3, D.sl l3, D.bool q3, D.sl m3]],
 D.sl [[D.bool p9, D.sl l9, D.bool q9, D.sl m9], [D.bool p4, D.sl l4, D.bool q4, D.sl m4]]] ∧
 ∀ (n : Int) (es_1 es_2 : List (List D)),
 I0 [] [D.int .i64 n, D.sl es_1, D.sl es_2] →
 br (toB (D.bool (decide (n < (Int.ofNat (List.length es))))))
 (((0 : Int) ≤ n ∧ n < (Int.ofNat (List.length es)) ∧ List.length (nth [] es (Int.toNat n)) = 16) ∧
 ∃ b es_3 b_1 es_4 b_2 es_5 b_3 es_6 b_4 es_7 b_5 es_8 b_6 es_9 b_7 es_10,
 cut (nth [] es (Int.toNat n)) 0 16
 [D.bool b, D.sl es_3, D.bool b_1, D.sl es_4, D.bool b_2, D.sl es_5, D.bool b_3, D.sl es_6, D.bool b_4, D.sl es_7, D.bool b_5,
 D.sl es_8, D.bool b_6, D.sl es_9, D.bool b_7, D.sl es_10] ∧
 (room (List.length es_1 + 2) ∧
 lens 4 [[D.bool b, D.sl es_3, D.bool b_1, D.sl es_4], [D.bool b_4, D.sl es_7, D.bool b_5, D.sl es_8]]) ∧
 (room (List.length es_2 + 2) ∧
 lens 4 [[D.bool b_2, D.sl es_5, D.bool b_3, D.sl es_6], [D.bool b_6, D.sl es_9, D.bool b_7, D.sl es_10]]) ∧
 I0 []
 [D.int .i64 (IntKind.wrap .i64 (n + (1 : Int))),
 D.sl (es_1 ++ [[D.bool b, D.sl es_3, D.bool b_1, D.sl es_4], [D.bool b_4, D.sl es_7, D.bool b_5, D.sl es_8]]),
 D.sl (es_2 ++ [[D.bool b_2, D.sl es_5, D.bool b_3, D.sl es_6], [D.bool b_6, D.sl es_9, D.bool b_7, D.sl es_10]])] ∧
 M0
 [D.int .i64 (IntKind.wrap .i64 (n + (1 : Int))),
 D.sl (es_1 ++ [[D.bool b, D.sl es_3, D.bool b_1, D.sl es_4], [D.bool b_4, D.sl es_7, D.bool b_5, D.sl es_8]]),
 D.sl (es_2 ++ [[D.bool b_2, D.sl es_5, D.bool b_3, D.sl es_6], [D.bool b_6, D.sl es_9, D.bool b_7, D.sl es_10]])] <
 M0 [D.int .i64 n, D.sl es_1, D.sl es_2])
 (∃ es_3,
 Gv 60 [A.c (D.sl es_1)] [A.c (D.sl es_3)] ∧
 ∃ es_4,
 Gv 60 [A.c (D.sl es_2)] [A.c (D.sl es_4)] ∧
 ∃ n n_1 n_2 n_3,
 Gv 61
 [A.ag
 [D.bool p8, D.sl l8, D.bool q8, D.sl m8, D.bool p9, D.sl l9, D.bool q9, D.sl m9, D.bool p3, D.sl l3, D.bool q3, D.sl m3,
 D.bool p4, D.sl l4, D.bool q4, D.sl m4],
 A.c (D.ptr [D.sl es_3]), A.c (D.ptr [D.sl es_4])]
 [A.ag [D.int .i64 n, D.int .i64 n_1, D.int .i64 n_2, D.int .i64 n_3]] ∧
 I1 [] [D.int .i64 (0 : Int), D.sl []] ∧
 ∀ (n_4 : Int) (es_5 : List (List D)),
 I1 [] [D.int .i64 n_4, D.sl es_5] →
 br (toB (D.bool (decide (n_4 < (Int.ofNat (List.length es))))))
 (((0 : Int) ≤ n_4 ∧ n_4 < (Int.ofNat (List.length es)) ∧ List.length (nth [] es (Int.toNat n_4)) = 16) ∧
 ∃ b es_6 b_1 es_7 b_2 es_8 b_3 es_9 b_4 es_10 b_5 es_11 b_6 es_12 b_7 es_13,
 cut (nth [] es (Int.toNat n_4)) 0 16
 [D.bool b, D.sl es_6, D.bool b_1, D.sl es_7, D.bool b_2, D.sl es_8, D.bool b_3, D.sl es_9, D.bool b_4,
 D.sl es_10, D.bool b_5, D.sl es_11, D.bool b_6, D.sl es_12, D.bool b_7, D.sl es_13] ∧
 ∃ n n_5 n_6 n_7,
 Gv 61
 [A.ag
 [D.bool b, D.sl es_6, D.bool b_1, D.sl es_7, D.bool b_2, D.sl es_8, D.bool b_3, D.sl es_9, D.bool b_4,
 D.sl es_10, D.bool b_5, D.sl es_11, D.bool b_6, D.sl es_12, D.bool b_7, D.sl es_13],
 A.c (D.ptr [D.sl es_3]), A.c (D.ptr [D.sl es_4])]
 [A.ag [D.int .i64 n, D.int .i64 n_5, D.int .i64 n_6, D.int .i64 n_7]] ∧
 (room (List.length es_5 + 1) ∧
 lens 4
 [[D.int .i64 n, D.int .i64 n_5, D.int .i64 n_6, D.int .i64 n_7]]) ∧
 I1 []
 [D.int .i64 (IntKind.wrap .i64 (n_4 + (1 : Int))),
 D.sl
 (es_5 ++
 [[D.int .i64 n, D.int .i64 n_5, D.int .i64 n_6, D.int .i64 n_7]])] ∧
 M1
 [D.int .i64 (IntKind.wrap .i64 (n_4 + (1 : Int))),
 D.sl
 (es_5 ++
 [[D.int .i64 n, D.int .i64 n_5, D.int .i64 n_6,
 D.int .i64 n_7]])] <
 M1 [D.int .i64 n_4, D.sl es_5])
 (tc es_5 [A.c (D.fn 64)] = true ∧
 I2 [] [D.int .i64 n] ∧
 ∀ (n : Int),
 I2 [] [D.int .i64 n] →
 br (toB (D.bool (decide (n < n_2))))
 (I3 [D.int .i64 n] [D.int .i64 n_1, D.int .i64 (0 : Int)] ∧
 ∀ (n_5 n_6 : Int),
 I3 [D.int .i64 n] [D.int .i64 n_5, D.int .i64 n_6] →
 br (toB (D.bool (decide (n_6 < (Int.ofNat (List.length (tm es_5 [A.c (D.fn 64)])))))))
 (((0 : Int) ≤ n_6 ∧ n_6 < (Int.ofNat (List.length (tm es_5 [A.c (D.fn 64)])))) ∧
 ∃ n_7 n_8 n_9 n_10,
 cut (nth [] (tm es_5 [A.c (D.fn 64)]) (Int.toNat n_6)) 0 4
 [D.int .i64 n_7, D.int .i64 n_8, D.int .i64 n_9,
 D.int .i64 n_10] ∧
 br (toB (D.bool (decide (n_7 ≤ n))))
 (br (toB (D.bool (decide (n < n_9))))
 (br (toB (D.bool (decide (n_8 ≤ n_5))))
 (I3 [D.int .i64 n]
 [D.int .i64
 (match decide (n_5 < n_10) with
 | true => n_10
 | false => n_5),
 D.int .i64 (IntKind.wrap .i64 (n_6 + (1 : Int)))] ∧
 M3
 [D.int .i64
 (match decide (n_5 < n_10) with
 | true => n_10
 | false => n_5),
 D.int .i64 (IntKind.wrap .i64 (n_6 + (1 : Int)))] <
 M3 [D.int .i64 n_5, D.int .i64 n_6])
 (I3 [D.int .i64 n]
 [D.int .i64 n_5,
 D.int .i64 (IntKind.wrap .i64 (n_6 + (1 : Int)))] ∧
 M3
 [D.int .i64 n_5,
 D.int .i64 (IntKind.wrap .i64 (n_6 + (1 : Int)))] <
 M3 [D.int .i64 n_5, D.int .i64 n_6]))
 (I3 [D.int .i64 n]
 [D.int .i64 n_5,
 D.int .i64 (IntKind.wrap .i64 (n_6 + (1 : Int)))] ∧
 M3
 [D.int .i64 n_5,
 D.int .i64 (IntKind.wrap .i64 (n_6 + (1 : Int)))] <
 M3 [D.int .i64 n_5, D.int .i64 n_6]))
 (I3 [D.int .i64 n]
 [D.int .i64 n_5,
 D.int .i64 (IntKind.wrap .i64 (n_6 + (1 : Int)))] ∧
 M3
 [D.int .i64 n_5,
 D.int .i64 (IntKind.wrap .i64 (n_6 + (1 : Int)))] <
 M3 [D.int .i64 n_5, D.int .i64 n_6]))
 (br (toB (D.bool (decide (n_5 < n_3)))) (Q [A.c (D.bool false)])
 (I2 [] [D.int .i64 (IntKind.wrap .i64 (n + (1 : Int)))] ∧
 M2 [D.int .i64 (IntKind.wrap .i64 (n + (1 : Int)))] < M2 [D.int .i64 n])))
 (Q [A.c (D.bool true)]))))))) := by kernel_rfl
end Eng
end

section
namespace Eng
open Go Go.Proofs
open Go.Sort (SWO)
open Go.Proofs (ltOf)
set_option maxRecDepth 100000
theorem lt_cmpR (x y : Rat) : ltOf cmpR x y = decide (x < y) := by unfold ltOf; exact decide_eq_decide.2 cmpR_lt
theorem swo_cmpR : SWO (ltOf cmpR) where
 irrefl x := by rw [lt_cmpR]; exact decide_eq_false Rat.lt_irrefl
 trans x y z h1 h2 := by rw [lt_cmpR] at *; simp only [decide_eq_true_eq] at *; grind
 ntrans x y z h1 h2 := by rw [lt_cmpR] at *; simp only [decide_eq_false_iff_not] at *; grind
theorem tot_cmpR (x y : Rat) (h1 : ltOf cmpR x y = false) (h2 : ltOf cmpR y x = false) : x = y := by
 rw [lt_cmpR] at *; simp only [decide_eq_false_iff_not] at *; grind
def sortR (rs : List Rat) : List Rat := sortK cmpR rs
theorem sortR_perm (rs : List Rat) : (sortR rs).Perm rs := List.mergeSort_perm _ _
theorem sortR_sorted (rs : List Rat) : (sortR rs).Pairwise (fun a b => ¬ b < a) := by
 have h := List.pairwise_mergeSort (le := fun x y => !ltOf cmpR y x) (fun a b c h1 h2 => by
  simp only [Bool.not_eq_true'] at h1 h2 ⊢
  exact swo_cmpR.ntrans _ _ _ h2 h1) (fun a b => by
  rw [lt_cmpR, lt_cmpR]
  by_cases h : b < a
  ·have : ¬ a < b := by grind
   simp [h, this]
  ·simp [h]) rs
 refine h.imp fun {a b} h => ?_
 rw [Bool.not_eq_true', lt_cmpR, decide_eq_false_iff_not] at h
 exact h
theorem sortR_I {rs : List Rat} (hne : rs ≠ []) (hr : ∀ y ∈ rs, Sr y) : GivesI CC 115 4 (rats rs) [.c (.fn 49)] [] (rats (sortR rs)) :=
 sort_I (C := CC) (ρ := Tryz.sortRat_ren) Tryz.sortRat (by omega) Tryz.isAgg26 Tryz.sizeOf26 cR (fun _ => rfl) cmpR swo_cmpR tot_cmpR (enters_of Tryz.func49 (by kernel_rfl) rfl) hne (fun x hx y hy => rCmp_ok (hr x hx) (hr y hy))
theorem rdR_enc {r : Rat} (h : Sr r) : rdR (encR r) = some r := by
 obtain ⟨a1, a2⟩ := okZ_cI r.num
 obtain ⟨b1, b2⟩ := okZ_cI (r.den : Int)
 have hd : decide ((r.den : Int) < 0) = false := decide_eq_false (by have := den_pos r; omega)
 have e0 : encR r = .ag [.bool (decide (r.num < 0)), .sl (raw (lim r.num.natAbs)), .bool (decide ((r.den : Int) < 0)), .sl (raw (lim (r.den : Int).natAbs))] := rfl
 have hv : valD (raw (lim (r.den : Int).natAbs)) = r.den := by rw [valD_raw, lim_val, Int.natAbs_natCast]
 have h1 : smallZ r.num = true := by unfold smallZ; rw [Nat.blt_eq]; exact h.1
 have h2 : Nat.blt r.den halfN = true := by
  rw [Nat.blt_eq]
  have := h.2
  unfold Sq at this
  rwa [Int.natAbs_natCast] at this
 rw [e0]
 unfold rdR
 simp only
 rw [a1, b1, a2, hv, hd, h1, h2]
 simp only [Bool.not_false, Bool.and_self]
 unfold ratOf
 rw [dif_pos r.den_nz, dif_pos r.reduced]
def isRat (row : List D) : Bool := isSm (rdR (.ag row))
def rowR (row : List D) : Rat := (rdR (.ag row)).getD 0
def toRs (es : List (List D)) : List Rat := es.map rowR
theorem toRs_ok : ∀ {es : List (List D)}, es.all isRat = true → es = rats (toRs es) ∧ ∀ y ∈ toRs es, Sr y
 | [], _ => ⟨rfl, by simp [toRs]⟩
 | e :: es, h => by
  simp only [List.all_cons, Bool.and_eq_true] at h
  obtain ⟨h1, h2⟩ := h
  obtain ⟨g1, g2⟩ := toRs_ok h2
  unfold isRat at h1
  cases hr : rdR (.ag e) with
  | none => rw [hr] at h1; simp [isSm] at h1
  | some r =>
   obtain ⟨k1, k2⟩ := rdR_ok hr
   have he : e = cR r := A.ag.inj k1
   have hrow : rowR e = r := by unfold rowR; rw [hr]; rfl
   refine ⟨?_, fun y hy => ?_⟩
   ·show e :: es = cR (rowR e) :: rats (toRs es)
    rw [hrow, ← he, ← g1]
   ·rcases List.mem_cons.1 (show y ∈ rowR e :: toRs es from hy) with h | h
    ·rw [h, hrow]; exact k2
    ·exact g2 y h
theorem toRs_rats : ∀ {rs : List Rat}, (∀ y ∈ rs, Sr y) → toRs (rats rs) = rs ∧ (rats rs).all isRat = true
 | [], _ => ⟨rfl, rfl⟩
 | r :: rs, h => by
  obtain ⟨g1, g2⟩ := toRs_rats (rs := rs) fun y hy => h y (by simp [hy])
  have h0 : rdR (.ag (cR r)) = some r := rdR_enc (h r (by simp))
  constructor
  ·show rowR (cR r) :: toRs (rats rs) = _
   rw [g1]; unfold rowR; rw [h0]; rfl
  ·show (isRat (cR r) && (rats rs).all isRat) = true
   rw [g2]; unfold isRat; rw [h0]; rfl
def cpt : List Rat → List Rat
 | [] => []
 | x :: r => match r with
  | [] => [x]
  | y :: _ => if x = y then cpt r else x :: cpt r
theorem cpt_cons (x y : Rat) (r : List Rat) : cpt (x :: y :: r) = if x = y then cpt (y :: r) else x :: cpt (y :: r) := rfl
theorem cpt_snoc : ∀ (l : List Rat) (z y : Rat), cpt (l ++ [z] ++ [y]) = if z = y then cpt (l ++ [z]) else cpt (l ++ [z]) ++ [y]
 | [], z, y => by
  show cpt [z, y] = _
  rw [cpt_cons]
  split
  ·rename_i h; subst h; rfl
  ·rfl
 | [x], z, y => by
  show cpt [x, z, y] = if z = y then cpt [x, z] else cpt [x, z] ++ [y]
  rw [cpt_cons, cpt_cons, cpt_cons]
  split <;> split <;> simp_all [cpt]
 | x :: w :: l, z, y => by
  have ih := cpt_snoc (w :: l) z y
  show cpt (x :: w :: (l ++ [z] ++ [y])) = if z = y then cpt (x :: w :: (l ++ [z])) else cpt (x :: w :: (l ++ [z])) ++ [y]
  have ih : cpt (w :: (l ++ [z] ++ [y])) = if z = y then cpt (w :: (l ++ [z])) else cpt (w :: (l ++ [z])) ++ [y] := ih
  rw [cpt_cons, cpt_cons, ih]
  split <;> split <;> simp
theorem cpt_mem : ∀ {l : List Rat} {x : Rat}, x ∈ cpt l ↔ x ∈ l
 | [], x => Iff.rfl
 | [y], x => Iff.rfl
 | a :: b :: r, x => by
  rw [cpt_cons]
  have ih := cpt_mem (l := b :: r) (x := x)
  split
  ·rename_i h
   subst h
   rw [ih]; simp
  ·rw [List.mem_cons, ih, List.mem_cons (a := x) (b := a)]
theorem cpt_ne {l : List Rat} (h : l ≠ []) : cpt l ≠ [] := fun e => by
 cases l with
 | nil => exact h rfl
 | cons x r =>
  have : x ∈ cpt (x :: r) := cpt_mem.2 (by simp)
  rw [e] at this; simp at this
theorem cpt_sorted : ∀ {l : List Rat}, l.Pairwise (fun a b => ¬ b < a) → (cpt l).Pairwise (· < ·)
 | [], _ => List.Pairwise.nil
 | [y], _ => List.pairwise_singleton _ _
 | a :: b :: r, h => by
  rw [cpt_cons]
  rw [List.pairwise_cons] at h
  have ih := cpt_sorted h.2
  split
  ·exact ih
  ·rename_i hab
   rw [List.pairwise_cons]
   refine ⟨fun y hy => ?_, ih⟩
   have hy := cpt_mem.1 hy
   have h1 := h.1 y hy
   rcases List.mem_cons.1 hy with rfl | hy
   ·grind
   ·have h2 := h.1 b (by simp)
    have h3 := (List.pairwise_cons.1 h.2).1 y hy
    grind
theorem cpt_len : ∀ {l : List Rat}, (cpt l).length ≤ l.length
 | [] => Nat.le_refl _
 | [y] => Nat.le_refl _
 | a :: b :: r => by
  rw [cpt_cons]
  have ih := cpt_len (l := b :: r)
  split
  ·simp only [List.length_cons] at *; omega
  ·simp only [List.length_cons] at *; omega
def ranksP (rs : List Rat) : List Rat := cpt (sortR rs)
theorem ranksP_sorted (rs : List Rat) : (ranksP rs).Pairwise (· < ·) := cpt_sorted (sortR_sorted rs)
theorem ranksP_mem {rs : List Rat} {x : Rat} : x ∈ ranksP rs ↔ x ∈ rs := by
 unfold ranksP; rw [cpt_mem]; exact (sortR_perm rs).mem_iff
theorem ranksP_len (rs : List Rat) : (ranksP rs).length ≤ rs.length := by
 have h1 := cpt_len (l := sortR rs)
 have h2 := (sortR_perm rs).length_eq
 unfold ranksP; omega
end Eng
end

section
namespace Eng
open Go Go.Proofs
set_option maxRecDepth 100000
theorem eff_cv {c1 : Ck1} {m1 : Mk1} {sc : Ck2} {sm : Mk2} {c2 : Ck2} {m2 : Mk2} {tc : Ck2} {tm : Mk2}
 (h1 : ∀ al, c1 al = true → m1 al ≠ [] ∧ GivesC CC 114 al none [] 4 (m1 al)) (h2 : ∀ es al, sc es al = true → es ≠ [] ∧ GivesI CC 115 4 es al [] (sm es al))
 (h3 : ∀ es al, c2 es al = true → es ≠ [] ∧ m2 es al ≠ [] ∧ GivesC CC 116 [] (some (4, es)) al 4 (m2 es al)) (h4 : ∀ es al, tc es al = true → es ≠ [] ∧ GivesI CC 63 4 es al [] (tm es al)) :
 EffOk (CVx c1 m1 sc sm c2 m2 tc tm) :=
 effOk_all (effX_ok ⟨
  effAt_cl Tryz.func114 (by simp [Tryz.f114]) (by decide) fun al h => ⟨(h1 al h).1, givesC_cx (C := CC) rfl rfl (h1 al h).2⟩,
  effAt_in Tryz.func115 (by simp [Tryz.f115]) (by decide) fun es al h => ⟨(h2 es al h).1, givesI_cx (C := CC) rfl rfl (h2 es al h).2⟩,
  effAt_co Tryz.func116 (by simp [Tryz.f116]) (by decide) fun es al h => ⟨(h3 es al h).1, (h3 es al h).2.1, givesC_cx (C := CC) rfl rfl (h3 es al h).2.2⟩,
  effAt_in Tryz.func63 (by simp [Tryz.f63]) (by decide) fun es al h => ⟨(h4 es al h).1, givesI_cx (C := CC) rfl rfl (h4 es al h).2⟩, trivial⟩)
abbrev no1 : Ck1 := fun _ => false
abbrev nm1 : Mk1 := fun _ => []
abbrev no2 : Ck2 := fun _ _ => false
abbrev nm2 : Mk2 := fun _ _ => []
noncomputable abbrev CV0 : Cx := CVx no1 nm1 no2 nm2 no2 nm2 no2 nm2
instance : EffOk CV0 := eff_cv (fun _ h => by simp at h) (fun _ _ h => by simp at h) (fun _ _ h => by simp at h) (fun _ _ h => by simp at h)
theorem lens_rats (rs : List Rat) : lens 4 (rats rs) := fun e he => by
 simp only [rats, List.mem_map] at he
 obtain ⟨r, _, rfl⟩ := he
 rfl
theorem rats_ne {rs : List Rat} (h : rs ≠ []) : rats rs ≠ [] := fun e => h (by simpa [rats] using e)
theorem clone_ok {rs : List Rat} (hne : rs ≠ []) (hl : rs.length ≤ 1073741824) : GivesC CC 114 [.c (.sl (rats rs))] none [] 4 (rats rs) := by
 refine givesC_cx (C := CV0) rfl rfl (wpFc_ok (C := CV0) (anns := fun _ => ⟨[], [], fun _ _ => True, fun _ => 0⟩) mixedT Tryz.func114 ?_)
 rw [vc_clone]
 refine ⟨?_, ⟨?_, lens_rats rs⟩, rats_ne hne, rfl, rfl⟩
 ·rw [rats_length]; exact List.length_pos_iff.2 hne
 ·unfold room; rw [rats_length]; omega
theorem take_snoc {rs : List Rat} {k : Nat} (h : k + 1 < rs.length) : rs.take (k + 2) = rs.take k ++ [rs[k]] ++ [rs[k + 1]] := by
 rw [List.take_succ_eq_append_getElem h, List.take_succ_eq_append_getElem (by omega : k < rs.length)]
theorem take_one {rs : List Rat} {k : Nat} (h : k < rs.length) : rs.take (k + 1) = rs.take k ++ [rs[k]] := List.take_succ_eq_append_getElem h
theorem cpt_step {rs : List Rat} {k : Nat} (h : k + 1 < rs.length) : cpt (rs.take (k + 2)) = if rs[k] = rs[k + 1] then cpt (rs.take (k + 1)) else cpt (rs.take (k + 1)) ++ [rs[k + 1]] := by
 rw [take_snoc h, cpt_snoc, take_one (by omega : k < rs.length)]
theorem upd4 {row : List D} (h : row.length = 4) (a b c d : D) : updsD row 0 [a, b, c, d] = [a, b, c, d] := by
 match row, h with
 | [_, _, _, _], _ => rfl
theorem rats_take (rs : List Rat) (k : Nat) : (rats rs).take k = rats (rs.take k) := by simp [rats, List.map_take]
theorem compact_ok {rs : List Rat} (hne : rs ≠ []) (hr : ∀ y ∈ rs, Sr y) (hl : rs.length ≤ 1073741824) : GivesC CC 116 [] (some (4, rats rs)) [.c (.fn 117)] 4 (rats (cpt rs)) := by
 refine givesC_cx (C := CV0) rfl rfl (wpFc_ok (C := CV0) (anns := ann2
  ⟨[.slot 5 (.int .i64 0), .own 0 73 4], [], fun _ ds => ∃ k : Nat, 1 ≤ k ∧ k ≤ rs.length ∧ ds = [.int .i64 (k : Int), .sl (rats rs)] ∧ cpt (rs.take k) = rs.take k, fun ds => (rs.length - toI (nth .undef ds 0)).toNat⟩
  ⟨[.slot 7 (.int .i64 0), .slot 5 (.int .i64 0), .own 0 73 4], [.slot 5 (.int .i64 0)], fun gs ds => ∃ (k i j : Nat) (es : List (List D)), gs = [.int .i64 (k : Int)] ∧ ds = [.int .i64 (j : Int), .int .i64 (i : Int), .sl es] ∧ 1 ≤ j ∧ k + j ≤ rs.length ∧ i < k + j ∧ es.length = rs.length ∧
    es.take i = rats (cpt (rs.take (k + j))) ∧ (cpt (rs.take (k + j))).length = i ∧ (∀ q (hq : q < rs.length), k + j ≤ q + 1 → nth [] es q = cR rs[q]) ∧ (∀ e ∈ es, e.length = 4), fun ds => (rs.length - toI (nth .undef ds 0)).toNat⟩) mixedT Tryz.func116 ?_)
 have hpos : 0 < rs.length := List.length_pos_iff.2 hne
 have hcell : ∀ k (hk : k < rs.length), cut (nth [] (rats rs) k) 0 4 (cR rs[k]) := fun k hk => by rw [nth_rats hk]; exact cut_all rfl
 have hcmp : ∀ p q (hp : p < rs.length) (hq : q < rs.length), Gives CV0 117 [encR rs[p], encR rs[q]] [.c (.bool (decide (rs[p] = rs[q])))] := fun p q hp hq => gives_cx (C := CC) rfl rfl (rks1_ok (hr _ (List.getElem_mem hp)) (hr _ (List.getElem_mem hq)))
 rw [vc_compact]
 simp only [Int.ofNat_eq_natCast, rats_length]
 refine brd (fun h => ?_) (fun h => ⟨⟨1, by omega, by omega, rfl, ?_⟩, ?_⟩)
 ·have h1 : rs.length = 1 := by omega
  obtain ⟨x, rfl⟩ := List.length_eq_one_iff.1 h1
  exact ⟨rats_ne hne, by trivial, rfl⟩
 ·rw [take_one hpos]; rfl
 rintro n es ⟨k, hk1, hk, he, hcp⟩
 simp only [List.cons.injEq, D.int.injEq, D.sl.injEq, true_and, and_true] at he
 obtain ⟨rfl, rfl⟩ := he
 simp only [rats_length]
 refine brd (fun h2 => ?_) (fun h2 => ?_)
 rotate_left
 ·have : k = rs.length := by omega
  subst this
  rw [List.take_length] at hcp
  exact ⟨rats_ne hne, by trivial, by rw [hcp]⟩
 obtain ⟨m, rfl⟩ : ∃ m, k = m + 1 := ⟨k - 1, by omega⟩
 have hm1 : m + 1 < rs.length := by omega
 have hm : m < rs.length := by omega
 have w1 : IntKind.wrap .i64 (((m + 1 : Nat) : Int) - 1) = (m : Int) := by rw [i64w (by omega) (by omega)]; omega
 have w2 : IntKind.wrap .i64 (((m + 1 : Nat) : Int) + 1) = ((m + 2 : Nat) : Int) := by rw [i64w (by omega) (by omega)]; omega
 rw [w1, w2, Int.toNat_natCast, Int.toNat_natCast, Int.toNat_natCast]
 have hst := cpt_step hm1
 refine ⟨⟨by omega, by omega⟩, _, _, _, _, hcell (m + 1) hm1, ⟨by omega, by omega⟩, _, _, _, _, hcell m hm, _, hcmp (m + 1) m hm1 hm, brb' (fun h3 => ?_) (fun h3 => ?_)⟩
 rotate_left
 ·have h3 : ¬ rs[m] = rs[m + 1] := fun e => (of_decide_eq_false h3) e.symm
  rw [if_neg h3, hcp] at hst
  refine ⟨⟨m + 2, by omega, by omega, rfl, ?_⟩, by simp only [nth, toI]; omega⟩
  rw [hst, ← take_one hm1]
 have h3 := (of_decide_eq_true h3).symm
 rw [if_pos h3, hcp] at hst
 refine ⟨⟨by omega, by omega, by omega⟩, ⟨m + 1, m + 1, 1, rats rs, rfl, rfl, by omega, by omega, by omega, rats_length rs, ?_, ?_, fun q hq _ => nth_rats hq, ?_⟩, ?_⟩
 ·rw [rats_take, hst]
 ·rw [hst, List.length_take]; omega
 ·intro e he
  simp only [rats, List.mem_map] at he
  obtain ⟨r, _, rfl⟩ := he
  rfl
 rintro n1 n2 es ⟨k', i, j, es', hg, he, hj1, hkj, hi, hlen, htk, hcl, hrow, h4⟩
 simp only [List.cons.injEq, D.int.injEq, D.sl.injEq, true_and, and_true] at hg he
 obtain ⟨rfl, rfl, rfl⟩ := he
 have hk' : k' = m + 1 := by omega
 subst hk'
 rw [hlen, Int.toNat_natCast, Int.toNat_natCast, Int.toNat_natCast]
 have hnn : ((rs.length - (m + 1) : Nat) : Int) = (rs.length : Int) - (m + 1) := by omega
 rw [hnn]
 refine brd (fun h5 => ?_) (fun h5 => ?_)
 ·obtain ⟨t, rfl⟩ : ∃ t, j = t + 1 := ⟨j - 1, by omega⟩
  have hq1 : m + 1 + (t + 1) < rs.length := by omega
  have hq0 : m + 1 + t < rs.length := by omega
  have w3 : IntKind.wrap .i64 (((t + 1 : Nat) : Int) - 1) = (t : Int) := by rw [i64w (by omega) (by omega)]; omega
  have w4 : IntKind.wrap .i64 (((t + 1 : Nat) : Int) + 1) = ((t + 1 + 1 : Nat) : Int) := by rw [i64w (by omega) (by omega)]; omega
  have w5 : IntKind.wrap .i64 ((i : Int) + 1) = ((i + 1 : Nat) : Int) := by rw [i64w (by omega) (by omega)]; omega
  rw [w3, w4, w5, Int.toNat_natCast]
  have c1 : cut (nth [] es (m + 1 + (t + 1))) 0 4 (cR rs[m + 1 + (t + 1)]) := by rw [hrow _ hq1 (by omega)]; exact cut_all rfl
  have c0 : cut (nth [] es (m + 1 + t)) 0 4 (cR rs[m + 1 + t]) := by rw [hrow _ hq0 (by omega)]; exact cut_all rfl
  have hst2 := cpt_step (rs := rs) (k := m + 1 + t) (by omega)
  refine ⟨⟨by omega, by omega⟩, _, _, _, _, c1, ⟨by omega, by omega⟩, _, _, _, _, c0, _, hcmp _ _ hq1 hq0, brb (fun h6 => ?_) (fun h6 => ?_)⟩
  ·have h6 : ¬ rs[m + 1 + t] = rs[m + 1 + (t + 1)] := fun e => by
    have h7 : decide (rs[m + 1 + (t + 1)] = rs[m + 1 + t]) = false := by simpa using h6
    exact (of_decide_eq_false h7) e.symm
   have e1 : cpt (rs.take (m + 1 + (t + 1 + 1))) = cpt (rs.take (m + 1 + (t + 1))) ++ [rs[m + 1 + (t + 1)]] := by
    have := hst2
    rw [if_neg (show ¬ rs[m + 1 + t] = rs[m + 1 + t + 1] from h6)] at this
    exact this
   have hil : i < es.length := by omega
   have hrl : (nth [] es i).length = 4 := by rw [nth_of_lt _ hil]; exact h4 _ (List.getElem_mem hil)
   refine ⟨⟨by omega, by omega⟩, _, _, _, _, c1, ⟨by omega, by omega⟩, by omega, ⟨m + 1, i + 1, t + 1 + 1, _, rfl, rfl, by omega, by omega, by omega, ?_, ?_, ?_, ?_, ?_⟩, by simp only [nth, toI]; omega⟩
   ·rw [length_upd]; exact hlen
   ·rw [upd4 hrl, e1, upd_eq, List.take_succ_eq_append_getElem (by simpa using hil), List.take_set_of_le (Nat.le_refl i), htk, List.getElem_set_self]
    simp only [rats, List.map_append, List.map_cons, List.map_nil]
    rfl
   ·rw [e1, List.length_append, hcl]; rfl
   ·intro q hq hqq
    rw [nth_upd_ne _ _ _ (by omega : i ≠ q)]
    exact hrow q hq (by omega)
   ·intro e he
    rw [upd_eq] at he
    rcases List.mem_or_eq_of_mem_set he with he | he
    ·exact h4 e he
    ·rw [he, upd4 hrl]; rfl
  ·have h6 : rs[m + 1 + t] = rs[m + 1 + (t + 1)] := by
    have h7 : decide (rs[m + 1 + (t + 1)] = rs[m + 1 + t]) = true := by simpa using h6
    exact (of_decide_eq_true h7).symm
   have e1 : cpt (rs.take (m + 1 + (t + 1 + 1))) = cpt (rs.take (m + 1 + (t + 1))) := by
    have := hst2
    rw [if_pos (show rs[m + 1 + t] = rs[m + 1 + t + 1] from h6)] at this
    exact this
   refine ⟨⟨m + 1, i, t + 1 + 1, es, rfl, rfl, by omega, by omega, by omega, hlen, by rw [e1]; exact htk, by rw [e1]; exact hcl, fun q hq hqq => hrow q hq (by omega), h4⟩, by simp only [nth, toI]; omega⟩
 ·have hjj : m + 1 + j = rs.length := by omega
  rw [hjj, List.take_length] at htk hcl
  have hil : i ≤ es.length := by omega
  have e2 : ∀ r : List (List D), (es.take i ++ r).take i = rats (cpt rs) := fun r => by
   rw [List.take_append_of_le_length (by rw [List.length_take]; omega), List.take_take, Nat.min_self, htk]
  refine ⟨⟨by omega, by omega, by omega⟩, by omega, ⟨by omega, ?_, ?_⟩, ?_, by trivial, e2 _⟩
  ·simp only [List.length_append, List.length_take, List.length_replicate, List.length_drop]; omega
  ·simp only [List.length_append, List.length_take, List.length_replicate, List.length_drop]; omega
  ·rw [e2]; exact rats_ne (cpt_ne hne)
end Eng
end

section
namespace Eng
open Go Go.Proofs
set_option maxRecDepth 100000
def isFn (f : Nat) : List A → Bool
 | [.c (.fn g)] => Nat.beq f g
 | _ => false
theorem isFn_ok {f : Nat} {al : List A} (h : isFn f al = true) : al = [.c (.fn f)] := by
 unfold isFn at h
 split at h
 ·rw [Nat.eq_of_beq_eq_true h]
 ·simp at h
theorem notE_iff {α : Type} {l : List α} : notE l = true ↔ l ≠ [] := by cases l <;> simp [notE]
def fewL (es : List (List D)) : Bool := Nat.ble es.length 1073741824
def c1R : Ck1
 | [.c (.sl es)] => notE es && (es.all isRat && fewL es)
 | _ => false
def m1R : Mk1
 | [.c (.sl es)] => es
 | _ => []
def scR : Ck2 := fun es al => isFn 49 al && (notE es && es.all isRat)
noncomputable def smR : Mk2 := fun es _ => rats (sortR (toRs es))
def c2R : Ck2 := fun es al => isFn 117 al && (notE es && (es.all isRat && fewL es))
noncomputable def m2R : Mk2 := fun es _ => rats (cpt (toRs es))
theorem toRs_ne {es : List (List D)} (h : es ≠ []) : toRs es ≠ [] := fun e => h (by simpa [toRs] using e)
theorem toRs_len (es : List (List D)) : (toRs es).length = es.length := by simp [toRs]
theorem h1R (al : List A) (h : c1R al = true) : m1R al ≠ [] ∧ GivesC CC 114 al none [] 4 (m1R al) := by
 unfold c1R at h
 split at h
 ·rename_i es
  simp only [Bool.and_eq_true, fewL, notE_iff] at h
  obtain ⟨h1, h2, h3⟩ := h
  obtain ⟨g1, g2⟩ := toRs_ok h2
  refine ⟨h1, ?_⟩
  show GivesC CC 114 [.c (.sl es)] none [] 4 es
  have hc := clone_ok (rs := toRs es) (toRs_ne h1) (by rw [toRs_len]; exact Nat.le_of_ble_eq_true h3)
  rw [← g1] at hc
  exact hc
 ·simp at h
theorem h2R (es : List (List D)) (al : List A) (h : scR es al = true) : es ≠ [] ∧ GivesI CC 115 4 es al [] (smR es al) := by
 simp only [scR, Bool.and_eq_true, notE_iff] at h
 obtain ⟨h1, h2, h3⟩ := h
 obtain ⟨g1, g2⟩ := toRs_ok h3
 refine ⟨h2, ?_⟩
 rw [isFn_ok h1]
 have hc := sortR_I (toRs_ne h2) g2
 rw [← g1] at hc
 exact hc
theorem h3R (es : List (List D)) (al : List A) (h : c2R es al = true) : es ≠ [] ∧ m2R es al ≠ [] ∧ GivesC CC 116 [] (some (4, es)) al 4 (m2R es al) := by
 simp only [c2R, Bool.and_eq_true, notE_iff, fewL] at h
 obtain ⟨h1, h2, h3, h4⟩ := h
 obtain ⟨g1, g2⟩ := toRs_ok h3
 refine ⟨h2, rats_ne (cpt_ne (toRs_ne h2)), ?_⟩
 rw [isFn_ok h1]
 have hc := compact_ok (toRs_ne h2) g2 (by rw [toRs_len]; exact Nat.le_of_ble_eq_true h4)
 rw [← g1] at hc
 exact hc
noncomputable abbrev CVR : Cx := CVx c1R m1R scR smR c2R m2R no2 nm2
instance : EffOk CVR := eff_cv h1R h2R h3R (fun _ _ h => by simp at h)
theorem ranks_ok {rs : List Rat} (hne : rs ≠ []) (hr : ∀ y ∈ rs, Sr y) (hl : rs.length ≤ 1073741824) : Gives CC 60 [.c (.sl (rats rs))] [.c (.sl (rats (ranksP rs)))] := by
 have hs : ∀ y ∈ sortR rs, Sr y := fun y hy => hr y ((sortR_perm rs).mem_iff.1 hy)
 have hsl := (sortR_perm rs).length_eq
 have hsn : sortR rs ≠ [] := fun e => by rw [e] at hsl; exact hne (List.eq_nil_of_length_eq_zero hsl.symm)
 obtain ⟨a1, a2⟩ := toRs_rats hr
 obtain ⟨b1, b2⟩ := toRs_rats hs
 refine gives_cx (C := CVR) rfl rfl (wpF_ok (C := CVR) (anns := fun _ => ⟨[], [], fun _ _ => True, fun _ => 0⟩) mixedT Tryz.func60 ?_)
 rw [vc_cvranks]
 have e1 : m1R [A.c (D.sl (rats rs))] = rats rs := rfl
 have e2 : smR (rats rs) [A.c (D.fn 49)] = rats (sortR rs) := by unfold smR; rw [a1]
 have e3 : m2R (rats (sortR rs)) [A.c (D.fn 117)] = rats (ranksP rs) := by unfold m2R; rw [b1]; rfl
 rw [e1, e2, e3]
 refine ⟨?_, ?_, ?_, rfl⟩
 ·show (notE (rats rs) && ((rats rs).all isRat && fewL (rats rs))) = true
  simp only [Bool.and_eq_true, notE_iff, fewL]
  exact ⟨rats_ne hne, a2, Nat.ble_eq_true_of_le (by rw [rats_length]; exact hl)⟩
 ·show (isFn 49 [A.c (D.fn 49)] && (notE (rats rs) && (rats rs).all isRat)) = true
  simp only [Bool.and_eq_true, notE_iff]
  exact ⟨rfl, rats_ne hne, a2⟩
 ·show (isFn 117 [A.c (D.fn 117)] && (notE (rats (sortR rs)) && ((rats (sortR rs)).all isRat && fewL (rats (sortR rs))))) = true
  simp only [Bool.and_eq_true, notE_iff, fewL]
  exact ⟨rfl, rats_ne hsn, b2, Nat.ble_eq_true_of_le (by rw [rats_length, hsl]; exact hl)⟩
end Eng
end
