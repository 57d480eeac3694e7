/- The greater one of 0 and a number, as the program's max prints. -/
import Derived.Test.YtbehlcfelmbmlaaGreatDoorEngA
import Derived.Test.YtbehlcfelmbmlaaGreatDoorCtxB
import Derived.Test.YtbehlcfelmbmlaaGreatDoorTxP
import Derived.Test.YtbehlcfelmbmlaaGreatDoorLexA
import Derived.Test.YtbehlcfelmbmlaaGreatDoorDivA
import Derived.Test.YtbehlcfelmbmlaaGreatDoorCdA
import Derived.KernelRfl
section
namespace Eng
end Eng
end

section
open Go Go.Proofs Eng
set_option maxRecDepth 1000000
namespace Eng
theorem vc_qFmt (Gv : Nat → List A → List A → Prop) (I0 : List D → List D → Prop) (M0 : List D → Nat) (I1 : List D → List D → Prop) (M1 : List D → Nat) (I2 : List D → List D → Prop) (M2 : List D → Nat) (p : Bool) (es : List (List D)) (Q : List A → Prop) :
 wpF CC Gv (ann3 ⟨[.slot 3 (.string ⟨#[]⟩), .slot 4 (.int .i64 0)], [], I0, M0⟩ ⟨[.slot 3 (.string ⟨#[]⟩), .slot 5 (.int .u32 0), .slot 6 (.int .i64 0)], [.slot 3 (.string ⟨#[]⟩), .slot 4 (.int .i64 0), .slot 5 (.int .u32 0)], I1, M1⟩ ⟨[.slot 3 (.string ⟨#[]⟩)], [], I2, M2⟩) Tryz.f238 [.ag [.bool p, .sl es]] Q = (
 br (toB (D.bool ((Int.ofNat (List.length es)) == (0 : Int)))) (Q [A.c (D.str [(48 : UInt8)])])
 (I0 [] [D.str [], D.int .i64 (0 : Int)] ∧
 ∀ (s : List UInt8) (n : Int),
 I0 [] [D.str s, D.int .i64 n] →
 br (toB (D.bool (decide (n < (Int.ofNat (List.length es))))))
 (((0 : Int) ≤ n ∧ n < (Int.ofNat (List.length es)) ∧ List.length (nth [] es (Int.toNat n)) = 1) ∧
 ∃ n_1,
 cut (nth [] es (Int.toNat n)) 0 1 [D.int .u32 n_1] ∧
 I1 [D.str s, D.int .i64 n, D.int .u32 n_1] [D.str s, D.int .u32 n_1, D.int .i64 (0 : Int)] ∧
 ∀ (s_1 : List UInt8) (n_2 n_3 : Int),
 I1 [D.str s, D.int .i64 n, D.int .u32 n_1] [D.str s_1, D.int .u32 n_2, D.int .i64 n_3] →
 br (toB (D.bool (decide (n_3 < (9 : Int)))))
 ((10 : Int) ≠ (0 : Int) ∧
 ((0 : Int) ≤ IntKind.wrap .i32 (IntKind.wrap .u32 ((48 : Int) + Int.tmod n_2 (10 : Int))) ∧
 IntKind.wrap .i32 (IntKind.wrap .u32 ((48 : Int) + Int.tmod n_2 (10 : Int))) < (128 : Int)) ∧
 room (1 + List.length s_1) ∧
 (10 : Int) ≠ (0 : Int) ∧
 I1 [D.str s, D.int .i64 n, D.int .u32 n_1]
 [D.str
 (UInt8.ofNat (Int.toNat (IntKind.wrap .i32 (IntKind.wrap .u32 ((48 : Int) + Int.tmod n_2 (10 : Int))))) ::
 s_1),
 D.int .u32 (IntKind.wrap .u32 (Int.tdiv n_2 (10 : Int))),
 D.int .i64 (IntKind.wrap .i64 (n_3 + (1 : Int)))] ∧
 M1
 [D.str
 (UInt8.ofNat
 (Int.toNat (IntKind.wrap .i32 (IntKind.wrap .u32 ((48 : Int) + Int.tmod n_2 (10 : Int))))) ::
 s_1),
 D.int .u32 (IntKind.wrap .u32 (Int.tdiv n_2 (10 : Int))),
 D.int .i64 (IntKind.wrap .i64 (n_3 + (1 : Int)))] <
 M1 [D.str s_1, D.int .u32 n_2, D.int .i64 n_3])
 (I0 [] [D.str s_1, D.int .i64 (IntKind.wrap .i64 (n + (1 : Int)))] ∧
 M0 [D.str s_1, D.int .i64 (IntKind.wrap .i64 (n + (1 : Int)))] < M0 [D.str s, D.int .i64 n]))
 (I2 [] [D.str s] ∧
 ∀ (s : List UInt8),
 I2 [] [D.str s] →
 ((0 : Int) ≤ (0 : Int) ∧ (0 : Int) < (Int.ofNat (List.length s))) ∧
 br (toB (D.bool ((Int.ofNat (UInt8.toNat (nth (0 : UInt8) s (Int.toNat (0 : Int))))) == (48 : Int))))
 (((0 : Int) ≤ (1 : Int) ∧ (1 : Int) ≤ (Int.ofNat (List.length s)) ∧ (Int.ofNat (List.length s)) ≤ (Int.ofNat (List.length s))) ∧
 I2 [] [D.str (List.drop 1 (List.take (Int.toNat (Int.ofNat (List.length s))) s))] ∧
 M2 [D.str (List.drop 1 (List.take (Int.toNat (Int.ofNat (List.length s))) s))] < M2 [D.str s])
 (br p (room (1 + List.length s) ∧ Q [A.c (D.str ((45 : UInt8) :: s))]) (Q [A.c (D.str s)]))))) := by kernel_rfl
end Eng
end

section
open Go Go.Proofs Eng
set_option maxRecDepth 1000000
namespace Eng
theorem vc_qSame (Gv : Nat → List A → List A → Prop) (p q : Bool) (es fs : List (List D)) (Q : List A → Prop) :
 wpF CC Gv (fun _ => ⟨[], [], fun _ _ => True, fun _ => 0⟩) Tryz.f67 [.ag [.bool p, .sl es], .ag [.bool q, .sl fs]] Q = (
 br (toB (D.bool (p == q))) (∃ n, Gv 127 [A.c (D.sl es), A.c (D.sl fs)] [A.c (D.int .i64 n)] ∧ Q [A.c (D.bool (n == (0 : Int)))])
 (Q [A.c (D.bool false)])) := by kernel_rfl
theorem vc_eFrac (Gv : Nat → List A → List A → Prop) (m d : Int) (Q : List A → Prop) :
 wpF CC Gv (fun _ => ⟨[], [], fun _ _ => True, fun _ => 0⟩) Tryz.f76 [.c (.int .i64 m), .c (.int .i64 d)] Q = (
 br (toB (D.bool (d == (0 : Int))))
 (∃ b es,
 Gv 68 [A.c (D.int .i64 (0 : Int))] [A.ag [D.bool b, D.sl es]] ∧
 ∃ b_1 es_1,
 Gv 68 [A.c (D.int .i64 (1 : Int))] [A.ag [D.bool b_1, D.sl es_1]] ∧
 ∃ b_2 es_2 b_3 es_3,
 Gv 145 [A.ag [D.bool b, D.sl es], A.ag [D.bool b_1, D.sl es_1]] [A.ag [D.bool b_2, D.sl es_2, D.bool b_3, D.sl es_3]] ∧
 Q [A.ag [D.bool b_2, D.sl es_2, D.bool b_3, D.sl es_3]])
 (∃ b es,
 Gv 68 [A.c (D.int .i64 m)] [A.ag [D.bool b, D.sl es]] ∧
 ∃ b_1 es_1,
 Gv 68 [A.c (D.int .i64 d)] [A.ag [D.bool b_1, D.sl es_1]] ∧
 ∃ b_2 es_2 b_3 es_3,
 Gv 145 [A.ag [D.bool b, D.sl es], A.ag [D.bool b_1, D.sl es_1]] [A.ag [D.bool b_2, D.sl es_2, D.bool b_3, D.sl es_3]] ∧
 Q [A.ag [D.bool b_2, D.sl es_2, D.bool b_3, D.sl es_3]])) := by kernel_rfl
theorem vc_ePower (Gv : Nat → List A → List A → Prop) (I0 : List D → List D → Prop) (M0 : List D → Nat) (n : Int) (Q : List A → Prop) :
 wpF CC Gv (fun _ => ⟨[.slot 4 (.int .i64 0), .box 3 [.bool false, .slice none 0 0, .bool false, .slice none 0 0]], [], I0, M0⟩) Tryz.f143 [.c (.int .i64 n)] Q = (
 ∃ b es b_1 es_1,
 Gv 27 [A.c (D.int .i64 (1 : Int))] [A.ag [D.bool b, D.sl es, D.bool b_1, D.sl es_1]] ∧
 I0 [] [D.int .i64 (0 : Int), D.bool b, D.sl es, D.bool b_1, D.sl es_1] ∧
 ∀ (n_1 : Int) (b : Bool) (es : List (List D)) (b_2 : Bool) (es_2 : List (List D)),
 I0 [] [D.int .i64 n_1, D.bool b, D.sl es, D.bool b_2, D.sl es_2] →
 br (toB (D.bool (decide (n_1 < n))))
 (∃ b_3 es_3 b_4 es_4,
 Gv 27 [A.c (D.int .i64 (10 : Int))] [A.ag [D.bool b_3, D.sl es_3, D.bool b_4, D.sl es_4]] ∧
 ∃ b_5 es_5 b_6 es_6,
 Gv 103 [A.ag [D.bool b, D.sl es, D.bool b_2, D.sl es_2], A.ag [D.bool b_3, D.sl es_3, D.bool b_4, D.sl es_4]]
 [A.ag [D.bool b_5, D.sl es_5, D.bool b_6, D.sl es_6]] ∧
 I0 [] [D.int .i64 (IntKind.wrap .i64 (n_1 + (1 : Int))), D.bool b_5, D.sl es_5, D.bool b_6, D.sl es_6] ∧
 M0 [D.int .i64 (IntKind.wrap .i64 (n_1 + (1 : Int))), D.bool b_5, D.sl es_5, D.bool b_6, D.sl es_6] <
 M0 [D.int .i64 n_1, D.bool b, D.sl es, D.bool b_2, D.sl es_2])
 (Q [A.ag [D.bool b, D.sl es, D.bool b_2, D.sl es_2]])) := by kernel_rfl
theorem vc_eshown (Gv : Nat → List A → List A → Prop) (I0 : List D → List D → Prop) (M0 : List D → Nat) (p : Bool) (es : List (List D)) (n : Int) (Q : List A → Prop) :
 wpF CC Gv (fun _ => ⟨[.slot 5 (.string ⟨#[]⟩)], [], I0, M0⟩) Tryz.f144 [.ag [.bool p, .sl es], .c (.int .i64 n)] Q = (
 ∃ s,
 Gv 238 [A.ag [D.bool p, D.sl es]] [A.c (D.str s)] ∧
 ((0 : Int) ≤ (0 : Int) ∧ (0 : Int) < (Int.ofNat (List.length s))) ∧
 br (toB (D.bool ((Int.ofNat (UInt8.toNat (nth (0 : UInt8) s (Int.toNat (0 : Int))))) == (45 : Int))))
 (((0 : Int) ≤ (1 : Int) ∧ (1 : Int) ≤ (Int.ofNat (List.length s)) ∧ (Int.ofNat (List.length s)) ≤ (Int.ofNat (List.length s))) ∧
 I0 [] [D.str (List.drop 1 (List.take (Int.toNat (Int.ofNat (List.length s))) s))] ∧
 ∀ (s : List UInt8),
 I0 [] [D.str s] →
 br (toB (D.bool (decide ((Int.ofNat (List.length s)) ≤ n))))
 (room (1 + List.length s) ∧ I0 [] [D.str ((48 : UInt8) :: s)] ∧ M0 [D.str ((48 : UInt8) :: s)] < M0 [D.str s])
 (br (toB (D.bool (n == (0 : Int)))) (room (1 + List.length s) ∧ Q [A.c (D.str ((45 : UInt8) :: s))])
 (((0 : Int) ≤ (0 : Int) ∧
 (0 : Int) ≤ IntKind.wrap .i64 ((Int.ofNat (List.length s)) - n) ∧ IntKind.wrap .i64 ((Int.ofNat (List.length s)) - n) ≤ (Int.ofNat (List.length s))) ∧
 room (1 + List.length (List.drop 0 (List.take (Int.toNat (IntKind.wrap .i64 ((Int.ofNat (List.length s)) - n))) s))) ∧
 room
 (List.length
 ((45 : UInt8) ::
 ([] ++ (List.drop 0 (List.take (Int.toNat (IntKind.wrap .i64 ((Int.ofNat (List.length s)) - n))) s)))) +
 1) ∧
 ((0 : Int) ≤ IntKind.wrap .i64 ((Int.ofNat (List.length s)) - n) ∧
 IntKind.wrap .i64 ((Int.ofNat (List.length s)) - n) ≤ (Int.ofNat (List.length s)) ∧ (Int.ofNat (List.length s)) ≤ (Int.ofNat (List.length s))) ∧
 room
 (List.length
 ((45 : UInt8) ::
 ((([] ++ (List.drop (Int.toNat (0 : Int)) (List.take (Int.toNat (IntKind.wrap .i64 ((Int.ofNat (List.length s)) - n))) s)))) ++ [(46 : UInt8)])) +
 List.length
 (List.drop (Int.toNat (IntKind.wrap .i64 ((Int.ofNat (List.length s)) - n))) (List.take (Int.toNat (Int.ofNat (List.length s))) s))) ∧
 Q
 [A.c
 (D.str
 ((45 : UInt8) ::
 ((((([] ++ (List.drop (Int.toNat (0 : Int))
 (List.take (Int.toNat (IntKind.wrap .i64 ((Int.ofNat (List.length s)) - n))) s)))) ++ ([(46 : UInt8)]))) ++ (List.drop (Int.toNat (IntKind.wrap .i64 ((Int.ofNat (List.length s)) - n)))
 (List.take (Int.toNat (Int.ofNat (List.length s))) s)))))])))
 (I0 [] [D.str s] ∧
 ∀ (s : List UInt8),
 I0 [] [D.str s] →
 br (toB (D.bool (decide ((Int.ofNat (List.length s)) ≤ n))))
 (room (1 + List.length s) ∧ I0 [] [D.str ((48 : UInt8) :: s)] ∧ M0 [D.str ((48 : UInt8) :: s)] < M0 [D.str s])
 (br (toB (D.bool (n == (0 : Int)))) (room (0 + List.length s) ∧ Q [A.c (D.str s)])
 (((0 : Int) ≤ (0 : Int) ∧
 (0 : Int) ≤ IntKind.wrap .i64 ((Int.ofNat (List.length s)) - n) ∧ IntKind.wrap .i64 ((Int.ofNat (List.length s)) - n) ≤ (Int.ofNat (List.length s))) ∧
 room (0 + List.length (List.drop 0 (List.take (Int.toNat (IntKind.wrap .i64 ((Int.ofNat (List.length s)) - n))) s))) ∧
 room (List.length ([] ++ List.drop 0 (List.take (Int.toNat (IntKind.wrap .i64 ((Int.ofNat (List.length s)) - n))) s)) + 1) ∧
 ((0 : Int) ≤ IntKind.wrap .i64 ((Int.ofNat (List.length s)) - n) ∧
 IntKind.wrap .i64 ((Int.ofNat (List.length s)) - n) ≤ (Int.ofNat (List.length s)) ∧ (Int.ofNat (List.length s)) ≤ (Int.ofNat (List.length s))) ∧
 room
 (List.length
 ([] ++ List.drop 0 (List.take (Int.toNat (IntKind.wrap .i64 ((Int.ofNat (List.length s)) - n))) s) ++ [(46 : UInt8)]) +
 List.length
 (List.drop (Int.toNat (IntKind.wrap .i64 ((Int.ofNat (List.length s)) - n))) (List.take (Int.toNat (Int.ofNat (List.length s))) s))) ∧
 Q
 [A.c
 (D.str
 ([] ++ List.drop 0 (List.take (Int.toNat (IntKind.wrap .i64 ((Int.ofNat (List.length s)) - n))) s) ++ [(46 : UInt8)] ++
 List.drop (Int.toNat (IntKind.wrap .i64 ((Int.ofNat (List.length s)) - n))) (List.take (Int.toNat (Int.ofNat (List.length s))) s)))])))) := by kernel_rfl
theorem vc_eExact (Gv : Nat → List A → List A → Prop) (I0 : List D → List D → Prop) (M0 : List D → Nat) (p q : Bool) (es fs : List (List D)) (Q : List A → Prop) :
 wpF CC Gv (fun _ => ⟨[.slot 4 (.int .i64 0)], [], I0, M0⟩) Tryz.f75 [.ag [.bool p, .sl es, .bool q, .sl fs]] Q = (
 I0 [] [D.int .i64 (0 : Int)] ∧
 ∀ (n : Int),
 I0 [] [D.int .i64 n] →
 br (toB (D.bool (decide (n ≤ (30 : Int)))))
 (∃ b es_1 b_1 es_2,
 Gv 143 [A.c (D.int .i64 n)] [A.ag [D.bool b, D.sl es_1, D.bool b_1, D.sl es_2]] ∧
 ∃ b_2 es_3 b_3 es_4,
 Gv 103 [A.ag [D.bool p, D.sl es, D.bool q, D.sl fs], A.ag [D.bool b, D.sl es_1, D.bool b_1, D.sl es_2]]
 [A.ag [D.bool b_2, D.sl es_3, D.bool b_3, D.sl es_4]] ∧
 ∃ b es,
 Gv 68 [A.c (D.int .i64 (1 : Int))] [A.ag [D.bool b, D.sl es]] ∧
 ∃ b_4,
 Gv 67 [A.ag [D.bool b_3, D.sl es_4], A.ag [D.bool b, D.sl es]] [A.c (D.bool b_4)] ∧
 br b_4
 (∃ s,
 Gv 144 [A.ag [D.bool b_2, D.sl es_3], A.c (D.int .i64 n)] [A.c (D.str s)] ∧
 br (toB (D.bool (decide ((Int.ofNat (List.length s)) > (1000 : Int))))) (Q [A.c (D.str []), A.c (D.bool false)])
 (Q [A.c (D.str s), A.c (D.bool true)]))
 (I0 [] [D.int .i64 (IntKind.wrap .i64 (n + (1 : Int)))] ∧
 M0 [D.int .i64 (IntKind.wrap .i64 (n + (1 : Int)))] < M0 [D.int .i64 n]))
 (Q [A.c (D.str []), A.c (D.bool false)])) := by kernel_rfl
theorem vc_ethou (Gv : Nat → List A → List A → Prop) (p q : Bool) (es fs : List (List D)) (Q : List A → Prop) :
 wpF CC Gv (fun _ => ⟨[], [], fun _ _ => True, fun _ => 0⟩) Tryz.f77 [.ag [.bool p, .sl es, .bool q, .sl fs]] Q = (
 ∃ b es_1 b_1 es_2,
 Gv 76 [A.c (D.int .i64 (1 : Int)), A.c (D.int .i64 (1000 : Int))] [A.ag [D.bool b, D.sl es_1, D.bool b_1, D.sl es_2]] ∧
 ∃ b_2 es_3 b_3 es_4,
 Gv 103 [A.ag [D.bool p, D.sl es, D.bool q, D.sl fs], A.ag [D.bool b, D.sl es_1, D.bool b_1, D.sl es_2]]
 [A.ag [D.bool b_2, D.sl es_3, D.bool b_3, D.sl es_4]] ∧
 Q [A.ag [D.bool b_2, D.sl es_3, D.bool b_3, D.sl es_4]]) := by kernel_rfl
theorem vc_eLen (Gv : Nat → List A → List A → Prop) (p q : Bool) (es fs : List (List D)) (Q : List A → Prop) :
 wpF CC Gv (fun _ => ⟨[], [], fun _ _ => True, fun _ => 0⟩) Tryz.f91 [.ag [.bool p, .sl es, .bool q, .sl fs]] Q = (
 ∃ b,
 Gv 108 [A.ag [D.bool p, D.sl es, D.bool q, D.sl fs]] [A.c (D.bool b)] ∧
 br (toB (D.bool !b)) (Q [A.c (D.bool false)])
 (∃ b es_1 b_1 es_2,
 Gv 27 [A.c (D.int .i64 (10000000 : Int))] [A.ag [D.bool b, D.sl es_1, D.bool b_1, D.sl es_2]] ∧
 ∃ n,
 Gv 171 [A.ag [D.bool p, D.sl es, D.bool q, D.sl fs], A.ag [D.bool b, D.sl es_1, D.bool b_1, D.sl es_2]] [A.c (D.int .i64 n)] ∧
 br (toB (D.bool (decide (n > (0 : Int))))) (Q [A.c (D.bool false)])
 (∃ b_2 es_3 b_3 es_4,
 Gv 172 [A.ag [D.bool p, D.sl es, D.bool q, D.sl fs]] [A.ag [D.bool b_2, D.sl es_3, D.bool b_3, D.sl es_4]] ∧
 ∃ n,
 Gv 171 [A.ag [D.bool b_2, D.sl es_3, D.bool b_3, D.sl es_4], A.ag [D.bool b, D.sl es_1, D.bool b_1, D.sl es_2]]
 [A.c (D.int .i64 n)] ∧
 br (toB (D.bool (decide (n > (0 : Int))))) (Q [A.c (D.bool false)])
 (∃ b es_5 b_4 es_6,
 Gv 77 [A.ag [D.bool p, D.sl es, D.bool q, D.sl fs]] [A.ag [D.bool b, D.sl es_5, D.bool b_4, D.sl es_6]] ∧
 ∃ s b_5,
 Gv 75 [A.ag [D.bool b, D.sl es_5, D.bool b_4, D.sl es_6]] [A.c (D.str s), A.c (D.bool b_5)] ∧ Q [A.c (D.bool b_5)])))) := by kernel_rfl
theorem vc_qletter (Gv : Nat → List A → List A → Prop) (c : Int) (Q : List A → Prop) :
 wpF CC Gv (fun _ => ⟨[], [], fun _ _ => True, fun _ => 0⟩) Tryz.f162 [.c (.int .u8 c)] Q = (
 br (toB (D.bool (decide (c ≥ (97 : Int)))))
 (br (toB (D.bool (decide (c ≤ (122 : Int))))) (Q [A.c (D.bool true)])
 (br (toB (D.bool (decide (c ≥ (65 : Int))))) (Q [A.c (D.bool (decide (c ≤ (90 : Int))))]) (Q [A.c (D.bool false)])))
 (br (toB (D.bool (decide (c ≥ (65 : Int))))) (Q [A.c (D.bool (decide (c ≤ (90 : Int))))]) (Q [A.c (D.bool false)]))) := by kernel_rfl
theorem vc_qdigit (Gv : Nat → List A → List A → Prop) (c : Int) (Q : List A → Prop) :
 wpF CC Gv (fun _ => ⟨[], [], fun _ _ => True, fun _ => 0⟩) Tryz.f257 [.c (.int .u8 c)] Q = (
 br (toB (D.bool (decide (c ≥ (48 : Int))))) (Q [A.c (D.bool (decide (c ≤ (57 : Int))))]) (Q [A.c (D.bool false)])) := by kernel_rfl
theorem vc_qname (Gv : Nat → List A → List A → Prop) (I0 : List D → List D → Prop) (M0 : List D → Nat) (s : List UInt8) (Q : List A → Prop) :
 wpF CC Gv (fun _ => ⟨[.slot 3 (.int .i64 0)], [], I0, M0⟩) Tryz.f163 [.c (.str s)] Q = (
 I0 [] [D.int .i64 (0 : Int)] ∧
 ∀ (n : Int),
 I0 [] [D.int .i64 n] →
 br (toB (D.bool (decide (n < (Int.ofNat (List.length s))))))
 (((0 : Int) ≤ n ∧ n < (Int.ofNat (List.length s))) ∧
 ∃ b,
 Gv 162 [A.c (D.int .u8 (Int.ofNat (UInt8.toNat (nth (0 : UInt8) s (Int.toNat n)))))] [A.c (D.bool b)] ∧
 br b
 (I0 [] [D.int .i64 (IntKind.wrap .i64 (n + (1 : Int)))] ∧
 M0 [D.int .i64 (IntKind.wrap .i64 (n + (1 : Int)))] < M0 [D.int .i64 n])
 (((0 : Int) ≤ n ∧ n < (Int.ofNat (List.length s))) ∧
 ∃ b,
 Gv 257 [A.c (D.int .u8 (Int.ofNat (UInt8.toNat (nth (0 : UInt8) s (Int.toNat n)))))] [A.c (D.bool b)] ∧
 br b
 (I0 [] [D.int .i64 (IntKind.wrap .i64 (n + (1 : Int)))] ∧
 M0 [D.int .i64 (IntKind.wrap .i64 (n + (1 : Int)))] < M0 [D.int .i64 n])
 (((0 : Int) ≤ n ∧ n < (Int.ofNat (List.length s))) ∧
 br (toB (D.bool ((Int.ofNat (UInt8.toNat (nth (0 : UInt8) s (Int.toNat n)))) == (95 : Int))))
 (I0 [] [D.int .i64 (IntKind.wrap .i64 (n + (1 : Int)))] ∧
 M0 [D.int .i64 (IntKind.wrap .i64 (n + (1 : Int)))] < M0 [D.int .i64 n])
 (((0 : Int) ≤ n ∧ n < (Int.ofNat (List.length s))) ∧
 br (toB (D.bool ((Int.ofNat (UInt8.toNat (nth (0 : UInt8) s (Int.toNat n)))) == (45 : Int))))
 (I0 [] [D.int .i64 (IntKind.wrap .i64 (n + (1 : Int)))] ∧
 M0 [D.int .i64 (IntKind.wrap .i64 (n + (1 : Int)))] < M0 [D.int .i64 n])
 (Q [A.c (D.int .i64 n)])))))
 (Q [A.c (D.int .i64 n)])) := by kernel_rfl
theorem vc_qIsName (Gv : Nat → List A → List A → Prop) (s : List UInt8) (Q : List A → Prop) :
 wpF CC Gv (fun _ => ⟨[], [], fun _ _ => True, fun _ => 0⟩) Tryz.f90 [.c (.str s)] Q = (
 br (toB (D.bool (decide ((Int.ofNat (List.length s)) > (0 : Int)))))
 (br (toB (D.bool (decide ((Int.ofNat (List.length s)) ≤ (24 : Int)))))
 (((0 : Int) ≤ (0 : Int) ∧ (0 : Int) < (Int.ofNat (List.length s))) ∧
 ∃ b,
 Gv 162 [A.c (D.int .u8 (Int.ofNat (UInt8.toNat (nth (0 : UInt8) s (Int.toNat (0 : Int))))))] [A.c (D.bool b)] ∧
 br b (∃ n, Gv 163 [A.c (D.str s)] [A.c (D.int .i64 n)] ∧ Q [A.c (D.bool (n == (Int.ofNat (List.length s))))]) (Q [A.c (D.bool false)]))
 (Q [A.c (D.bool false)]))
 (Q [A.c (D.bool false)])) := by kernel_rfl
theorem vc_elayer (Gv : Nat → List A → List A → Prop) (s : List UInt8) (k d : Int) (Q : List A → Prop) :
 wpF CC Gv (fun _ => ⟨[], [], fun _ _ => True, fun _ => 0⟩) Tryz.f44 [.ag [.str s, .int .i64 k, .int .i64 d]] Q = (
 br (toB (D.bool (decide (d ≥ (1 : Int)))))
 (br (toB (D.bool (k == (1 : Int))))
 (br (toB (D.bool (k == (1 : Int))))
 (∃ b, Gv 90 [A.c (D.str s)] [A.c (D.bool b)] ∧ br b (Q [A.c (D.bool (decide (d ≤ (10000000 : Int))))]) (Q [A.c (D.bool false)]))
 (br (toB (D.bool (k == (2 : Int))))
 (br (toB (D.bool (k == (2 : Int))))
 (∃ b, Gv 90 [A.c (D.str s)] [A.c (D.bool b)] ∧ br b (Q [A.c (D.bool (d == (0 : Int)))]) (Q [A.c (D.bool false)])) (Q [A.c (D.bool false)]))
 (br (toB (D.bool (k == (4 : Int))))
 (∃ b, Gv 90 [A.c (D.str s)] [A.c (D.bool b)] ∧ br b (Q [A.c (D.bool (d == (0 : Int)))]) (Q [A.c (D.bool false)])) (Q [A.c (D.bool false)]))))
 (br (toB (D.bool (k == (3 : Int))))
 (∃ b, Gv 90 [A.c (D.str s)] [A.c (D.bool b)] ∧ br b (Q [A.c (D.bool (decide (d ≤ (10000000 : Int))))]) (Q [A.c (D.bool false)]))
 (br (toB (D.bool (k == (2 : Int))))
 (br (toB (D.bool (k == (2 : Int))))
 (∃ b, Gv 90 [A.c (D.str s)] [A.c (D.bool b)] ∧ br b (Q [A.c (D.bool (d == (0 : Int)))]) (Q [A.c (D.bool false)])) (Q [A.c (D.bool false)]))
 (br (toB (D.bool (k == (4 : Int))))
 (∃ b, Gv 90 [A.c (D.str s)] [A.c (D.bool b)] ∧ br b (Q [A.c (D.bool (d == (0 : Int)))]) (Q [A.c (D.bool false)])) (Q [A.c (D.bool false)])))))
 (br (toB (D.bool (k == (1 : Int))))
 (br (toB (D.bool (k == (1 : Int)))) (∃ b, Gv 90 [A.c (D.str s)] [A.c (D.bool b)] ∧ br b (Q [A.c (D.bool false)]) (Q [A.c (D.bool false)]))
 (br (toB (D.bool (k == (2 : Int))))
 (br (toB (D.bool (k == (2 : Int))))
 (∃ b, Gv 90 [A.c (D.str s)] [A.c (D.bool b)] ∧ br b (Q [A.c (D.bool (d == (0 : Int)))]) (Q [A.c (D.bool false)])) (Q [A.c (D.bool false)]))
 (br (toB (D.bool (k == (4 : Int))))
 (∃ b, Gv 90 [A.c (D.str s)] [A.c (D.bool b)] ∧ br b (Q [A.c (D.bool (d == (0 : Int)))]) (Q [A.c (D.bool false)])) (Q [A.c (D.bool false)]))))
 (br (toB (D.bool (k == (3 : Int)))) (∃ b, Gv 90 [A.c (D.str s)] [A.c (D.bool b)] ∧ br b (Q [A.c (D.bool false)]) (Q [A.c (D.bool false)]))
 (br (toB (D.bool (k == (2 : Int))))
 (br (toB (D.bool (k == (2 : Int))))
 (∃ b, Gv 90 [A.c (D.str s)] [A.c (D.bool b)] ∧ br b (Q [A.c (D.bool (d == (0 : Int)))]) (Q [A.c (D.bool false)])) (Q [A.c (D.bool false)]))
 (br (toB (D.bool (k == (4 : Int))))
 (∃ b, Gv 90 [A.c (D.str s)] [A.c (D.bool b)] ∧ br b (Q [A.c (D.bool (d == (0 : Int)))]) (Q [A.c (D.bool false)])) (Q [A.c (D.bool false)])))))) := by kernel_rfl
theorem vc_efind (Gv : Nat → List A → List A → Prop) (I0 : List D → List D → Prop) (M0 : List D → Nat) (es : List (List D)) (s : List UInt8) (Q : List A → Prop) :
 wpF CC Gv (fun _ => ⟨[.slot 5 (.int .i64 0)], [], I0, M0⟩) Tryz.f45 [.c (.sl es), .c (.str s)] Q = (
 I0 [] [D.int .i64 (0 : Int)] ∧
 ∀ (n : Int),
 I0 [] [D.int .i64 n] →
 br (toB (D.bool (decide (n < (Int.ofNat (List.length es))))))
 (((0 : Int) ≤ n ∧ n < (Int.ofNat (List.length es)) ∧ List.length (nth [] es (Int.toNat n)) = 3) ∧
 ∃ s_1,
 cut (nth [] es (Int.toNat n)) 0 1 [D.str s_1] ∧
 br (toB (D.bool (s_1 == s))) (Q [A.c (D.int .i64 n)])
 (I0 [] [D.int .i64 (IntKind.wrap .i64 (n + (1 : Int)))] ∧
 M0 [D.int .i64 (IntKind.wrap .i64 (n + (1 : Int)))] < M0 [D.int .i64 n]))
 (Q [A.c (D.int .i64 (-1 : Int))])) := by kernel_rfl
theorem vc_eentity (Gv : Nat → List A → List A → Prop) (I0 : List D → List D → Prop) (M0 : List D → Nat) (J9 : List D → List D → Prop) (k : Int) (s : List UInt8) (ps : List (List D)) (p q : Bool) (l m : List (List D)) (Q : List A → Prop) :
 wpF CC Gv (annJ (fun _ => ⟨[.slot 4 (.int .i64 0)], [], I0, M0⟩) 9 ⟨[.slot 3 (.int .i64 0)], [], J9, fun _ => 0⟩) Tryz.f46 [.ag [.int .i64 k, .str s, .sl ps, .bool p, .sl l, .bool q, .sl m]] Q = (
 br (toB (D.bool (k == (1 : Int)))) (J9 [] [D.int .i64 (2 : Int)])
 (br (toB (D.bool (k == (2 : Int)))) (J9 [] [D.int .i64 (3 : Int)])
 (br (toB (D.bool (k == (3 : Int)))) (J9 [] [D.int .i64 (1 : Int)]) (J9 [] [D.int .i64 (0 : Int)]))) ∧
 ∀ (n : Int),
 J9 [] [D.int .i64 n] →
 br (toB (D.bool (n == (0 : Int)))) (Q [A.c (D.bool false)])
 (br (toB (D.bool ((Int.ofNat (List.length ps)) != n))) (Q [A.c (D.bool false)])
 (br (toB (D.bool (n == (1 : Int))))
 (∃ b,
 Gv 91 [A.ag [D.bool p, D.sl l, D.bool q, D.sl m]] [A.c (D.bool b)] ∧
 br (toB (D.bool !b)) (Q [A.c (D.bool false)])
 (∃ n_1,
 Gv 92 [A.ag [D.bool p, D.sl l, D.bool q, D.sl m]] [A.c (D.int .i64 n_1)] ∧
 br (toB (D.bool (n_1 != (1 : Int)))) (Q [A.c (D.bool false)])
 (I0 [] [D.int .i64 (0 : Int)] ∧
 ∀ (n_2 : Int),
 I0 [] [D.int .i64 n_2] →
 br (toB (D.bool (decide (n_2 < n))))
 (((0 : Int) ≤ n_2 ∧ n_2 < (Int.ofNat (List.length ps)) ∧ List.length (nth [] ps (Int.toNat n_2)) = 8) ∧
 ∃ b es b_1 es_1,
 cut (nth [] ps (Int.toNat n_2)) 0 4 [D.bool b, D.sl es, D.bool b_1, D.sl es_1] ∧
 ∃ b_2,
 Gv 91 [A.ag [D.bool b, D.sl es, D.bool b_1, D.sl es_1]] [A.c (D.bool b_2)] ∧
 br (toB (D.bool !b_2)) (Q [A.c (D.bool false)])
 (((0 : Int) ≤ n_2 ∧ n_2 < (Int.ofNat (List.length ps)) ∧ List.length (nth [] ps (Int.toNat n_2)) = 8) ∧
 ∃ b es b_3 es_2,
 cut (nth [] ps (Int.toNat n_2)) 4 4 [D.bool b, D.sl es, D.bool b_3, D.sl es_2] ∧
 ∃ b_4,
 Gv 91 [A.ag [D.bool b, D.sl es, D.bool b_3, D.sl es_2]] [A.c (D.bool b_4)] ∧
 br (toB (D.bool !b_4)) (Q [A.c (D.bool false)])
 (I0 [] [D.int .i64 (IntKind.wrap .i64 (n_2 + (1 : Int)))] ∧
 M0 [D.int .i64 (IntKind.wrap .i64 (n_2 + (1 : Int)))] < M0 [D.int .i64 n_2])))
 (Q [A.c (D.bool true)]))))
 (I0 [] [D.int .i64 (0 : Int)] ∧
 ∀ (n_1 : Int),
 I0 [] [D.int .i64 n_1] →
 br (toB (D.bool (decide (n_1 < n))))
 (((0 : Int) ≤ n_1 ∧ n_1 < (Int.ofNat (List.length ps)) ∧ List.length (nth [] ps (Int.toNat n_1)) = 8) ∧
 ∃ b es b_1 es_1,
 cut (nth [] ps (Int.toNat n_1)) 0 4 [D.bool b, D.sl es, D.bool b_1, D.sl es_1] ∧
 ∃ b_2,
 Gv 91 [A.ag [D.bool b, D.sl es, D.bool b_1, D.sl es_1]] [A.c (D.bool b_2)] ∧
 br (toB (D.bool !b_2)) (Q [A.c (D.bool false)])
 (((0 : Int) ≤ n_1 ∧ n_1 < (Int.ofNat (List.length ps)) ∧ List.length (nth [] ps (Int.toNat n_1)) = 8) ∧
 ∃ b es b_3 es_2,
 cut (nth [] ps (Int.toNat n_1)) 4 4 [D.bool b, D.sl es, D.bool b_3, D.sl es_2] ∧
 ∃ b_4,
 Gv 91 [A.ag [D.bool b, D.sl es, D.bool b_3, D.sl es_2]] [A.c (D.bool b_4)] ∧
 br (toB (D.bool !b_4)) (Q [A.c (D.bool false)])
 (I0 [] [D.int .i64 (IntKind.wrap .i64 (n_1 + (1 : Int)))] ∧
 M0 [D.int .i64 (IntKind.wrap .i64 (n_1 + (1 : Int)))] < M0 [D.int .i64 n_1])))
 (Q [A.c (D.bool true)]))))) := by kernel_rfl
theorem vc_eValid (Gv : Nat → List A → List A → Prop) (I0 : List D → List D → Prop) (M0 : List D → Nat) (I1 : List D → List D → Prop) (M1 : List D → Nat) (ls es : List (List D)) (Q : List A → Prop) :
 wpF CC Gv (ann2 ⟨[.slot 3 (.int .i64 0)], [], I0, M0⟩ ⟨[.slot 4 (.int .i64 0)], [], I1, M1⟩) Tryz.f16 [.ag [.sl ls, .sl es]] Q = (
 br (toB (D.bool (decide ((Int.ofNat (List.length ls)) > (20 : Int))))) (Q [A.c (D.int .i64 (3 : Int))])
 (br (toB (D.bool (decide ((Int.ofNat (List.length es)) > (200 : Int))))) (Q [A.c (D.int .i64 (3 : Int))])
 (I0 [] [D.int .i64 (0 : Int)] ∧
 ∀ (n : Int),
 I0 [] [D.int .i64 n] →
 br (toB (D.bool (decide (n < (Int.ofNat (List.length ls))))))
 (((0 : Int) ≤ n ∧ n < (Int.ofNat (List.length ls)) ∧ List.length (nth [] ls (Int.toNat n)) = 3) ∧
 ∃ s n_1 n_2,
 cut (nth [] ls (Int.toNat n)) 0 3 [D.str s, D.int .i64 n_1, D.int .i64 n_2] ∧
 ∃ b,
 Gv 44 [A.ag [D.str s, D.int .i64 n_1, D.int .i64 n_2]] [A.c (D.bool b)] ∧
 br (toB (D.bool !b)) (Q [A.c (D.int .i64 (1 : Int))])
 (((0 : Int) ≤ n ∧ n < (Int.ofNat (List.length ls)) ∧ List.length (nth [] ls (Int.toNat n)) = 3) ∧
 ∃ s,
 cut (nth [] ls (Int.toNat n)) 0 1 [D.str s] ∧
 ∃ n_3,
 Gv 45 [A.c (D.sl ls), A.c (D.str s)] [A.c (D.int .i64 n_3)] ∧
 br (toB (D.bool (decide (n_3 < n)))) (Q [A.c (D.int .i64 (5 : Int))])
 (I0 [] [D.int .i64 (IntKind.wrap .i64 (n + (1 : Int)))] ∧
 M0 [D.int .i64 (IntKind.wrap .i64 (n + (1 : Int)))] < M0 [D.int .i64 n])))
 (I1 [] [D.int .i64 (0 : Int)] ∧
 ∀ (n : Int),
 I1 [] [D.int .i64 n] →
 br (toB (D.bool (decide (n < (Int.ofNat (List.length es))))))
 (((0 : Int) ≤ n ∧ n < (Int.ofNat (List.length es)) ∧ List.length (nth [] es (Int.toNat n)) = 7) ∧
 ∃ s,
 cut (nth [] es (Int.toNat n)) 1 1 [D.str s] ∧
 ∃ n_1,
 Gv 45 [A.c (D.sl ls), A.c (D.str s)] [A.c (D.int .i64 n_1)] ∧
 br (toB (D.bool (decide (n_1 < (0 : Int))))) (Q [A.c (D.int .i64 (4 : Int))])
 (((0 : Int) ≤ n ∧ n < (Int.ofNat (List.length es)) ∧ List.length (nth [] es (Int.toNat n)) = 7) ∧
 ∃ n_2 s es_1 b es_2 b_1 es_3,
 cut (nth [] es (Int.toNat n)) 0 7
 [D.int .i64 n_2, D.str s, D.sl es_1, D.bool b, D.sl es_2, D.bool b_1, D.sl es_3] ∧
 ∃ b_2,
 Gv 46 [A.ag [D.int .i64 n_2, D.str s, D.sl es_1, D.bool b, D.sl es_2, D.bool b_1, D.sl es_3]]
 [A.c (D.bool b_2)] ∧
 br (toB (D.bool !b_2)) (Q [A.c (D.int .i64 (1 : Int))])
 (I1 [] [D.int .i64 (IntKind.wrap .i64 (n + (1 : Int)))] ∧
 M1 [D.int .i64 (IntKind.wrap .i64 (n + (1 : Int)))] < M1 [D.int .i64 n])))
 (Q [A.c (D.int .i64 (0 : Int))]))))) := by kernel_rfl
theorem vc_eshort (Gv : Nat → List A → List A → Prop) (p q : Bool) (es fs : List (List D)) (Q : List A → Prop) :
 wpF CC Gv (fun _ => ⟨[], [], fun _ _ => True, fun _ => 0⟩) Tryz.f28 [.ag [.bool p, .sl es, .bool q, .sl fs]] Q = (
 br (toB (D.bool (decide ((Int.ofNat (List.length es)) ≤ (6 : Int))))) (Q [A.c (D.bool (decide ((Int.ofNat (List.length fs)) ≤ (6 : Int))))]) (Q [A.c (D.bool false)])) := by kernel_rfl
theorem vc_pfind1 (Gv : Nat → List A → List A → Prop) (n s : List UInt8) (k d : Int) (Q : List A → Prop) :
 wpF CC Gv (fun _ => ⟨[], [], fun _ _ => True, fun _ => 0⟩) Tryz.f116 [.ag [.str n, .int .i64 k, .int .i64 d], .c (.ptr [.str s])] Q = (
 ∃ s_1, cut [D.str s] 0 1 [D.str s_1] ∧ Q [A.c (D.bool (n == s_1))]) := by kernel_rfl
theorem vc_pIdxF (Gv : Nat → List A → List A → Prop) (I0 : List D → List D → Prop) (M0 : List D → Nat) (es : List (List D)) (s : List UInt8) (Q : List A → Prop) :
 wpF CC Gv (fun _ => ⟨[.slot 8 (.int .i64 0)], [], I0, M0⟩) Tryz.f115 [.c (.sl es), .c (.clo 116 [.ptr [.str s]])] Q = (
 I0 [] [D.int .i64 (0 : Int)] ∧
 ∀ (n : Int),
 I0 [] [D.int .i64 n] →
 br (toB (D.bool (decide (n < (Int.ofNat (List.length es))))))
 (((0 : Int) ≤ n ∧ n < (Int.ofNat (List.length es)) ∧ List.length (nth [] es (Int.toNat n)) = 3) ∧
 ∃ s_1 n_1 n_2,
 cut (nth [] es (Int.toNat n)) 0 3 [D.str s_1, D.int .i64 n_1, D.int .i64 n_2] ∧
 ∃ b,
 Gv 116 [A.ag [D.str s_1, D.int .i64 n_1, D.int .i64 n_2], A.c (D.ptr [D.str s])] [A.c (D.bool b)] ∧
 br b (Q [A.c (D.int .i64 n)])
 (I0 [] [D.int .i64 (IntKind.wrap .i64 (n + (1 : Int)))] ∧
 M0 [D.int .i64 (IntKind.wrap .i64 (n + (1 : Int)))] < M0 [D.int .i64 n]))
 (Q [A.c (D.int .i64 (-1 : Int))])) := by kernel_rfl
theorem vc_pfind (Gv : Nat → List A → List A → Prop) (es : List (List D)) (s : List UInt8) (Q : List A → Prop) :
 wpF CC Gv (fun _ => ⟨[], [], fun _ _ => True, fun _ => 0⟩) Tryz.f61 [.c (.sl es), .c (.str s)] Q = (
 ∃ n, Gv 115 [A.c (D.sl es), A.c (D.clo 116 [D.ptr [D.str s]])] [A.c (D.int .i64 n)] ∧ Q [A.c (D.int .i64 n)]) := by kernel_rfl
theorem vc_pLayer (Gv : Nat → List A → List A → Prop) (I0 : List D → List D → Prop) (M0 : List D → Nat) (ls es : List (List D)) (s : List UInt8) (Q : List A → Prop) :
 wpF CC Gv (fun _ => ⟨[.slot 17 (.int .i64 0), .own 6 32 1], [], I0, M0⟩) Tryz.f22 [.ag [.sl ls, .sl es], .c (.str s)] Q = (
 ∃ n,
 Gv 61 [A.c (D.sl ls), A.c (D.str s)] [A.c (D.int .i64 n)] ∧
 br (toB (D.bool (decide (n < (0 : Int))))) (Q [A.c (D.sl []), A.c (D.int .i64 (4 : Int))])
 (I0 [] [D.int .i64 (0 : Int), D.sl []] ∧
 ∀ (n : Int) (es_1 : List (List D)),
 I0 [] [D.int .i64 n, D.sl es_1] →
 br (toB (D.bool (decide (n < (Int.ofNat (List.length es))))))
 (((0 : Int) ≤ n ∧ n < (Int.ofNat (List.length es)) ∧ List.length (nth [] es (Int.toNat n)) = 7) ∧
 ∃ n_1 s_1 es_2 b es_3 b_1 es_4,
 cut (nth [] es (Int.toNat n)) 0 7 [D.int .i64 n_1, D.str s_1, D.sl es_2, D.bool b, D.sl es_3, D.bool b_1, D.sl es_4] ∧
 br (toB (D.bool (s_1 == s)))
 ((room (List.length es_1 + 1) ∧ lens 1 [[D.int .i64 n]]) ∧
 I0 [] [D.int .i64 (IntKind.wrap .i64 (n + (1 : Int))), D.sl (es_1 ++ [[D.int .i64 n]])] ∧
 M0 [D.int .i64 (IntKind.wrap .i64 (n + (1 : Int))), D.sl (es_1 ++ [[D.int .i64 n]])] <
 M0 [D.int .i64 n, D.sl es_1])
 (I0 [] [D.int .i64 (IntKind.wrap .i64 (n + (1 : Int))), D.sl es_1] ∧
 M0 [D.int .i64 (IntKind.wrap .i64 (n + (1 : Int))), D.sl es_1] < M0 [D.int .i64 n, D.sl es_1]))
 (Q [A.c (D.sl es_1), A.c (D.int .i64 (0 : Int))]))) := by kernel_rfl
theorem vc_eLayer (Gv : Nat → List A → List A → Prop) (I0 : List D → List D → Prop) (M0 : List D → Nat) (ls es : List (List D)) (s : List UInt8) (Q : List A → Prop) :
 wpF CC Gv (fun _ => ⟨[.slot 7 (.int .i64 0), .own 6 33 1], [], I0, M0⟩) Tryz.f23 [.ag [.sl ls, .sl es], .c (.str s)] Q = (
 ∃ n,
 Gv 45 [A.c (D.sl ls), A.c (D.str s)] [A.c (D.int .i64 n)] ∧
 br (toB (D.bool (decide (n < (0 : Int))))) (Q [A.c (D.sl []), A.c (D.int .i64 (4 : Int))])
 (I0 [] [D.int .i64 (0 : Int), D.sl []] ∧
 ∀ (n : Int) (es_1 : List (List D)),
 I0 [] [D.int .i64 n, D.sl es_1] →
 br (toB (D.bool (decide (n < (Int.ofNat (List.length es))))))
 (((0 : Int) ≤ n ∧ n < (Int.ofNat (List.length es)) ∧ List.length (nth [] es (Int.toNat n)) = 7) ∧
 ∃ s_1,
 cut (nth [] es (Int.toNat n)) 1 1 [D.str s_1] ∧
 br (toB (D.bool (s_1 == s)))
 ((room (List.length es_1 + 1) ∧ lens 1 [[D.int .i64 n]]) ∧
 I0 [] [D.int .i64 (IntKind.wrap .i64 (n + (1 : Int))), D.sl (es_1 ++ [[D.int .i64 n]])] ∧
 M0 [D.int .i64 (IntKind.wrap .i64 (n + (1 : Int))), D.sl (es_1 ++ [[D.int .i64 n]])] <
 M0 [D.int .i64 n, D.sl es_1])
 (I0 [] [D.int .i64 (IntKind.wrap .i64 (n + (1 : Int))), D.sl es_1] ∧
 M0 [D.int .i64 (IntKind.wrap .i64 (n + (1 : Int))), D.sl es_1] < M0 [D.int .i64 n, D.sl es_1]))
 (Q [A.c (D.sl es_1), A.c (D.int .i64 (0 : Int))]))) := by kernel_rfl
theorem vc_lright (Gv : Nat → List A → List A → Prop) (ls es : List (List D)) (Q : List A → Prop) :
 wpF CC Gv (fun _ => ⟨[], [], fun _ _ => True, fun _ => 0⟩) Tryz.f17 [.ag [.sl ls, .sl es]] Q = (
 br (toB (D.bool (decide ((Int.ofNat (List.length es)) ≤ (12 : Int)))))
 (∃ b,
 Gv 9 [A.ag [D.sl ls, D.sl es]] [A.c (D.bool b)] ∧
 br b (∃ n, Gv 16 [A.ag [D.sl ls, D.sl es]] [A.c (D.int .i64 n)] ∧ Q [A.c (D.bool (n == (0 : Int)))]) (Q [A.c (D.bool false)]))
 (Q [A.c (D.bool false)])) := by kernel_rfl
theorem vc_lLayer (Gv : Nat → List A → List A → Prop) (I0 : List D → List D → Prop) (M0 : List D → Nat) (ls es : List (List D)) (s : List UInt8) (Q : List A → Prop) :
 wpF CC Gv (fun _ => ⟨[.slot 47 (.int .i64 0)], [], I0, M0⟩) Tryz.f7 [.ag [.sl ls, .sl es], .c (.str s)] Q = (
 ∃ b,
 Gv 8 [] [A.c (D.bool b)] ∧
 br (toB (D.bool !b)) (∃ b, Gv 8 [] [A.c (D.bool b)] ∧ Q [A.c (D.bool b)])
 (∃ b,
 Gv 17 [A.ag [D.sl ls, D.sl es]] [A.c (D.bool b)] ∧
 br (toB (D.bool !b)) (∃ b, Gv 8 [] [A.c (D.bool b)] ∧ Q [A.c (D.bool b)])
 (br (toB (D.bool (decide ((Int.ofNat (List.length s)) > (60 : Int))))) (∃ b, Gv 8 [] [A.c (D.bool b)] ∧ Q [A.c (D.bool b)])
 (∃ es_1 n,
 Gv 22 [A.ag [D.sl ls, D.sl es], A.c (D.str s)] [A.c (D.sl es_1), A.c (D.int .i64 n)] ∧
 ∃ es_2 n_1,
 Gv 23 [A.ag [D.sl ls, D.sl es], A.c (D.str s)] [A.c (D.sl es_2), A.c (D.int .i64 n_1)] ∧
 br (toB (D.bool (n != n_1))) (Q [A.c (D.bool false)])
 (br (toB (D.bool ((Int.ofNat (List.length es_1)) != (Int.ofNat (List.length es_2))))) (Q [A.c (D.bool false)])
 (I0 [] [D.int .i64 (0 : Int)] ∧
 ∀ (n : Int),
 I0 [] [D.int .i64 n] →
 br (toB (D.bool (decide (n < (Int.ofNat (List.length es_1))))))
 (((0 : Int) ≤ n ∧ n < (Int.ofNat (List.length es_1)) ∧ List.length (nth [] es_1 (Int.toNat n)) = 1) ∧
 ∃ n_2,
 cut (nth [] es_1 (Int.toNat n)) 0 1 [D.int .i64 n_2] ∧
 ((0 : Int) ≤ n ∧ n < (Int.ofNat (List.length es_2)) ∧ List.length (nth [] es_2 (Int.toNat n)) = 1) ∧
 ∃ n_3,
 cut (nth [] es_2 (Int.toNat n)) 0 1 [D.int .i64 n_3] ∧
 br (toB (D.bool (n_2 != n_3))) (Q [A.c (D.bool false)])
 (I0 [] [D.int .i64 (IntKind.wrap .i64 (n + (1 : Int)))] ∧
 M0 [D.int .i64 (IntKind.wrap .i64 (n + (1 : Int)))] < M0 [D.int .i64 n]))
 (Q [A.c (D.bool true)]))))))) := by kernel_rfl
end Eng
end

section
namespace Eng
open Go Go.Proofs
set_option maxRecDepth 100000
theorem sgT_len (z : Int) : (sgT z).length ≤ 1 := by unfold sgT; split <;> simp
end Eng
end

section
namespace Eng
open Go Go.Proofs
set_option maxRecDepth 100000
end Eng
end

section
namespace Eng
open Go Go.Proofs
set_option maxRecDepth 100000
theorem digF_val {l : List Nat} (hl : Limbs l) {k : Nat} (hk : k < l.length) : digF 9 l[k] ++ digF (9 * k) (val (l.take k)) = digF (9 * (k + 1)) (val (l.take (k + 1))) := by
 have h1 : val (l.take k) < 10 ^ (9 * k) := by
  have := val_lt (hl.take k)
  rw [List.length_take, Nat.min_eq_left (by omega), pow_9k] at this
  exact this
 have h2 : val (l.take (k + 1)) = val (l.take k) + 10 ^ (9 * k) * l[k] := by
  have := val_take_succ l k
  rw [pow_9k, List.getD_eq_getElem?_getD, List.getElem?_eq_getElem hk, Option.getD_some] at this
  exact this
 have h3 : val (l.take (k + 1)) / 10 ^ (9 * k) = l[k] := by
  rw [h2, Nat.add_mul_div_left _ _ (Nat.pow_pos (by omega)), Nat.div_eq_of_lt h1, Nat.zero_add]
 have h4 : val (l.take (k + 1)) % 10 ^ (9 * k) = val (l.take k) % 10 ^ (9 * k) := by
  rw [h2, Nat.add_mul_mod_self_left]
 rw [show 9 * (k + 1) = 9 + 9 * k by omega, digF_append (9 * k) 9, h3, digF_mod _ _ _ h4]
theorem qFmt_ok (z : Int) (hz : (lim z.natAbs).length ≤ 10000000) : Gives CC 238 [encI z] [.c (.str (decZt z))] := by
 have hll := lim_limbs z.natAbs
 have hlv := lim_val z.natAbs
 have hln := lim_nil (n := z.natAbs)
 generalize hl : lim z.natAbs = l at *
 refine wpF_ok (anns := ann3
  ⟨[.slot 3 (.string ⟨#[]⟩), .slot 4 (.int .i64 0)], [], fun _ ds => ∃ k : Nat, k ≤ l.length ∧ ds = [.str (digF (9 * k) (val (l.take k))), .int .i64 (k : Int)], fun ds => (l.length - toI (nth .undef ds 1)).toNat⟩
  ⟨[.slot 3 (.string ⟨#[]⟩), .slot 5 (.int .u32 0), .slot 6 (.int .i64 0)], [.slot 3 (.string ⟨#[]⟩), .slot 4 (.int .i64 0), .slot 5 (.int .u32 0)],
    fun gs ds => ∃ (k j : Nat) (v : Nat), j ≤ 9 ∧ gs = [.str (digF (9 * k) (val (l.take k))), .int .i64 (k : Int), .int .u32 (v : Int)] ∧ ds = [.str (digF j v ++ digF (9 * k) (val (l.take k))), .int .u32 ((v / 10 ^ j : Nat) : Int), .int .i64 (j : Int)],
    fun ds => (9 - toI (nth .undef ds 2)).toNat⟩
  ⟨[.slot 3 (.string ⟨#[]⟩)], [], fun _ ds => ∃ j : Nat, j + 1 ≤ 9 * l.length ∧ ds = [.str (digF (j + 1) z.natAbs)] ∧ z.natAbs < 10 ^ (j + 1), fun ds => (toS (nth .undef ds 0)).length⟩) mixedT Tryz.func238 ?_
 rw [encI_cells, hl, vc_qFmt]
 simp only [Int.ofNat_eq_natCast, raw_length]
 have h0 : (((l.length : Nat) : Int) == 0) = decide (z.natAbs = 0) := by
  rw [Bool.eq_iff_iff]
  simp only [beq_iff_eq, decide_eq_true_eq]
  rw [← hln]
  cases l <;> simp
  omega
 rw [h0]
 refine brd (fun h => ?_) (fun hne => ?_)
 ·have : z = 0 := by omega
  subst this
  rw [decZt_pos (by omega)]; exact congrArg (fun s => [A.c (D.str s)]) dec_0.symm
 have hlpos : 0 < l.length := by
  rcases Nat.eq_zero_or_pos l.length with h | h
  ·exact absurd (hln.1 (List.eq_nil_of_length_eq_zero h)) hne
  ·exact h
 refine ⟨⟨0, by omega, rfl⟩, ?_⟩
 rintro s n ⟨k, hk, he⟩
 simp only [List.cons.injEq, D.str.injEq, D.int.injEq, true_and, and_true] at he
 obtain ⟨rfl, rfl⟩ := he
 refine brd (fun h => ?_) (fun h => ?_)
 ·have hkl : k < l.length := by omega
  have hw : IntKind.wrap .i64 ((k : Int) + 1) = ((k + 1 : Nat) : Int) := by rw [i64w (by omega) (by omega)]; omega
  rw [Int.toNat_natCast]
  refine ⟨⟨by omega, by omega, raw_len1 hkl⟩, _, cut_raw hkl, ⟨k, 0, l[k], by omega, rfl, by simp [digF]⟩, ?_⟩
  rintro s1 n2 n3 ⟨k', j, v, hj, hg, he⟩
  simp only [List.cons.injEq, D.str.injEq, D.int.injEq, true_and, and_true] at hg he
  obtain ⟨_, hk', hv⟩ := hg
  have hk' : k' = k := by omega
  have hv : v = l[k] := by omega
  subst hk' hv
  obtain ⟨rfl, rfl, rfl⟩ := he
  have hvb : l[k'] < 1000000000 := hll.get hkl
  refine brd (fun h2 => ?_) (fun h2 => ?_)
  ·have hq1 : l[k'] / 10 ^ (j + 1) = l[k'] / 10 ^ j / 10 := by rw [Nat.pow_succ, Nat.div_div_eq_div_mul]
   have hqle : l[k'] / 10 ^ j ≤ l[k'] := Nat.div_le_self _ _
   have hdc := digF_cons j l[k']
   have hinv : ∀ ds : List D, ds = [.str (digF (j + 1) l[k'] ++ digF (9 * k') (val (l.take k'))), .int .u32 ((l[k'] / 10 ^ (j + 1) : Nat) : Int), .int .i64 ((j + 1 : Nat) : Int)] →
    ∃ (k j : Nat) (v : Nat), j ≤ 9 ∧ [D.str (digF (9 * k') (val (l.take k'))), D.int .i64 (k' : Int), D.int .u32 (l[k'] : Int)] = [.str (digF (9 * k) (val (l.take k))), .int .i64 (k : Int), .int .u32 (v : Int)] ∧ ds = [.str (digF j v ++ digF (9 * k) (val (l.take k))), .int .u32 ((v / 10 ^ j : Nat) : Int), .int .i64 (j : Int)] :=
    fun ds h => ⟨k', j + 1, l[k'], by omega, rfl, h⟩
   rw [hq1, hdc] at hinv
   generalize l[k'] / 10 ^ j = q at *
   have e1 : Int.tmod (q : Int) 10 = ((q % 10 : Nat) : Int) := by rw [Int.tmod_eq_emod_of_nonneg (by omega)]; omega
   have e2 : Int.tdiv (q : Int) 10 = ((q / 10 : Nat) : Int) := by rw [Int.tdiv_eq_ediv_of_nonneg (by omega)]; omega
   have e3 : IntKind.wrap .u32 (48 + ((q % 10 : Nat) : Int)) = ((48 + q % 10 : Nat) : Int) := by rw [u32w (by omega) (by omega)]; omega
   have e4 : IntKind.wrap .i32 ((48 + q % 10 : Nat) : Int) = ((48 + q % 10 : Nat) : Int) := by
    simp only [IntKind.wrap, IntKind.bits, IntKind.signed]
    simp
    omega
   have e5 : IntKind.wrap .u32 ((q / 10 : Nat) : Int) = ((q / 10 : Nat) : Int) := u32w (by omega) (by omega)
   have e6 : IntKind.wrap .i64 ((j : Int) + 1) = ((j + 1 : Nat) : Int) := by rw [i64w (by omega) (by omega)]; omega
   rw [e1, e2, e3, e4, e5, e6, Int.toNat_natCast]
   refine ⟨by omega, ⟨by omega, by omega⟩, ?_, by omega, hinv _ rfl, by simp only [nth, toI]; omega⟩
   unfold room; rw [List.length_append, digF_len, digF_len]; omega
  ·have : j = 9 := by omega
   subst this
   rw [hw]
   refine ⟨⟨k' + 1, by omega, ?_⟩, by simp only [nth, toI]; omega⟩
   rw [digF_val hll hkl]
 ·have hkl : k = l.length := by omega
  subst hkl
  rw [List.take_length, hlv]
  have hvl : z.natAbs < 10 ^ (9 * l.length) := by
   have := val_lt hll
   rw [hlv, pow_9k] at this; exact this
  obtain ⟨m, hm⟩ : ∃ m, 9 * l.length = m + 1 := ⟨9 * l.length - 1, by omega⟩
  rw [hm] at hvl ⊢
  refine ⟨⟨m, by omega, rfl, hvl⟩, ?_⟩
  rintro s ⟨j, hj, he, hlt⟩
  simp only [List.cons.injEq, D.str.injEq, and_true] at he
  subst he
  have hd10 : z.natAbs / 10 ^ j % 10 < 10 := Nat.mod_lt _ (by omega)
  rw [digF_cons]
  simp only [List.length_cons, digF_len]
  refine ⟨⟨by omega, by omega⟩, ?_⟩
  have e0 : nth (0 : UInt8) (UInt8.ofNat (48 + z.natAbs / 10 ^ j % 10) :: digF j z.natAbs) (Int.toNat 0) = UInt8.ofNat (48 + z.natAbs / 10 ^ j % 10) := rfl
  rw [e0, dig_toNat hd10]
  have e1 : ((((48 + z.natAbs / 10 ^ j % 10 : Nat)) : Int) == 48) = decide (z.natAbs / 10 ^ j % 10 = 0) := by
   rw [Bool.eq_iff_iff]; simp only [beq_iff_eq, decide_eq_true_eq]; omega
  rw [e1]
  have hq : z.natAbs / 10 ^ j < 10 := by
   rw [Nat.div_lt_iff_lt_mul (Nat.pow_pos (by omega)), ← Nat.pow_succ']; exact hlt
  refine brd (fun h2 => ?_) (fun h2 => ?_)
  ·have hq0 : z.natAbs / 10 ^ j = 0 := by
    generalize z.natAbs / 10 ^ j = q at *
    omega
   have hlt2 : z.natAbs < 10 ^ j := by
    rcases Nat.lt_or_ge z.natAbs (10 ^ j) with h | h
    ·exact h
    ·have := Nat.div_pos h (Nat.pow_pos (by omega)); rw [hq0] at this; omega
   rcases j with _ | j
   ·rw [Nat.pow_zero] at hlt2; omega
   refine ⟨⟨by omega, by omega, by omega⟩, ⟨j, by omega, ?_, hlt2⟩, ?_⟩
   ·rw [Int.toNat_natCast, List.take_of_length_le (by simp [digF_len])]; rfl
   ·rw [Int.toNat_natCast, List.take_of_length_le (by simp [digF_len])]
    simp [nth, toS, digF_len]
  ·have hge : 10 ^ j ≤ z.natAbs := by
    rcases Nat.lt_or_ge z.natAbs (10 ^ j) with h | h
    ·rw [Nat.div_eq_of_lt h] at h2; omega
    ·exact h
   have hdd := dec_of_digF hge hlt
   rw [← digF_cons, hdd]
   have hlen : (Lib.decDigits z.natAbs).length = j + 1 := by rw [← hdd, digF_len]
   refine brb' (fun h3 => ?_) (fun h3 => ?_)
   ·have h3 := of_decide_eq_true h3
    refine ⟨by unfold room; omega, ?_⟩
    unfold decZt sgT
    rw [decide_eq_true h3]; rfl
   ·have h3 := of_decide_eq_false h3
    unfold decZt sgT
    rw [decide_eq_false h3]; rfl
end Eng
end
