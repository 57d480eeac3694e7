/- The verification conditions of functions, printed by a program (vcgen.py) and checked by the kernel. -/
import Derived.Test.YtmgkoomljkbfiaaGreatDoorCtxB
import Derived.Test.YtmgkoomljkbfiaaGreatDoorDistA
import Derived.Test.YtmgkoomljkbfiaaGreatDoorSetA
import Derived.Test.YtmgkoomljkbfiaaGreatDoorRefC
import Derived.KernelRfl
section
/- The verification conditions of functions, printed by a program (vcgen.py) and checked by the kernel. -/
open Go Go.Proofs Eng
set_option maxRecDepth 1000000
namespace Eng
theorem vc_pvec (Gv : Nat → List A → List A → Prop) (x y : Int) (Q : List A → Prop) :
    wpF CC Gv (fun _ => ⟨[], [], fun _ _ => True, fun _ => 0⟩) Tryz.f44 [.c (.int .i64 x), .c (.int .i64 y)] Q = (
 ∃ b es b_1 es_1,
  Gv (42 : Nat) [A.c (D.int IntKind.i64 x)] [A.ag [D.bool b, D.sl es, D.bool b_1, D.sl es_1]] ∧
    ∃ b_2 es_2 b_3 es_3,
      Gv (42 : Nat) [A.c (D.int IntKind.i64 y)] [A.ag [D.bool b_2, D.sl es_2, D.bool b_3, D.sl es_3]] ∧
        Q [A.ag [D.bool b, D.sl es, D.bool b_1, D.sl es_1, D.bool b_2, D.sl es_2, D.bool b_3, D.sl es_3]]) := by kernel_rfl
theorem vc_evec (Gv : Nat → List A → List A → Prop) (x y : Int) (Q : List A → Prop) :
    wpF CC Gv (fun _ => ⟨[], [], fun _ _ => True, fun _ => 0⟩) Tryz.f50 [.c (.int .i64 x), .c (.int .i64 y)] Q = (
 ∃ b es b_1 es_1,
  Gv (35 : Nat) [A.c (D.int IntKind.i64 x)] [A.ag [D.bool b, D.sl es, D.bool b_1, D.sl es_1]] ∧
    ∃ b_2 es_2 b_3 es_3,
      Gv (35 : Nat) [A.c (D.int IntKind.i64 y)] [A.ag [D.bool b_2, D.sl es_2, D.bool b_3, D.sl es_3]] ∧
        Q [A.ag [D.bool b, D.sl es, D.bool b_1, D.sl es_1, D.bool b_2, D.sl es_2, D.bool b_3, D.sl es_3]]) := by kernel_rfl
theorem vc_pholds (Gv : Nat → List A → List A → Prop) (c0 c1 c2 c3 c4 : Int) (g0 g1 : Int) (Q : List A → Prop) :
    wpF CC Gv (fun _ => ⟨[], [], fun _ _ => True, fun _ => 0⟩) Tryz.f41 [.ag [.int .i64 c0, .int .i64 c1, .int .i64 c2, .int .i64 c3, .int .i64 c4], .ag [.int .i64 g0, .int .i64 g1]] Q = (
 br (toB (D.bool (decide (c0 ≤ g0))))
  (br (toB (D.bool (decide (g0 ≤ c2)))) (br (toB (D.bool (decide (c1 ≤ g1)))) (Q [A.c (D.bool (decide (g1 ≤ c3)))]) (Q [A.c (D.bool false)]))
    (Q [A.c (D.bool false)]))
  (Q [A.c (D.bool false)])) := by kernel_rfl
theorem vc_einside (Gv : Nat → List A → List A → Prop) (c0 c1 c2 c3 c4 : Int) (g0 g1 : Int) (Q : List A → Prop) :
    wpF CC Gv (fun _ => ⟨[], [], fun _ _ => True, fun _ => 0⟩) Tryz.f49 [.ag [.int .i64 c0, .int .i64 c1, .int .i64 c2, .int .i64 c3, .int .i64 c4], .ag [.int .i64 g0, .int .i64 g1]] Q = (
 br (toB (D.bool (decide (c0 ≤ g0))))
  (br (toB (D.bool (decide (g0 ≤ c2)))) (br (toB (D.bool (decide (c1 ≤ g1)))) (Q [A.c (D.bool (decide (g1 ≤ c3)))]) (Q [A.c (D.bool false)]))
    (Q [A.c (D.bool false)]))
  (Q [A.c (D.bool false)])) := by kernel_rfl
theorem vc_pnear (Gv : Nat → List A → List A → Prop) (I0 : List D → List D → Prop) (M0 : List D → Nat) (c0 c1 c2 c3 c4 : Int) (g0 g1 : Int) (h0 h1 : Int) (r : Int) (Q : List A → Prop) :
    wpF CC Gv (fun _ => ⟨[.slot 63 (.int .i64 0)], [], I0, M0⟩) Tryz.f31 [.ag [.int .i64 c0, .int .i64 c1, .int .i64 c2, .int .i64 c3, .int .i64 c4], .ag [.int .i64 g0, .int .i64 g1], .ag [.int .i64 h0, .int .i64 h1], .c (.int .i64 r)] Q = (
 br (toB (D.bool (decide (r ≤ (0 : Int))))) (Q [A.c (D.bool false)])
  (∃ b,
    Gv (41 : Nat)
        [A.ag [D.int IntKind.i64 c0, D.int IntKind.i64 c1, D.int IntKind.i64 c2, D.int IntKind.i64 c3, D.int IntKind.i64 c4],
          A.ag [D.int IntKind.i64 g0, D.int IntKind.i64 g1]]
        [A.c (D.bool b)] ∧
      br b (Q [A.c (D.bool true)])
        (∃ b,
          Gv (41 : Nat)
              [A.ag [D.int IntKind.i64 c0, D.int IntKind.i64 c1, D.int IntKind.i64 c2, D.int IntKind.i64 c3, D.int IntKind.i64 c4],
                A.ag [D.int IntKind.i64 h0, D.int IntKind.i64 h1]]
              [A.c (D.bool b)] ∧
            br b (Q [A.c (D.bool true)])
              (∃ b es b_1 es_1,
                Gv (42 : Nat) [A.c (D.int IntKind.i64 r)] [A.ag [D.bool b, D.sl es, D.bool b_1, D.sl es_1]] ∧
                  ∃ b_2 es_2 b_3 es_3,
                    Gv (43 : Nat) [A.ag [D.bool b, D.sl es, D.bool b_1, D.sl es_1], A.ag [D.bool b, D.sl es, D.bool b_1, D.sl es_1]]
                        [A.ag [D.bool b_2, D.sl es_2, D.bool b_3, D.sl es_3]] ∧
                      ∃ b es b_4 es_4 b_5 es_5 b_6 es_6,
                        Gv (44 : Nat) [A.c (D.int IntKind.i64 g0), A.c (D.int IntKind.i64 g1)]
                            [A.ag [D.bool b, D.sl es, D.bool b_4, D.sl es_4, D.bool b_5, D.sl es_5, D.bool b_6, D.sl es_6]] ∧
                          ∃ b_7 es_7 b_8 es_8 b_9 es_9 b_10 es_10,
                            Gv (44 : Nat) [A.c (D.int IntKind.i64 h0), A.c (D.int IntKind.i64 h1)]
                                [A.ag [D.bool b_7, D.sl es_7, D.bool b_8, D.sl es_8, D.bool b_9, D.sl es_9, D.bool b_10, D.sl es_10]] ∧
                              ∃ b_11 es_11 b_12 es_12 b_13 es_13 b_14 es_14,
                                Gv (44 : Nat) [A.c (D.int IntKind.i64 c0), A.c (D.int IntKind.i64 c1)]
                                    [A.ag [D.bool b_11, D.sl es_11, D.bool b_12, D.sl es_12, D.bool b_13, D.sl es_13, D.bool b_14, D.sl es_14]] ∧
                                  ∃ b_15 es_15 b_16 es_16 b_17 es_17 b_18 es_18,
                                    Gv (44 : Nat) [A.c (D.int IntKind.i64 c2), A.c (D.int IntKind.i64 c1)]
                                        [A.ag [D.bool b_15, D.sl es_15, D.bool b_16, D.sl es_16, D.bool b_17, D.sl es_17, D.bool b_18, D.sl es_18]] ∧
                                      ∃ b_19 es_19 b_20 es_20 b_21 es_21 b_22 es_22,
                                        Gv (44 : Nat) [A.c (D.int IntKind.i64 c2), A.c (D.int IntKind.i64 c3)]
                                            [A.ag [D.bool b_19, D.sl es_19, D.bool b_20, D.sl es_20, D.bool b_21, D.sl es_21, D.bool b_22, D.sl es_22]] ∧
                                          ∃ b_23 es_23 b_24 es_24 b_25 es_25 b_26 es_26,
                                            Gv (44 : Nat) [A.c (D.int IntKind.i64 c0), A.c (D.int IntKind.i64 c3)]
                                                [A.ag [D.bool b_23, D.sl es_23, D.bool b_24, D.sl es_24, D.bool b_25, D.sl es_25, D.bool b_26, D.sl es_26]] ∧
                                              I0 [] [D.int IntKind.i64 (0 : Int)] ∧
                                                ∀ (n : Int),
                                                  I0 [] [D.int IntKind.i64 n] →
                                                    br (toB (D.bool (decide (n < (4 : Int)))))
                                                      (((0 : Int) ≤ n ∧ n < (4 : Int)) ∧
                                                        ∃ b_27 es_27 b_28 es_28 b_29 es_29 b_30 es_30,
                                                          cut
                                                              (nth []
                                                                [[D.bool b_11, D.sl es_11, D.bool b_12, D.sl es_12, D.bool b_13, D.sl es_13, D.bool b_14,
                                                                    D.sl es_14],
                                                                  [D.bool b_15, D.sl es_15, D.bool b_16, D.sl es_16, D.bool b_17, D.sl es_17, D.bool b_18,
                                                                    D.sl es_18],
                                                                  [D.bool b_19, D.sl es_19, D.bool b_20, D.sl es_20, D.bool b_21, D.sl es_21, D.bool b_22,
                                                                    D.sl es_22],
                                                                  [D.bool b_23, D.sl es_23, D.bool b_24, D.sl es_24, D.bool b_25, D.sl es_25, D.bool b_26,
                                                                    D.sl es_26]]
                                                                (Int.toNat n))
                                                              (0 : Nat) (8 : Nat)
                                                              [D.bool b_27, D.sl es_27, D.bool b_28, D.sl es_28, D.bool b_29, D.sl es_29, D.bool b_30,
                                                                D.sl es_30] ∧
                                                            (4 : Int) ≠ (0 : Int) ∧
                                                              ((0 : Int) ≤ Int.tmod (IntKind.wrap IntKind.i64 (n + (1 : Int))) (4 : Int) ∧
                                                                  Int.tmod (IntKind.wrap IntKind.i64 (n + (1 : Int))) (4 : Int) < (4 : Int)) ∧
                                                                ∃ b_31 es_31 b_32 es_32 b_33 es_33 b_34 es_34,
                                                                  cut
                                                                      (nth []
                                                                        [[D.bool b_11, D.sl es_11, D.bool b_12, D.sl es_12, D.bool b_13, D.sl es_13,
                                                                            D.bool b_14, D.sl es_14],
                                                                          [D.bool b_15, D.sl es_15, D.bool b_16, D.sl es_16, D.bool b_17, D.sl es_17,
                                                                            D.bool b_18, D.sl es_18],
                                                                          [D.bool b_19, D.sl es_19, D.bool b_20, D.sl es_20, D.bool b_21, D.sl es_21,
                                                                            D.bool b_22, D.sl es_22],
                                                                          [D.bool b_23, D.sl es_23, D.bool b_24, D.sl es_24, D.bool b_25, D.sl es_25,
                                                                            D.bool b_26, D.sl es_26]]
                                                                        (Int.toNat (Int.tmod (IntKind.wrap IntKind.i64 (n + (1 : Int))) (4 : Int))))
                                                                      (0 : Nat) (8 : Nat)
                                                                      [D.bool b_31, D.sl es_31, D.bool b_32, D.sl es_32, D.bool b_33, D.sl es_33, D.bool b_34,
                                                                        D.sl es_34] ∧
                                                                    ∃ b_35 es_35 b_36 es_36,
                                                                      Gv (46 : Nat)
                                                                          [A.ag
                                                                              [D.bool b, D.sl es, D.bool b_4, D.sl es_4, D.bool b_5, D.sl es_5, D.bool b_6,
                                                                                D.sl es_6],
                                                                            A.ag
                                                                              [D.bool b_7, D.sl es_7, D.bool b_8, D.sl es_8, D.bool b_9, D.sl es_9, D.bool b_10,
                                                                                D.sl es_10],
                                                                            A.ag
                                                                              [D.bool b_27, D.sl es_27, D.bool b_28, D.sl es_28, D.bool b_29, D.sl es_29,
                                                                                D.bool b_30, D.sl es_30],
                                                                            A.ag
                                                                              [D.bool b_31, D.sl es_31, D.bool b_32, D.sl es_32, D.bool b_33, D.sl es_33,
                                                                                D.bool b_34, D.sl es_34]]
                                                                          [A.ag [D.bool b_35, D.sl es_35, D.bool b_36, D.sl es_36]] ∧
                                                                        ∃ n_1,
                                                                          Gv (45 : Nat)
                                                                              [A.ag [D.bool b_35, D.sl es_35, D.bool b_36, D.sl es_36],
                                                                                A.ag [D.bool b_2, D.sl es_2, D.bool b_3, D.sl es_3]]
                                                                              [A.c (D.int IntKind.i64 n_1)] ∧
                                                                            br (toB (D.bool (decide (n_1 < (0 : Int))))) (Q [A.c (D.bool true)])
                                                                              (I0 [] [D.int IntKind.i64 (IntKind.wrap IntKind.i64 (n + (1 : Int)))] ∧
                                                                                M0 [D.int IntKind.i64 (IntKind.wrap IntKind.i64 (n + (1 : Int)))] <
                                                                                  M0 [D.int IntKind.i64 n]))
                                                      (Q [A.c (D.bool false)]))))) := by kernel_rfl
theorem vc_eFar (Gv : Nat → List A → List A → Prop) (I0 : List D → List D → Prop) (M0 : List D → Nat) (c0 c1 c2 c3 c4 : Int) (g0 g1 : Int) (h0 h1 : Int) (Q : List A → Prop) :
    wpF CC Gv (fun _ => ⟨[.slot 9 (.int .i64 0), .box 8 [.bool false, .slice none 0 0, .bool false, .slice none 0 0]], [], I0, M0⟩) Tryz.f33 [.ag [.int .i64 c0, .int .i64 c1, .int .i64 c2, .int .i64 c3, .int .i64 c4], .ag [.int .i64 g0, .int .i64 g1], .ag [.int .i64 h0, .int .i64 h1]] Q = (
 ∃ b,
  Gv (49 : Nat)
      [A.ag [D.int IntKind.i64 c0, D.int IntKind.i64 c1, D.int IntKind.i64 c2, D.int IntKind.i64 c3, D.int IntKind.i64 c4],
        A.ag [D.int IntKind.i64 g0, D.int IntKind.i64 g1]]
      [A.c (D.bool b)] ∧
    br b
      (∃ b es b_1 es_1,
        Gv (35 : Nat) [A.c (D.int IntKind.i64 (0 : Int))] [A.ag [D.bool b, D.sl es, D.bool b_1, D.sl es_1]] ∧
          Q [A.ag [D.bool b, D.sl es, D.bool b_1, D.sl es_1]])
      (∃ b,
        Gv (49 : Nat)
            [A.ag [D.int IntKind.i64 c0, D.int IntKind.i64 c1, D.int IntKind.i64 c2, D.int IntKind.i64 c3, D.int IntKind.i64 c4],
              A.ag [D.int IntKind.i64 h0, D.int IntKind.i64 h1]]
            [A.c (D.bool b)] ∧
          br b
            (∃ b es b_1 es_1,
              Gv (35 : Nat) [A.c (D.int IntKind.i64 (0 : Int))] [A.ag [D.bool b, D.sl es, D.bool b_1, D.sl es_1]] ∧
                Q [A.ag [D.bool b, D.sl es, D.bool b_1, D.sl es_1]])
            (∃ b es b_1 es_1 b_2 es_2 b_3 es_3,
              Gv (50 : Nat) [A.c (D.int IntKind.i64 c0), A.c (D.int IntKind.i64 c1)]
                  [A.ag [D.bool b, D.sl es, D.bool b_1, D.sl es_1, D.bool b_2, D.sl es_2, D.bool b_3, D.sl es_3]] ∧
                ∃ b_4 es_4 b_5 es_5 b_6 es_6 b_7 es_7,
                  Gv (50 : Nat) [A.c (D.int IntKind.i64 c2), A.c (D.int IntKind.i64 c1)]
                      [A.ag [D.bool b_4, D.sl es_4, D.bool b_5, D.sl es_5, D.bool b_6, D.sl es_6, D.bool b_7, D.sl es_7]] ∧
                    ∃ b_8 es_8 b_9 es_9 b_10 es_10 b_11 es_11,
                      Gv (50 : Nat) [A.c (D.int IntKind.i64 c2), A.c (D.int IntKind.i64 c3)]
                          [A.ag [D.bool b_8, D.sl es_8, D.bool b_9, D.sl es_9, D.bool b_10, D.sl es_10, D.bool b_11, D.sl es_11]] ∧
                        ∃ b_12 es_12 b_13 es_13 b_14 es_14 b_15 es_15,
                          Gv (50 : Nat) [A.c (D.int IntKind.i64 c0), A.c (D.int IntKind.i64 c3)]
                              [A.ag [D.bool b_12, D.sl es_12, D.bool b_13, D.sl es_13, D.bool b_14, D.sl es_14, D.bool b_15, D.sl es_15]] ∧
                            I0 [] [D.int IntKind.i64 (0 : Int), D.bool false, D.sl [], D.bool false, D.sl []] ∧
                              ∀ (n : Int) (b_16 : Bool) (es_16 : List (List D)) (b_17 : Bool) (es_17 : List (List D)),
                                I0 [] [D.int IntKind.i64 n, D.bool b_16, D.sl es_16, D.bool b_17, D.sl es_17] →
                                  br (toB (D.bool (decide (n < (4 : Int)))))
                                    (∃ b_18 es_18 b_19 es_19 b_20 es_20 b_21 es_21,
                                      Gv (50 : Nat) [A.c (D.int IntKind.i64 g0), A.c (D.int IntKind.i64 g1)]
                                          [A.ag [D.bool b_18, D.sl es_18, D.bool b_19, D.sl es_19, D.bool b_20, D.sl es_20, D.bool b_21, D.sl es_21]] ∧
                                        ∃ b_22 es_22 b_23 es_23 b_24 es_24 b_25 es_25,
                                          Gv (50 : Nat) [A.c (D.int IntKind.i64 h0), A.c (D.int IntKind.i64 h1)]
                                              [A.ag [D.bool b_22, D.sl es_22, D.bool b_23, D.sl es_23, D.bool b_24, D.sl es_24, D.bool b_25, D.sl es_25]] ∧
                                            ((0 : Int) ≤ n ∧ n < (4 : Int)) ∧
                                              ∃ b_26 es_26 b_27 es_27 b_28 es_28 b_29 es_29,
                                                cut
                                                    (nth []
                                                      [[D.bool b, D.sl es, D.bool b_1, D.sl es_1, D.bool b_2, D.sl es_2, D.bool b_3, D.sl es_3],
                                                        [D.bool b_4, D.sl es_4, D.bool b_5, D.sl es_5, D.bool b_6, D.sl es_6, D.bool b_7, D.sl es_7],
                                                        [D.bool b_8, D.sl es_8, D.bool b_9, D.sl es_9, D.bool b_10, D.sl es_10, D.bool b_11, D.sl es_11],
                                                        [D.bool b_12, D.sl es_12, D.bool b_13, D.sl es_13, D.bool b_14, D.sl es_14, D.bool b_15, D.sl es_15]]
                                                      (Int.toNat n))
                                                    (0 : Nat) (8 : Nat)
                                                    [D.bool b_26, D.sl es_26, D.bool b_27, D.sl es_27, D.bool b_28, D.sl es_28, D.bool b_29, D.sl es_29] ∧
                                                  (4 : Int) ≠ (0 : Int) ∧
                                                    ((0 : Int) ≤ Int.tmod (IntKind.wrap IntKind.i64 (n + (1 : Int))) (4 : Int) ∧
                                                        Int.tmod (IntKind.wrap IntKind.i64 (n + (1 : Int))) (4 : Int) < (4 : Int)) ∧
                                                      ∃ b_30 es_30 b_31 es_31 b_32 es_32 b_33 es_33,
                                                        cut
                                                            (nth []
                                                              [[D.bool b, D.sl es, D.bool b_1, D.sl es_1, D.bool b_2, D.sl es_2, D.bool b_3, D.sl es_3],
                                                                [D.bool b_4, D.sl es_4, D.bool b_5, D.sl es_5, D.bool b_6, D.sl es_6, D.bool b_7, D.sl es_7],
                                                                [D.bool b_8, D.sl es_8, D.bool b_9, D.sl es_9, D.bool b_10, D.sl es_10, D.bool b_11,
                                                                  D.sl es_11],
                                                                [D.bool b_12, D.sl es_12, D.bool b_13, D.sl es_13, D.bool b_14, D.sl es_14, D.bool b_15,
                                                                  D.sl es_15]]
                                                              (Int.toNat (Int.tmod (IntKind.wrap IntKind.i64 (n + (1 : Int))) (4 : Int))))
                                                            (0 : Nat) (8 : Nat)
                                                            [D.bool b_30, D.sl es_30, D.bool b_31, D.sl es_31, D.bool b_32, D.sl es_32, D.bool b_33,
                                                              D.sl es_33] ∧
                                                          ∃ b es b_34 es_34,
                                                            Gv (51 : Nat)
                                                                [A.ag
                                                                    [D.bool b_18, D.sl es_18, D.bool b_19, D.sl es_19, D.bool b_20, D.sl es_20, D.bool b_21,
                                                                      D.sl es_21],
                                                                  A.ag
                                                                    [D.bool b_22, D.sl es_22, D.bool b_23, D.sl es_23, D.bool b_24, D.sl es_24, D.bool b_25,
                                                                      D.sl es_25],
                                                                  A.ag
                                                                    [D.bool b_26, D.sl es_26, D.bool b_27, D.sl es_27, D.bool b_28, D.sl es_28, D.bool b_29,
                                                                      D.sl es_29],
                                                                  A.ag
                                                                    [D.bool b_30, D.sl es_30, D.bool b_31, D.sl es_31, D.bool b_32, D.sl es_32, D.bool b_33,
                                                                      D.sl es_33]]
                                                                [A.ag [D.bool b, D.sl es, D.bool b_34, D.sl es_34]] ∧
                                                              br (toB (D.bool (n == (0 : Int))))
                                                                (I0 []
                                                                    [D.int IntKind.i64 (IntKind.wrap IntKind.i64 (n + (1 : Int))), D.bool b, D.sl es,
                                                                      D.bool b_34, D.sl es_34] ∧
                                                                  M0
                                                                      [D.int IntKind.i64 (IntKind.wrap IntKind.i64 (n + (1 : Int))), D.bool b, D.sl es,
                                                                        D.bool b_34, D.sl es_34] <
                                                                    M0 [D.int IntKind.i64 n, D.bool b_16, D.sl es_16, D.bool b_17, D.sl es_17])
                                                                (∃ n_1,
                                                                  Gv (32 : Nat)
                                                                      [A.ag [D.bool b, D.sl es, D.bool b_34, D.sl es_34],
                                                                        A.ag [D.bool b_16, D.sl es_16, D.bool b_17, D.sl es_17]]
                                                                      [A.c (D.int IntKind.i64 n_1)] ∧
                                                                    br (toB (D.bool (decide (n_1 < (0 : Int)))))
                                                                      (I0 []
                                                                          [D.int IntKind.i64 (IntKind.wrap IntKind.i64 (n + (1 : Int))), D.bool b, D.sl es,
                                                                            D.bool b_34, D.sl es_34] ∧
                                                                        M0
                                                                            [D.int IntKind.i64 (IntKind.wrap IntKind.i64 (n + (1 : Int))), D.bool b, D.sl es,
                                                                              D.bool b_34, D.sl es_34] <
                                                                          M0 [D.int IntKind.i64 n, D.bool b_16, D.sl es_16, D.bool b_17, D.sl es_17])
                                                                      (I0 []
                                                                          [D.int IntKind.i64 (IntKind.wrap IntKind.i64 (n + (1 : Int))), D.bool b_16,
                                                                            D.sl es_16, D.bool b_17, D.sl es_17] ∧
                                                                        M0
                                                                            [D.int IntKind.i64 (IntKind.wrap IntKind.i64 (n + (1 : Int))), D.bool b_16,
                                                                              D.sl es_16, D.bool b_17, D.sl es_17] <
                                                                          M0 [D.int IntKind.i64 n, D.bool b_16, D.sl es_16, D.bool b_17, D.sl es_17])))
                                    (Q [A.ag [D.bool b_16, D.sl es_16, D.bool b_17, D.sl es_17]])))) := by kernel_rfl
theorem vc_pHighest (Gv : Nat → List A → List A → Prop) (I0 : List D → List D → Prop) (M0 : List D → Nat) (x0 y0 x1 y1 th ga sf : Int) (es : List (List D)) (g0 g1 : Int) (h0 h1 : Int) (r : Int) (Q : List A → Prop) :
    wpF CC Gv (fun _ => ⟨[.slot 17 (.int .i64 0), .slot 10 (.int .i64 0), .slot 11 (.bool false)], [], I0, M0⟩) Tryz.f13 [.ag [.int .i64 x0, .int .i64 y0, .int .i64 x1, .int .i64 y1, .int .i64 th, .int .i64 ga, .sl es, .int .i64 sf], .ag [.int .i64 g0, .int .i64 g1], .ag [.int .i64 h0, .int .i64 h1], .c (.int .i64 r)] Q = (
 I0 [] [D.int IntKind.i64 (0 : Int), D.int IntKind.i64 (0 : Int), D.bool false] ∧
  ∀ (n n_1 : Int) (b : Bool),
    I0 [] [D.int IntKind.i64 n, D.int IntKind.i64 n_1, D.bool b] →
      br (toB (D.bool (decide (n < (Int.ofNat (List.length es))))))
        (((0 : Int) ≤ n ∧ n < (Int.ofNat (List.length es)) ∧ List.length (nth [] es (Int.toNat n)) = (5 : Nat)) ∧
          ∃ n_2 n_3 n_4 n_5 n_6,
            cut (nth [] es (Int.toNat n)) (0 : Nat) (5 : Nat)
                [D.int IntKind.i64 n_2, D.int IntKind.i64 n_3, D.int IntKind.i64 n_4, D.int IntKind.i64 n_5, D.int IntKind.i64 n_6] ∧
              ∃ b_1,
                Gv (31 : Nat)
                    [A.ag [D.int IntKind.i64 n_2, D.int IntKind.i64 n_3, D.int IntKind.i64 n_4, D.int IntKind.i64 n_5, D.int IntKind.i64 n_6],
                      A.ag [D.int IntKind.i64 g0, D.int IntKind.i64 g1], A.ag [D.int IntKind.i64 h0, D.int IntKind.i64 h1], A.c (D.int IntKind.i64 r)]
                    [A.c (D.bool b_1)] ∧
                  br b_1
                    (br (toB (D.bool !b))
                      (I0 [] [D.int IntKind.i64 (IntKind.wrap IntKind.i64 (n + (1 : Int))), D.int IntKind.i64 n_6, D.bool true] ∧
                        M0 [D.int IntKind.i64 (IntKind.wrap IntKind.i64 (n + (1 : Int))), D.int IntKind.i64 n_6, D.bool true] <
                          M0 [D.int IntKind.i64 n, D.int IntKind.i64 n_1, D.bool b])
                      (br (toB (D.bool (decide (n_6 > n_1))))
                        (I0 [] [D.int IntKind.i64 (IntKind.wrap IntKind.i64 (n + (1 : Int))), D.int IntKind.i64 n_6, D.bool true] ∧
                          M0 [D.int IntKind.i64 (IntKind.wrap IntKind.i64 (n + (1 : Int))), D.int IntKind.i64 n_6, D.bool true] <
                            M0 [D.int IntKind.i64 n, D.int IntKind.i64 n_1, D.bool b])
                        (I0 [] [D.int IntKind.i64 (IntKind.wrap IntKind.i64 (n + (1 : Int))), D.int IntKind.i64 n_1, D.bool b] ∧
                          M0 [D.int IntKind.i64 (IntKind.wrap IntKind.i64 (n + (1 : Int))), D.int IntKind.i64 n_1, D.bool b] <
                            M0 [D.int IntKind.i64 n, D.int IntKind.i64 n_1, D.bool b])))
                    (I0 [] [D.int IntKind.i64 (IntKind.wrap IntKind.i64 (n + (1 : Int))), D.int IntKind.i64 n_1, D.bool b] ∧
                      M0 [D.int IntKind.i64 (IntKind.wrap IntKind.i64 (n + (1 : Int))), D.int IntKind.i64 n_1, D.bool b] <
                        M0 [D.int IntKind.i64 n, D.int IntKind.i64 n_1, D.bool b]))
        (Q [A.c (D.int IntKind.i64 n_1), A.c (D.bool b)])) := by kernel_rfl
theorem vc_eHighest (Gv : Nat → List A → List A → Prop) (I0 : List D → List D → Prop) (M0 : List D → Nat) (x0 y0 x1 y1 th ga sf : Int) (es : List (List D)) (g0 g1 : Int) (h0 h1 : Int) (r : Int) (Q : List A → Prop) :
    wpF CC Gv (fun _ => ⟨[.slot 12 (.int .i64 0), .slot 10 (.int .i64 0), .slot 11 (.bool false)], [], I0, M0⟩) Tryz.f14 [.ag [.int .i64 x0, .int .i64 y0, .int .i64 x1, .int .i64 y1, .int .i64 th, .int .i64 ga, .sl es, .int .i64 sf], .ag [.int .i64 g0, .int .i64 g1], .ag [.int .i64 h0, .int .i64 h1], .c (.int .i64 r)] Q = (
 I0 [] [D.int IntKind.i64 (0 : Int), D.int IntKind.i64 (0 : Int), D.bool false] ∧
  ∀ (n n_1 : Int) (b : Bool),
    I0 [] [D.int IntKind.i64 n, D.int IntKind.i64 n_1, D.bool b] →
      br (toB (D.bool (decide (n < (Int.ofNat (List.length es))))))
        (((0 : Int) ≤ n ∧ n < (Int.ofNat (List.length es)) ∧ List.length (nth [] es (Int.toNat n)) = (5 : Nat)) ∧
          ∃ n_2 n_3 n_4 n_5 n_6,
            cut (nth [] es (Int.toNat n)) (0 : Nat) (5 : Nat)
                [D.int IntKind.i64 n_2, D.int IntKind.i64 n_3, D.int IntKind.i64 n_4, D.int IntKind.i64 n_5, D.int IntKind.i64 n_6] ∧
              br (toB (D.bool (decide (r > (0 : Int)))))
                (∃ b_1 es b_2 es_1,
                  Gv (33 : Nat)
                      [A.ag [D.int IntKind.i64 n_2, D.int IntKind.i64 n_3, D.int IntKind.i64 n_4, D.int IntKind.i64 n_5, D.int IntKind.i64 n_6],
                        A.ag [D.int IntKind.i64 g0, D.int IntKind.i64 g1], A.ag [D.int IntKind.i64 h0, D.int IntKind.i64 h1]]
                      [A.ag [D.bool b_1, D.sl es, D.bool b_2, D.sl es_1]] ∧
                    ∃ b_3 es_2 b_4 es_3,
                      Gv (35 : Nat) [A.c (D.int IntKind.i64 r)] [A.ag [D.bool b_3, D.sl es_2, D.bool b_4, D.sl es_3]] ∧
                        ∃ b_5 es_4 b_6 es_5,
                          Gv (34 : Nat) [A.ag [D.bool b_3, D.sl es_2, D.bool b_4, D.sl es_3]] [A.ag [D.bool b_5, D.sl es_4, D.bool b_6, D.sl es_5]] ∧
                            ∃ n_7,
                              Gv (32 : Nat) [A.ag [D.bool b_1, D.sl es, D.bool b_2, D.sl es_1], A.ag [D.bool b_5, D.sl es_4, D.bool b_6, D.sl es_5]]
                                  [A.c (D.int IntKind.i64 n_7)] ∧
                                br (toB (D.bool (decide (n_7 < (0 : Int)))))
                                  (br (toB (D.bool !b))
                                    (I0 [] [D.int IntKind.i64 (IntKind.wrap IntKind.i64 (n + (1 : Int))), D.int IntKind.i64 n_6, D.bool true] ∧
                                      M0 [D.int IntKind.i64 (IntKind.wrap IntKind.i64 (n + (1 : Int))), D.int IntKind.i64 n_6, D.bool true] <
                                        M0 [D.int IntKind.i64 n, D.int IntKind.i64 n_1, D.bool b])
                                    (br (toB (D.bool (decide (n_6 > n_1))))
                                      (I0 [] [D.int IntKind.i64 (IntKind.wrap IntKind.i64 (n + (1 : Int))), D.int IntKind.i64 n_6, D.bool true] ∧
                                        M0 [D.int IntKind.i64 (IntKind.wrap IntKind.i64 (n + (1 : Int))), D.int IntKind.i64 n_6, D.bool true] <
                                          M0 [D.int IntKind.i64 n, D.int IntKind.i64 n_1, D.bool b])
                                      (I0 [] [D.int IntKind.i64 (IntKind.wrap IntKind.i64 (n + (1 : Int))), D.int IntKind.i64 n_1, D.bool b] ∧
                                        M0 [D.int IntKind.i64 (IntKind.wrap IntKind.i64 (n + (1 : Int))), D.int IntKind.i64 n_1, D.bool b] <
                                          M0 [D.int IntKind.i64 n, D.int IntKind.i64 n_1, D.bool b])))
                                  (I0 [] [D.int IntKind.i64 (IntKind.wrap IntKind.i64 (n + (1 : Int))), D.int IntKind.i64 n_1, D.bool b] ∧
                                    M0 [D.int IntKind.i64 (IntKind.wrap IntKind.i64 (n + (1 : Int))), D.int IntKind.i64 n_1, D.bool b] <
                                      M0 [D.int IntKind.i64 n, D.int IntKind.i64 n_1, D.bool b]))
                (I0 [] [D.int IntKind.i64 (IntKind.wrap IntKind.i64 (n + (1 : Int))), D.int IntKind.i64 n_1, D.bool b] ∧
                  M0 [D.int IntKind.i64 (IntKind.wrap IntKind.i64 (n + (1 : Int))), D.int IntKind.i64 n_1, D.bool b] <
                    M0 [D.int IntKind.i64 n, D.int IntKind.i64 n_1, D.bool b]))
        (Q [A.c (D.int IntKind.i64 n_1), A.c (D.bool b)])) := by kernel_rfl
theorem vc_eWithin (Gv : Nat → List A → List A → Prop) (g0 g1 : Int) (Q : List A → Prop) :
    wpF CC Gv (fun _ => ⟨[], [], fun _ _ => True, fun _ => 0⟩) Tryz.f30 [.ag [.int .i64 g0, .int .i64 g1]] Q = (
 br (toB (D.bool (decide (g0 ≥ (-40000000 : Int)))))
  (br (toB (D.bool (decide (g0 ≤ (40000000 : Int)))))
    (br (toB (D.bool (decide (g1 ≥ (-40000000 : Int))))) (Q [A.c (D.bool (decide (g1 ≤ (40000000 : Int))))]) (Q [A.c (D.bool false)])) (Q [A.c (D.bool false)]))
  (Q [A.c (D.bool false)])) := by kernel_rfl
theorem vc_lnear (Gv : Nat → List A → List A → Prop) (x0 y0 x1 y1 th ga sf : Int) (es : List (List D)) (a b c d : Int) (r : Int) (Q : List A → Prop) :
    wpF CC Gv (fun _ => ⟨[], [], fun _ _ => True, fun _ => 0⟩) Tryz.f12 [.ag [.int .i64 x0, .int .i64 y0, .int .i64 x1, .int .i64 y1, .int .i64 th, .int .i64 ga, .sl es, .int .i64 sf], .ag [.int .i64 a, .int .i64 b, .int .i64 c, .int .i64 d], .c (.int .i64 r)] Q = (
 ∃ b_1,
  Gv (15 : Nat)
      [A.ag
          [D.int IntKind.i64 x0, D.int IntKind.i64 y0, D.int IntKind.i64 x1, D.int IntKind.i64 y1, D.int IntKind.i64 th, D.int IntKind.i64 ga, D.sl es,
            D.int IntKind.i64 sf]]
      [A.c (D.bool b_1)] ∧
    br b_1
      (∃ b_2,
        Gv (30 : Nat) [A.ag [D.int IntKind.i64 a, D.int IntKind.i64 b]] [A.c (D.bool b_2)] ∧
          br b_2
            (∃ b,
              Gv (30 : Nat) [A.ag [D.int IntKind.i64 c, D.int IntKind.i64 d]] [A.c (D.bool b)] ∧
                br b (Q [A.c (D.bool (decide (r ≤ (40000000 : Int))))]) (Q [A.c (D.bool false)]))
            (Q [A.c (D.bool false)]))
      (Q [A.c (D.bool false)])) := by kernel_rfl
theorem vc_lHighest (Gv : Nat → List A → List A → Prop) (x0 y0 x1 y1 th ga sf : Int) (es : List (List D)) (a b c d : Int) (r : Int) (Q : List A → Prop) :
    wpF CC Gv (fun _ => ⟨[], [], fun _ _ => True, fun _ => 0⟩) Tryz.f4 [.ag [.int .i64 x0, .int .i64 y0, .int .i64 x1, .int .i64 y1, .int .i64 th, .int .i64 ga, .sl es, .int .i64 sf], .ag [.int .i64 a, .int .i64 b, .int .i64 c, .int .i64 d], .c (.int .i64 r)] Q = (
 ∃ b_1,
  Gv (7 : Nat) [] [A.c (D.bool b_1)] ∧
    br (toB (D.bool !b_1)) (∃ b, Gv (7 : Nat) [] [A.c (D.bool b)] ∧ Q [A.c (D.bool b)])
      (∃ b_2,
        Gv (12 : Nat)
            [A.ag
                [D.int IntKind.i64 x0, D.int IntKind.i64 y0, D.int IntKind.i64 x1, D.int IntKind.i64 y1, D.int IntKind.i64 th, D.int IntKind.i64 ga, D.sl es,
                  D.int IntKind.i64 sf],
              A.ag [D.int IntKind.i64 a, D.int IntKind.i64 b, D.int IntKind.i64 c, D.int IntKind.i64 d], A.c (D.int IntKind.i64 r)]
            [A.c (D.bool b_2)] ∧
          br (toB (D.bool !b_2)) (∃ b, Gv (7 : Nat) [] [A.c (D.bool b)] ∧ Q [A.c (D.bool b)])
            (∃ n b_3,
              Gv (13 : Nat)
                  [A.ag
                      [D.int IntKind.i64 x0, D.int IntKind.i64 y0, D.int IntKind.i64 x1, D.int IntKind.i64 y1, D.int IntKind.i64 th, D.int IntKind.i64 ga,
                        D.sl es, D.int IntKind.i64 sf],
                    A.ag [D.int IntKind.i64 a, D.int IntKind.i64 b], A.ag [D.int IntKind.i64 c, D.int IntKind.i64 d], A.c (D.int IntKind.i64 r)]
                  [A.c (D.int IntKind.i64 n), A.c (D.bool b_3)] ∧
                ∃ n_1 b_4,
                  Gv (14 : Nat)
                      [A.ag
                          [D.int IntKind.i64 x0, D.int IntKind.i64 y0, D.int IntKind.i64 x1, D.int IntKind.i64 y1, D.int IntKind.i64 th, D.int IntKind.i64 ga,
                            D.sl es, D.int IntKind.i64 sf],
                        A.ag [D.int IntKind.i64 a, D.int IntKind.i64 b], A.ag [D.int IntKind.i64 c, D.int IntKind.i64 d], A.c (D.int IntKind.i64 r)]
                      [A.c (D.int IntKind.i64 n_1), A.c (D.bool b_4)] ∧
                    ∃ n_2 b_5,
                      Gv (13 : Nat)
                          [A.ag
                              [D.int IntKind.i64 x0, D.int IntKind.i64 y0, D.int IntKind.i64 x1, D.int IntKind.i64 y1, D.int IntKind.i64 th,
                                D.int IntKind.i64 ga, D.sl es, D.int IntKind.i64 sf],
                            A.ag [D.int IntKind.i64 c, D.int IntKind.i64 d], A.ag [D.int IntKind.i64 a, D.int IntKind.i64 b], A.c (D.int IntKind.i64 r)]
                          [A.c (D.int IntKind.i64 n_2), A.c (D.bool b_5)] ∧
                        br (toB (D.bool (b_3 == b_4)))
                          (br (toB (D.bool (n == n_1))) (br (toB (D.bool (b_5 == b_3))) (Q [A.c (D.bool (n_2 == n))]) (Q [A.c (D.bool false)]))
                            (Q [A.c (D.bool false)]))
                          (Q [A.c (D.bool false)])))) := by kernel_rfl
theorem vc_lGrows (Gv : Nat → List A → List A → Prop) (I0 : List D → List D → Prop) (M0 : List D → Nat) (x0 y0 x1 y1 th ga sf : Int) (es : List (List D)) (a b c d : Int) (r : Int) (Q : List A → Prop) :
    wpF CC Gv (fun _ => ⟨[.slot 65 (.int .i64 0)], [], I0, M0⟩) Tryz.f5 [.ag [.int .i64 x0, .int .i64 y0, .int .i64 x1, .int .i64 y1, .int .i64 th, .int .i64 ga, .sl es, .int .i64 sf], .ag [.int .i64 a, .int .i64 b, .int .i64 c, .int .i64 d], .c (.int .i64 r)] Q = (
 ∃ b_1,
  Gv (7 : Nat) [] [A.c (D.bool b_1)] ∧
    br (toB (D.bool !b_1)) (∃ b, Gv (7 : Nat) [] [A.c (D.bool b)] ∧ Q [A.c (D.bool b)])
      (∃ b_2,
        Gv (12 : Nat)
            [A.ag
                [D.int IntKind.i64 x0, D.int IntKind.i64 y0, D.int IntKind.i64 x1, D.int IntKind.i64 y1, D.int IntKind.i64 th, D.int IntKind.i64 ga, D.sl es,
                  D.int IntKind.i64 sf],
              A.ag [D.int IntKind.i64 a, D.int IntKind.i64 b, D.int IntKind.i64 c, D.int IntKind.i64 d], A.c (D.int IntKind.i64 r)]
            [A.c (D.bool b_2)] ∧
          br (toB (D.bool !b_2)) (∃ b, Gv (7 : Nat) [] [A.c (D.bool b)] ∧ Q [A.c (D.bool b)])
            (br (toB (D.bool (decide (r < (1 : Int))))) (∃ b, Gv (7 : Nat) [] [A.c (D.bool b)] ∧ Q [A.c (D.bool b)])
              (∃ n b_3,
                Gv (13 : Nat)
                    [A.ag
                        [D.int IntKind.i64 x0, D.int IntKind.i64 y0, D.int IntKind.i64 x1, D.int IntKind.i64 y1, D.int IntKind.i64 th, D.int IntKind.i64 ga,
                          D.sl es, D.int IntKind.i64 sf],
                      A.ag [D.int IntKind.i64 a, D.int IntKind.i64 b], A.ag [D.int IntKind.i64 c, D.int IntKind.i64 d], A.c (D.int IntKind.i64 r)]
                    [A.c (D.int IntKind.i64 n), A.c (D.bool b_3)] ∧
                  (2 : Int) ≠ (0 : Int) ∧
                    I0 [] [D.int IntKind.i64 (0 : Int)] ∧
                      ∀ (n_1 : Int),
                        I0 [] [D.int IntKind.i64 n_1] →
                          br (toB (D.bool (decide (n_1 < (4 : Int)))))
                            (((0 : Int) ≤ n_1 ∧ n_1 < (4 : Int)) ∧
                              ∃ n_2 n_3 n_4 n_5 n_6,
                                cut
                                    (nth []
                                      [[D.int IntKind.i64 a, D.int IntKind.i64 b, D.int IntKind.i64 c, D.int IntKind.i64 d,
                                          D.int IntKind.i64 (IntKind.wrap IntKind.i64 (r - (1 : Int)))],
                                        [D.int IntKind.i64 a, D.int IntKind.i64 b, D.int IntKind.i64 c, D.int IntKind.i64 d,
                                          D.int IntKind.i64 (IntKind.wrap IntKind.i64 (Int.tdiv r (2 : Int)))],
                                        [D.int IntKind.i64 a, D.int IntKind.i64 b, D.int IntKind.i64 a, D.int IntKind.i64 b, D.int IntKind.i64 r],
                                        [D.int IntKind.i64 c, D.int IntKind.i64 d, D.int IntKind.i64 c, D.int IntKind.i64 d, D.int IntKind.i64 r]]
                                      (Int.toNat n_1))
                                    (0 : Nat) (5 : Nat)
                                    [D.int IntKind.i64 n_2, D.int IntKind.i64 n_3, D.int IntKind.i64 n_4, D.int IntKind.i64 n_5, D.int IntKind.i64 n_6] ∧
                                  ∃ n_7 b,
                                    Gv (13 : Nat)
                                        [A.ag
                                            [D.int IntKind.i64 x0, D.int IntKind.i64 y0, D.int IntKind.i64 x1, D.int IntKind.i64 y1, D.int IntKind.i64 th,
                                              D.int IntKind.i64 ga, D.sl es, D.int IntKind.i64 sf],
                                          A.ag [D.int IntKind.i64 n_2, D.int IntKind.i64 n_3], A.ag [D.int IntKind.i64 n_4, D.int IntKind.i64 n_5],
                                          A.c (D.int IntKind.i64 n_6)]
                                        [A.c (D.int IntKind.i64 n_7), A.c (D.bool b)] ∧
                                      br b
                                        (br (toB (D.bool !b_3)) (Q [A.c (D.bool false)])
                                          (br (toB (D.bool (decide (n_7 > n)))) (Q [A.c (D.bool false)])
                                            (I0 [] [D.int IntKind.i64 (IntKind.wrap IntKind.i64 (n_1 + (1 : Int)))] ∧
                                              M0 [D.int IntKind.i64 (IntKind.wrap IntKind.i64 (n_1 + (1 : Int)))] < M0 [D.int IntKind.i64 n_1])))
                                        (I0 [] [D.int IntKind.i64 (IntKind.wrap IntKind.i64 (n_1 + (1 : Int)))] ∧
                                          M0 [D.int IntKind.i64 (IntKind.wrap IntKind.i64 (n_1 + (1 : Int)))] < M0 [D.int IntKind.i64 n_1]))
                            (Q [A.c (D.bool true)]))))) := by kernel_rfl
end Eng
end

section
/- Clamps near a segment: the plain law. -/
namespace Eng
open Go Go.Proofs

def holdsB (c : Cl) (x y : Int) : Bool := decide (c.x0 ≤ x) && (decide (x ≤ c.x1) && (decide (c.y0 ≤ y) && decide (y ≤ c.y1)))
def vz (x y : Int) : V2 := ⟨(x : Rat), (y : Rat)⟩
def corner (c : Cl) : Nat → V2
  | 0 => vz c.x0 c.y0
  | 1 => vz c.x1 c.y0
  | 2 => vz c.x1 c.y1
  | _ => vz c.x0 c.y1
def side (c : Cl) (p q : V2) (i : Nat) : Rat := segs p q (corner c i) (corner c ((i + 1) % 4))
def farL (c : Cl) (p q : V2) : Nat → Rat
  | 0 => side c p q 0
  | i + 1 => mn (side c p q (i + 1)) (farL c p q i)
def farR (c : Cl) (gx gy hx hy : Int) : Rat := bif holdsB c gx gy || holdsB c hx hy then 0 else farL c (vz gx gy) (vz hx hy) 3
def nearB (gx gy hx hy r : Int) (c : Cl) : Bool := decide (0 < r) && decide (farR c gx gy hx hy < (r : Rat) * (r : Rat))

theorem mn_lt {x a t : Rat} : mn x a < t ↔ x < t ∨ a < t := by
  unfold mn; split <;> grind
theorem farL_lt {c : Cl} {p q : V2} {t : Rat} : ∀ {i : Nat}, farL c p q i < t ↔ ∃ j, j ≤ i ∧ side c p q j < t
  | 0 => by
    constructor
    · intro h; exact ⟨0, Nat.le_refl 0, h⟩
    · rintro ⟨j, hj, h⟩
      have : j = 0 := by omega
      subst this; exact h
  | i + 1 => by
    rw [farL, mn_lt, farL_lt (i := i)]
    constructor
    · rintro (h | ⟨j, hj, h⟩)
      · exact ⟨i + 1, by omega, h⟩
      · exact ⟨j, by omega, h⟩
    · rintro ⟨j, hj, h⟩
      by_cases e : j = i + 1
      · subst e; exact .inl h
      · exact .inr ⟨j, by omega, h⟩
theorem sq_pos {r : Int} (h : 0 < r) : (0 : Rat) < (r : Rat) * (r : Rat) := by
  have : (0 : Rat) < (r : Rat) := Rat.intCast_pos.2 h
  exact Rat.mul_pos this this
theorem farR_holds {c : Cl} {gx gy hx hy r : Int} (h : holdsB c gx gy = true ∨ holdsB c hx hy = true) (hr : 0 < r) : nearB gx gy hx hy r c = true := by
  unfold nearB farR
  have : (holdsB c gx gy || holdsB c hx hy) = true := by rcases h with h | h <;> simp [h]
  rw [this, cond_true, decide_eq_true hr, decide_eq_true (sq_pos hr)]; rfl
theorem farR_side {c : Cl} {gx gy hx hy r : Int} (h1 : holdsB c gx gy = false) (h2 : holdsB c hx hy = false) (hr : 0 < r) :
    nearB gx gy hx hy r c = true ↔ ∃ j, j ≤ 3 ∧ side c (vz gx gy) (vz hx hy) j < (r : Rat) * (r : Rat) := by
  unfold nearB farR
  rw [h1, h2, decide_eq_true hr, Bool.true_and, decide_eq_true_eq]
  exact farL_lt

/- turned round, and one end -/
theorem toSeg_symm (a b p : V2) : toSeg b a p = toSeg a b p := by
  obtain ⟨a1, a2⟩ := a
  obtain ⟨b1, b2⟩ := b
  obtain ⟨p1, p2⟩ := p
  have hn1 := sq_nonneg (b1 - a1)
  have hn2 := sq_nonneg (b2 - a2)
  have e1 : dotV (wayV ⟨b1, b2⟩ ⟨a1, a2⟩) (wayV ⟨b1, b2⟩ ⟨a1, a2⟩) = dotV (wayV ⟨a1, a2⟩ ⟨b1, b2⟩) (wayV ⟨a1, a2⟩ ⟨b1, b2⟩) := by simp only [dotV, wayV]; grind
  have e2 : dotV (wayV ⟨b1, b2⟩ ⟨a1, a2⟩) (wayV ⟨b1, b2⟩ ⟨p1, p2⟩) = dotV (wayV ⟨a1, a2⟩ ⟨b1, b2⟩) (wayV ⟨a1, a2⟩ ⟨b1, b2⟩) - dotV (wayV ⟨a1, a2⟩ ⟨b1, b2⟩) (wayV ⟨a1, a2⟩ ⟨p1, p2⟩) := by simp only [dotV, wayV]; grind
  have e3 : crossV (wayV ⟨b1, b2⟩ ⟨a1, a2⟩) (wayV ⟨b1, b2⟩ ⟨p1, p2⟩) * crossV (wayV ⟨b1, b2⟩ ⟨a1, a2⟩) (wayV ⟨b1, b2⟩ ⟨p1, p2⟩) = crossV (wayV ⟨a1, a2⟩ ⟨b1, b2⟩) (wayV ⟨a1, a2⟩ ⟨p1, p2⟩) * crossV (wayV ⟨a1, a2⟩ ⟨b1, b2⟩) (wayV ⟨a1, a2⟩ ⟨p1, p2⟩) := by simp only [crossV, wayV]; grind
  have hn : dotV (wayV ⟨a1, a2⟩ ⟨b1, b2⟩) (wayV ⟨a1, a2⟩ ⟨b1, b2⟩) = (b1 - a1) * (b1 - a1) + (b2 - a2) * (b2 - a2) := rfl
  have e4 : dotV (wayV ⟨b1, b2⟩ ⟨p1, p2⟩) (wayV ⟨b1, b2⟩ ⟨p1, p2⟩) = dotV (wayV ⟨a1, a2⟩ ⟨p1, p2⟩) (wayV ⟨a1, a2⟩ ⟨p1, p2⟩) - 2 * dotV (wayV ⟨a1, a2⟩ ⟨b1, b2⟩) (wayV ⟨a1, a2⟩ ⟨p1, p2⟩) + dotV (wayV ⟨a1, a2⟩ ⟨b1, b2⟩) (wayV ⟨a1, a2⟩ ⟨b1, b2⟩) := by simp only [dotV, wayV]; grind
  unfold toSeg
  rw [e1, e2, e3, e4]
  generalize dotV (wayV ⟨a1, a2⟩ ⟨b1, b2⟩) (wayV ⟨a1, a2⟩ ⟨b1, b2⟩) = n at *
  generalize dotV (wayV ⟨a1, a2⟩ ⟨b1, b2⟩) (wayV ⟨a1, a2⟩ ⟨p1, p2⟩) = t at *
  generalize dotV (wayV ⟨a1, a2⟩ ⟨p1, p2⟩) (wayV ⟨a1, a2⟩ ⟨p1, p2⟩) = q at *
  have hn0 : 0 ≤ n := by rw [hn]; grind
  by_cases c1 : t ≤ 0
  · by_cases c2 : n - t ≤ 0
    · rw [if_pos c2, if_pos c1]; grind
    · rw [if_neg c2, if_pos (by grind), if_pos c1]
  · by_cases c2 : n - t ≤ 0
    · rw [if_pos c2, if_neg c1, if_pos (by grind)]
    · rw [if_neg c2, if_neg (by grind), if_neg c1, if_neg (by grind)]
end Eng
end

section
/- Clamps near a segment: growing. -/
namespace Eng
open Go Go.Proofs

theorem sgR_neg (x : Rat) : sgR (-x) = - sgR x := by
  unfold sgR sgn
  rw [Rat.neg_num]
  split
  · split
    · omega
    · split
      · rfl
      · omega
  · split
    · split <;> omega
    · split
      · omega
      · split <;> omega
theorem sgR_zero : sgR 0 = 0 := rfl
theorem cross_turn (a b c : V2) : crossV (wayV b a) (wayV b c) = -crossV (wayV a b) (wayV a c) := by
  obtain ⟨a1, a2⟩ := a
  obtain ⟨b1, b2⟩ := b
  obtain ⟨c1, c2⟩ := c
  simp only [crossV, wayV]; grind
theorem crossB_symm (a b c d : V2) : crossB b a c d = crossB a b c d := by
  unfold crossB
  rw [cross_turn a b c, cross_turn a b d, sgR_neg, sgR_neg, Int.neg_mul_neg, Int.mul_comm (sgR (crossV (wayV c d) (wayV c b)))]
theorem mn_swap (x y z : Rat) : mn x (mn y z) = mn y (mn x z) := by
  unfold mn
  by_cases h1 : y < z <;> by_cases h2 : x < z <;> by_cases h3 : x < y <;> by_cases h4 : y < x <;> simp only [h1, h2, h3, h4, if_true, if_false] <;> grind
theorem segs_symm (a b c d : V2) : segs b a c d = segs a b c d := by
  unfold segs
  rw [crossB_symm, toSeg_symm a b c, toSeg_symm a b d, mn_swap (toSeg c d a)]

theorem div_nonneg' {x n : Rat} (hx : 0 ≤ x) (hn : 0 < n) : 0 ≤ x / n := by
  rw [Rat.div_def]
  exact Rat.mul_nonneg hx (Rat.le_of_lt (Rat.inv_pos.2 hn))
theorem div_le' {x n q : Rat} (h : x ≤ q * n) (hn : 0 < n) : x / n ≤ q := by
  have h1 : 0 ≤ (q * n - x) / n := div_nonneg' (by grind) hn
  have h2 : (q * n - x) / n = q - x / n := by
    have : n ≠ 0 := by grind
    grind
  rw [h2] at h1
  grind
theorem toSeg_nonneg (a b p : V2) : 0 ≤ toSeg a b p := by
  unfold toSeg
  split
  · exact dot_nonneg _
  · split
    · exact dot_nonneg _
    · rename_i h1 h2
      exact div_nonneg' (sq_nonneg _) (by grind)
theorem mn_nonneg {x y : Rat} (hx : 0 ≤ x) (hy : 0 ≤ y) : 0 ≤ mn x y := by unfold mn; split <;> assumption
theorem mn_le {x y x' y' : Rat} (hx : x ≤ x') (hy : y ≤ y') : mn x y ≤ mn x' y' := by
  unfold mn; split <;> split <;> grind
theorem segs_nonneg (a b c d : V2) : 0 ≤ segs a b c d := by
  unfold segs
  cases crossB a b c d
  · exact mn_nonneg (toSeg_nonneg _ _ _) (mn_nonneg (toSeg_nonneg _ _ _) (mn_nonneg (toSeg_nonneg _ _ _) (toSeg_nonneg _ _ _)))
  · exact Rat.le_refl
theorem toSeg_one (a p : V2) : toSeg a a p = dotV (wayV a p) (wayV a p) := by
  have : dotV (wayV a a) (wayV a p) = 0 := by
    obtain ⟨a1, a2⟩ := a
    simp only [dotV, wayV]; grind
  unfold toSeg
  rw [this, if_pos Rat.le_refl]
theorem crossB_one (a c d : V2) : crossB a a c d = false := by
  have : crossV (wayV a a) (wayV a c) = 0 := by
    obtain ⟨a1, a2⟩ := a
    simp only [crossV, wayV]; grind
  unfold crossB
  rw [this, sgR_zero, Int.zero_mul]; rfl
theorem toSeg_le (a b p : V2) : toSeg a b p ≤ toSeg a a p := by
  rw [toSeg_one]
  obtain ⟨a1, a2⟩ := a
  obtain ⟨b1, b2⟩ := b
  obtain ⟨p1, p2⟩ := p
  have e4 : dotV (wayV ⟨b1, b2⟩ ⟨p1, p2⟩) (wayV ⟨b1, b2⟩ ⟨p1, p2⟩) = dotV (wayV ⟨a1, a2⟩ ⟨p1, p2⟩) (wayV ⟨a1, a2⟩ ⟨p1, p2⟩) - 2 * dotV (wayV ⟨a1, a2⟩ ⟨b1, b2⟩) (wayV ⟨a1, a2⟩ ⟨p1, p2⟩) + dotV (wayV ⟨a1, a2⟩ ⟨b1, b2⟩) (wayV ⟨a1, a2⟩ ⟨b1, b2⟩) := by simp only [dotV, wayV]; grind
  have e5 : crossV (wayV ⟨a1, a2⟩ ⟨b1, b2⟩) (wayV ⟨a1, a2⟩ ⟨p1, p2⟩) * crossV (wayV ⟨a1, a2⟩ ⟨b1, b2⟩) (wayV ⟨a1, a2⟩ ⟨p1, p2⟩) = dotV (wayV ⟨a1, a2⟩ ⟨p1, p2⟩) (wayV ⟨a1, a2⟩ ⟨p1, p2⟩) * dotV (wayV ⟨a1, a2⟩ ⟨b1, b2⟩) (wayV ⟨a1, a2⟩ ⟨b1, b2⟩) - dotV (wayV ⟨a1, a2⟩ ⟨b1, b2⟩) (wayV ⟨a1, a2⟩ ⟨p1, p2⟩) * dotV (wayV ⟨a1, a2⟩ ⟨b1, b2⟩) (wayV ⟨a1, a2⟩ ⟨p1, p2⟩) := by simp only [dotV, crossV, wayV]; grind
  unfold toSeg
  rw [e4, e5]
  generalize dotV (wayV ⟨a1, a2⟩ ⟨b1, b2⟩) (wayV ⟨a1, a2⟩ ⟨b1, b2⟩) = n at *
  generalize dotV (wayV ⟨a1, a2⟩ ⟨b1, b2⟩) (wayV ⟨a1, a2⟩ ⟨p1, p2⟩) = t at *
  generalize dotV (wayV ⟨a1, a2⟩ ⟨p1, p2⟩) (wayV ⟨a1, a2⟩ ⟨p1, p2⟩) = q at *
  have ht := sq_nonneg t
  split
  · exact Rat.le_refl
  · split
    · grind
    · exact div_le' (by grind) (by grind)
theorem mn_same (x z : Rat) : mn x (mn x z) = mn x z := by
  unfold mn; by_cases h : x < z
  · simp [h]
  · simp [h]
theorem segs_le (a b c d : V2) : segs a b c d ≤ segs a a c d := by
  have h0 := segs_nonneg a a c d
  unfold segs at h0 ⊢
  rw [crossB_one, cond_false] at h0 ⊢
  cases crossB a b c d
  · rw [cond_false]
    have e : mn (toSeg c d a) (mn (toSeg c d a) (mn (toSeg a a d) (toSeg a a c))) = mn (toSeg c d a) (mn (toSeg a a d) (toSeg a a c)) := mn_same _ _
    rw [e, mn]
    have h2 := mn_le (x := toSeg c d a) (Rat.le_refl) (mn_le (toSeg_le a b d) (toSeg_le a b c))
    split <;> grind
  · exact h0
theorem segs_le' (a b c d : V2) : segs a b c d ≤ segs b b c d := by
  rw [← segs_symm]; exact segs_le b a c d

theorem nearB_symm (gx gy hx hy r : Int) (c : Cl) : nearB hx hy gx gy r c = nearB gx gy hx hy r c := by
  have hs : ∀ i, side c (vz hx hy) (vz gx gy) i = side c (vz gx gy) (vz hx hy) i := fun i => segs_symm _ _ _ _
  have hf : ∀ i, farL c (vz hx hy) (vz gx gy) i = farL c (vz gx gy) (vz hx hy) i := by
    intro i; induction i with
    | zero => exact hs 0
    | succ i ih => rw [farL, farL, hs, ih]
  unfold nearB farR
  rw [hf, Bool.or_comm (holdsB c hx hy)]
theorem nearB_ends {gx gy hx hy r : Int} {c : Cl} (h : nearB gx gy gx gy r c = true) : nearB gx gy hx hy r c = true := by
  have hr : 0 < r := by unfold nearB at h; rw [Bool.and_eq_true, decide_eq_true_eq] at h; exact h.1
  by_cases h1 : holdsB c gx gy = true
  · exact farR_holds (.inl h1) hr
  · by_cases h2 : holdsB c hx hy = true
    · exact farR_holds (.inr h2) hr
    · rw [Bool.not_eq_true] at h1 h2
      obtain ⟨j, hj, hs⟩ := (farR_side h1 h1 hr).1 h
      refine (farR_side h1 h2 hr).2 ⟨j, hj, ?_⟩
      have := segs_le (vz gx gy) (vz hx hy) (corner c j) (corner c ((j + 1) % 4))
      unfold side at hs ⊢
      grind
theorem nearB_more {gx gy hx hy r s : Int} {c : Cl} (h : nearB gx gy hx hy r c = true) (hrs : r ≤ s) : nearB gx gy hx hy s c = true := by
  unfold nearB at h ⊢
  rw [Bool.and_eq_true, decide_eq_true_eq, decide_eq_true_eq] at h ⊢
  refine ⟨by omega, ?_⟩
  have h1 : (r : Rat) ≤ (s : Rat) := Rat.intCast_le_intCast.2 hrs
  have h0 : (0 : Rat) < (r : Rat) := Rat.intCast_pos.2 h.1
  have h2 : (0 : Rat) ≤ ((s : Rat) - (r : Rat)) * ((s : Rat) + (r : Rat)) := Rat.mul_nonneg (by grind) (by grind)
  have := h.2
  grind
end Eng
end

section
/- The contracts of Highest and of what it calls, the program's and the reference's. -/
namespace Eng
open Go Go.Proofs
set_option maxRecDepth 100000

def encC (c : Cl) : A := .ag (clR c)
def encG (x y : Int) : A := .ag [.int .i64 x, .int .i64 y]
def sm8 (n : Int) : Prop := n.natAbs ≤ 100000000
structure SmC (c : Cl) : Prop where
  x0 : sm8 c.x0
  y0 : sm8 c.y0
  x1 : sm8 c.x1
  y1 : sm8 c.y1
theorem vz_sv {x y : Int} (hx : sm8 x) (hy : sm8 y) : Sv 8 (vz x y) := ⟨Sz.int hx, Sz.int hy⟩
theorem sm8.lo {x : Int} (h : sm8 x) : -9223372036854775808 ≤ x := by unfold sm8 at h; omega
theorem sm8.hi {x : Int} (h : sm8 x) : x < 9223372036854775808 := by unfold sm8 at h; omega
theorem corner_sv {c : Cl} (h : SmC c) : ∀ i, Sv 8 (corner c i)
  | 0 => vz_sv h.x0 h.y0
  | 1 => vz_sv h.x1 h.y0
  | 2 => vz_sv h.x1 h.y1
  | _ + 3 => vz_sv h.x0 h.y1
theorem side_sz {c : Cl} (h : SmC c) {p q : V2} (hp : Sv 8 p) (hq : Sv 8 q) (i : Nat) : Sz 207 (side c p q i) := Sz.segs hp hq (corner_sv h _) (corner_sv h _)
theorem farL_sz {c : Cl} (h : SmC c) {p q : V2} (hp : Sv 8 p) (hq : Sv 8 q) : ∀ i : Nat, Sz 207 (farL c p q i)
  | 0 => side_sz h hp hq 0
  | i + 1 => (side_sz h hp hq (i + 1)).mn (farL_sz h hp hq i)

def cV (v : V2) : List D := cR v.x ++ cR v.y
theorem nth4_cV {c : Cl} : ∀ {i : Nat}, i < 4 → nth [] [cV (corner c 0), cV (corner c 1), cV (corner c 2), cV (corner c 3)] i = cV (corner c i)
  | 0, _ => rfl
  | 1, _ => rfl
  | 2, _ => rfl
  | 3, _ => rfl
theorem cut_cV {v : V2} : cut (cV v) 0 8 (cV v) := ⟨rfl, Nat.le_refl 8⟩
theorem next4 {i : Nat} (h : i < 4) : Int.tmod (IntKind.wrap .i64 ((i : Int) + 1)) 4 = (((i + 1) % 4 : Nat) : Int) := by
  rw [i64w (by omega) (by omega), Int.tmod_eq_emod_of_nonneg (by omega)]; omega

theorem pholds_ok (c : Cl) (x y : Int) : Gives CC 41 [encC c, encG x y] [.c (.bool (holdsB c x y))] := by
  obtain ⟨c0, c1, c2, c3, c4⟩ := c
  refine wpF_ok (anns := fun _ => ⟨[], [], fun _ _ => True, fun _ => 0⟩) mixedT Tryz.func41 ?_
  show wpF CC _ _ Tryz.f41 [.ag [.int .i64 c0, .int .i64 c1, .int .i64 c2, .int .i64 c3, .int .i64 c4], .ag [.int .i64 x, .int .i64 y]] _
  rw [vc_pholds]
  unfold holdsB
  refine brd (fun h1 => ?_) (fun h1 => by simp [h1])
  refine brd (fun h2 => ?_) (fun h2 => by simp [h1, h2])
  refine brd (fun h3 => by simp [h1, h2, h3]) (fun h3 => by simp [h1, h2, h3])
theorem einside_ok (c : Cl) (x y : Int) : Gives CC 49 [encC c, encG x y] [.c (.bool (holdsB c x y))] := by
  obtain ⟨c0, c1, c2, c3, c4⟩ := c
  refine wpF_ok (anns := fun _ => ⟨[], [], fun _ _ => True, fun _ => 0⟩) mixedT Tryz.func49 ?_
  show wpF CC _ _ Tryz.f49 [.ag [.int .i64 c0, .int .i64 c1, .int .i64 c2, .int .i64 c3, .int .i64 c4], .ag [.int .i64 x, .int .i64 y]] _
  rw [vc_einside]
  unfold holdsB
  refine brd (fun h1 => ?_) (fun h1 => by simp [h1])
  refine brd (fun h2 => ?_) (fun h2 => by simp [h1, h2])
  refine brd (fun h3 => by simp [h1, h2, h3]) (fun h3 => by simp [h1, h2, h3])
theorem pvec_ok {x y : Int} (hx : sm8 x) (hy : sm8 y) : Gives CC 44 [.c (.int .i64 x), .c (.int .i64 y)] [encV (vz x y)] := by
  refine wpF_ok (anns := fun _ => ⟨[], [], fun _ _ => True, fun _ => 0⟩) mixedT Tryz.func44 ?_
  rw [vc_pvec]
  exact ⟨_, _, _, _, rFromInt64_ok hx.lo hx.hi, _, _, _, _, rFromInt64_ok hy.lo hy.hi, rfl⟩
theorem evec_ok {x y : Int} (hx : sm8 x) (hy : sm8 y) : Gives CC 50 [.c (.int .i64 x), .c (.int .i64 y)] [encV (vz x y)] := by
  refine wpF_ok (anns := fun _ => ⟨[], [], fun _ _ => True, fun _ => 0⟩) mixedT Tryz.func50 ?_
  rw [vc_evec]
  exact ⟨_, _, _, _, uFromInt64_ok hx.lo hx.hi, _, _, _, _, uFromInt64_ok hy.lo hy.hi, rfl⟩

theorem pnear_ok {c : Cl} {gx gy hx hy r : Int} (hc : SmC c) (h1 : sm8 gx) (h2 : sm8 gy) (h3 : sm8 hx) (h4 : sm8 hy) (hr : r ≤ 40000000) :
    Gives CC 31 [encC c, encG gx gy, encG hx hy, .c (.int .i64 r)] [.c (.bool (nearB gx gy hx hy r c))] := by
  have kh1 := pholds_ok c gx gy
  have kh2 := pholds_ok c hx hy
  have z0 := corner_sv hc
  have zg := vz_sv h1 h2
  have zh := vz_sv h3 h4
  have hside : ∀ i, Gives CC 46 [encV (vz gx gy), encV (vz hx hy), encV (corner c i), encV (corner c ((i + 1) % 4))] [encR (side c (vz gx gy) (vz hx hy) i)] := fun i => dSegments_ok zg zh (z0 i) (z0 _)
  have hsz := side_sz hc zg zh
  have hnth := fun i (h : i < 4) => nth4_cV (c := c) h
  have hpos := fun h => farR_holds (c := c) (gx := gx) (gy := gy) (hx := hx) (hy := hy) (r := r) h
  have hsd := farR_side (c := c) (gx := gx) (gy := gy) (hx := hx) (hy := hy) (r := r)
  refine wpF_ok (anns := fun _ => ⟨[.slot 63 (.int .i64 0)], [], fun _ ds => ∃ i : Nat, i ≤ 4 ∧ ds = [.int .i64 (i : Int)] ∧ ∀ j, j < i → ¬ side c (vz gx gy) (vz hx hy) j < (r : Rat) * (r : Rat), fun ds => (4 - toI (nth .undef ds 0)).toNat⟩) mixedT Tryz.func31 ?_
  obtain ⟨c0, c1, c2, c3, c4⟩ := c
  show wpF CC _ _ Tryz.f31 [.ag [.int .i64 c0, .int .i64 c1, .int .i64 c2, .int .i64 c3, .int .i64 c4], .ag [.int .i64 gx, .int .i64 gy], .ag [.int .i64 hx, .int .i64 hy], .c (.int .i64 r)] _
  rw [vc_pnear]
  refine brd (fun hr0 => ?_) (fun hr0 => ?_)
  · unfold nearB; rw [decide_eq_false (by omega), Bool.false_and]
  · have hr0 : 0 < r := by omega
    have hrs : sm8 r := by unfold sm8; omega
    refine ⟨_, kh1, brb' (fun hh => ?_) (fun hh1 => ?_)⟩
    · rw [hpos (.inl hh) hr0]
    · refine ⟨_, kh2, brb' (fun hh => ?_) (fun hh2 => ?_)⟩
      · rw [hpos (.inr hh) hr0]
      · have hz : Sz 8 (r : Rat) := Sz.int hrs
        have hsd := hsd hh1 hh2 hr0
        refine ⟨_, _, _, _, rFromInt64_ok hrs.lo hrs.hi, _, _, _, _, rMul_ok divOk (hz.sr (by omega)) (hz.sr (by omega)), _, _, _, _, _, _, _, _, pvec_ok h1 h2, _, _, _, _, _, _, _, _, pvec_ok h3 h4,
          _, _, _, _, _, _, _, _, pvec_ok hc.x0 hc.y0, _, _, _, _, _, _, _, _, pvec_ok hc.x1 hc.y0, _, _, _, _, _, _, _, _, pvec_ok hc.x1 hc.y1, _, _, _, _, _, _, _, _, pvec_ok hc.x0 hc.y1, ⟨0, by omega, rfl, fun j hj => by omega⟩, ?_⟩
        rintro n ⟨i, hi, he, hno⟩
        simp only [List.cons.injEq, D.int.injEq, true_and, and_true] at he
        subst he
        refine brd (fun h9 => ?_) (fun h9 => ?_)
        · have hi4 : i < 4 := by omega
          have hcut1 : cut (nth [] [cV (corner ⟨c0, c1, c2, c3, c4⟩ 0), cV (corner ⟨c0, c1, c2, c3, c4⟩ 1), cV (corner ⟨c0, c1, c2, c3, c4⟩ 2), cV (corner ⟨c0, c1, c2, c3, c4⟩ 3)] ((i : Int)).toNat) 0 8 (cV (corner ⟨c0, c1, c2, c3, c4⟩ i)) := by
            rw [Int.toNat_natCast, hnth i hi4]; exact cut_cV
          have hcut2 : cut (nth [] [cV (corner ⟨c0, c1, c2, c3, c4⟩ 0), cV (corner ⟨c0, c1, c2, c3, c4⟩ 1), cV (corner ⟨c0, c1, c2, c3, c4⟩ 2), cV (corner ⟨c0, c1, c2, c3, c4⟩ 3)] (Int.tmod (IntKind.wrap .i64 ((i : Int) + 1)) 4).toNat) 0 8 (cV (corner ⟨c0, c1, c2, c3, c4⟩ ((i + 1) % 4))) := by
            rw [next4 hi4, Int.toNat_natCast, hnth _ (Nat.mod_lt _ (by omega))]; exact cut_cV
          have hb : (0 : Int) ≤ Int.tmod (IntKind.wrap .i64 ((i : Int) + 1)) 4 ∧ Int.tmod (IntKind.wrap .i64 ((i : Int) + 1)) 4 < 4 := by
            rw [next4 hi4]; omega
          have hw : IntKind.wrap .i64 ((i : Int) + 1) = ((i + 1 : Nat) : Int) := by rw [i64w (by omega) (by omega)]; rfl
          refine ⟨⟨by omega, by omega⟩, _, _, _, _, _, _, _, _, hcut1, by omega, hb, _, _, _, _, _, _, _, _, hcut2, _, _, _, _, hside i, _, rCmp_ok ((hsz i).sr (by omega)) ((hz.mul hz).sr (by omega)), ?_⟩
          refine brd (fun h5 => ?_) (fun h5 => ?_)
          · have := cmpR_lt.1 h5
            rw [hsd.2 ⟨i, by omega, this⟩]
          · rw [hw]
            refine ⟨⟨i + 1, by omega, rfl, fun j hj => ?_⟩, by simp only [nth, toI]; omega⟩
            by_cases hji : j = i
            · subst hji; exact fun h6 => h5 (cmpR_lt.2 h6)
            · exact hno j (by omega)
        · have : i = 4 := by omega
          subst this
          have : nearB gx gy hx hy r ⟨c0, c1, c2, c3, c4⟩ = false := by
            rw [← Bool.not_eq_true]
            intro h; obtain ⟨j, hj, h⟩ := hsd.1 h
            exact hno j (by omega) h
          rw [this]
end Eng
end

section
/- Highest, and the laws about it. -/
namespace Eng
open Go Go.Proofs
set_option maxRecDepth 100000

/-- what lies in the place of the least distance so far -/
def farD (c : Cl) (p q : V2) : Nat → List D
  | 0 => [D.bool false, D.sl [], D.bool false, D.sl []]
  | i + 1 => cR (farL c p q i)

theorem eFar_ok {c : Cl} {gx gy hx hy : Int} (hc : SmC c) (h1 : sm8 gx) (h2 : sm8 gy) (h3 : sm8 hx) (h4 : sm8 hy) :
    Gives CC 33 [encC c, encG gx gy, encG hx hy] [encR (farR c gx gy hx hy)] := by
  have kh1 := einside_ok c gx gy
  have kh2 := einside_ok c hx hy
  have z0 := corner_sv hc
  have zg := vz_sv h1 h2
  have zh := vz_sv h3 h4
  have hside : ∀ i, Gives CC 51 [encV (vz gx gy), encV (vz hx hy), encV (corner c i), encV (corner c ((i + 1) % 4))] [encR (side c (vz gx gy) (vz hx hy) i)] := fun i => eSegments_ok partsOk zg zh (z0 i) (z0 _)
  have hsz := side_sz hc zg zh
  have hfz := farL_sz hc zg zh
  have hnth := fun i (h : i < 4) => nth4_cV (c := c) h
  refine wpF_ok (anns := fun _ => ⟨[.slot 9 (.int .i64 0), .box 8 [.bool false, .slice none 0 0, .bool false, .slice none 0 0]], [], fun _ ds => ∃ i : Nat, i ≤ 4 ∧ ds = .int .i64 (i : Int) :: farD c (vz gx gy) (vz hx hy) i, fun ds => (4 - toI (nth .undef ds 0)).toNat⟩) mixedT Tryz.func33 ?_
  unfold farR
  obtain ⟨c0, c1, c2, c3, c4⟩ := c
  show wpF CC _ _ Tryz.f33 [.ag [.int .i64 c0, .int .i64 c1, .int .i64 c2, .int .i64 c3, .int .i64 c4], .ag [.int .i64 gx, .int .i64 gy], .ag [.int .i64 hx, .int .i64 hy]] _
  rw [vc_eFar]
  refine ⟨_, kh1, brb' (fun hh => ?_) (fun hh1 => ?_)⟩
  · rw [hh, Bool.true_or, cond_true]
    exact ⟨_, _, _, _, uFromInt64_ok (by omega) (by omega), rfl⟩
  refine ⟨_, kh2, brb' (fun hh => ?_) (fun hh2 => ?_)⟩
  · rw [hh, Bool.or_true, cond_true]
    exact ⟨_, _, _, _, uFromInt64_ok (by omega) (by omega), rfl⟩
  rw [hh1, hh2, Bool.or_false, cond_false]
  refine ⟨_, _, _, _, _, _, _, _, evec_ok hc.x0 hc.y0, _, _, _, _, _, _, _, _, evec_ok hc.x1 hc.y0, _, _, _, _, _, _, _, _, evec_ok hc.x1 hc.y1, _, _, _, _, _, _, _, _, evec_ok hc.x0 hc.y1, ⟨0, by omega, rfl⟩, ?_⟩
  rintro n p es q fs ⟨i, hi, he0⟩
  obtain ⟨rfl, he⟩ := cR_inj he0
  clear he0
  refine brd (fun h9 => ?_) (fun h9 => ?_)
  · have hi4 : i < 4 := by omega
    have hcut1 : cut (nth [] [cV (corner ⟨c0, c1, c2, c3, c4⟩ 0), cV (corner ⟨c0, c1, c2, c3, c4⟩ 1), cV (corner ⟨c0, c1, c2, c3, c4⟩ 2), cV (corner ⟨c0, c1, c2, c3, c4⟩ 3)] ((i : Int)).toNat) 0 8 (cV (corner ⟨c0, c1, c2, c3, c4⟩ i)) := by
      rw [Int.toNat_natCast, hnth i hi4]; exact cut_cV
    have hcut2 : cut (nth [] [cV (corner ⟨c0, c1, c2, c3, c4⟩ 0), cV (corner ⟨c0, c1, c2, c3, c4⟩ 1), cV (corner ⟨c0, c1, c2, c3, c4⟩ 2), cV (corner ⟨c0, c1, c2, c3, c4⟩ 3)] (Int.tmod (IntKind.wrap .i64 ((i : Int) + 1)) 4).toNat) 0 8 (cV (corner ⟨c0, c1, c2, c3, c4⟩ ((i + 1) % 4))) := by
      rw [next4 hi4, Int.toNat_natCast, hnth _ (Nat.mod_lt _ (by omega))]; exact cut_cV
    have hb : (0 : Int) ≤ Int.tmod (IntKind.wrap .i64 ((i : Int) + 1)) 4 ∧ Int.tmod (IntKind.wrap .i64 ((i : Int) + 1)) 4 < 4 := by
      rw [next4 hi4]; omega
    have hw : IntKind.wrap .i64 ((i : Int) + 1) = ((i + 1 : Nat) : Int) := by rw [i64w (by omega) (by omega)]; rfl
    refine ⟨_, _, _, _, _, _, _, _, evec_ok h1 h2, _, _, _, _, _, _, _, _, evec_ok h3 h4, ⟨by omega, by omega⟩, _, _, _, _, _, _, _, _, hcut1, by omega, hb, _, _, _, _, _, _, _, _, hcut2, _, _, _, _, hside i, ?_⟩
    rw [hw]
    refine brb (fun h5 => ?_) (fun h5 => ?_)
    · have : i = 0 := by simp at h5; omega
      subst this
      exact ⟨⟨1, by omega, rfl⟩, by simp only [nth, toI]; omega⟩
    · obtain ⟨j, rfl⟩ : ∃ j, i = j + 1 := ⟨i - 1, by simp at h5; omega⟩
      rw [show (A.ag [D.bool p, D.sl es, D.bool q, D.sl fs]) = encR (farL ⟨c0, c1, c2, c3, c4⟩ (vz gx gy) (vz hx hy) j) from congrArg A.ag he]
      refine ⟨_, uCmp_ok ((hsz (j + 1)).sr (by omega)) ((hfz j).sr (by omega)), brd (fun h6 => ?_) (fun h6 => ?_)⟩
      · refine ⟨⟨j + 2, by omega, ?_⟩, by simp only [nth, toI]; omega⟩
        show _ = D.int .i64 ((j + 1 + 1 : Nat) : Int) :: cR (farL ⟨c0, c1, c2, c3, c4⟩ (vz gx gy) (vz hx hy) (j + 1))
        rw [farL, mn, if_pos (cmpR_lt.1 h6)]; rfl
      · refine ⟨⟨j + 2, by omega, ?_⟩, by simp only [nth, toI]; omega⟩
        show _ = D.int .i64 ((j + 1 + 1 : Nat) : Int) :: cR (farL ⟨c0, c1, c2, c3, c4⟩ (vz gx gy) (vz hx hy) (j + 1))
        rw [farL, mn, if_neg (fun h7 => h6 (cmpR_lt.2 h7)), he]; rfl
  · have : i = 4 := by omega
    subst this
    show [A.ag [D.bool p, D.sl es, D.bool q, D.sl fs]] = _
    rw [he]; rfl

/- Highest -/
def hiStep (f : Cl → Bool) (s : Int × Bool) (c : Cl) : Int × Bool := bif f c && (!s.2 || decide (c.top > s.1)) then (c.top, true) else s
def hiT (f : Cl → Bool) (l : List Cl) : Int × Bool := l.foldl (hiStep f) (0, false)
theorem hiT_succ (f : Cl → Bool) (l : List Cl) (k : Nat) (h : k < l.length) : hiT f (l.take (k + 1)) = hiStep f (hiT f (l.take k)) l[k] := by
  unfold hiT
  rw [List.take_succ_eq_append_getElem h, List.foldl_append]; rfl

theorem pHighest_ok (s : Su) {gx gy hx hy r : Int} (hl : s.cl.length ≤ 1000000000) (hs : ∀ c ∈ s.cl, SmC c) (h1 : sm8 gx) (h2 : sm8 gy) (h3 : sm8 hx) (h4 : sm8 hy) (hr : r ≤ 40000000) :
    Gives CC 13 [encS s, encG gx gy, encG hx hy, .c (.int .i64 r)] [.c (.int .i64 (hiT (nearB gx gy hx hy r) s.cl).1), .c (.bool (hiT (nearB gx gy hx hy r) s.cl).2)] := by
  obtain ⟨x0, y0, x1, y1, th, ga, cl, sf⟩ := s
  refine wpF_ok (anns := fun _ => ⟨[.slot 17 (.int .i64 0), .slot 10 (.int .i64 0), .slot 11 (.bool false)], [], fun _ ds => ∃ k : Nat, k ≤ cl.length ∧ ds = [.int .i64 (k : Int), .int .i64 (hiT (nearB gx gy hx hy r) (cl.take k)).1, .bool (hiT (nearB gx gy hx hy r) (cl.take k)).2], fun ds => (cl.length - toI (nth .undef ds 0)).toNat⟩) mixedT Tryz.func13 ?_
  simp only at hl hs
  simp only [encS]
  show wpF CC _ _ Tryz.f13 [.ag [.int .i64 x0, .int .i64 y0, .int .i64 x1, .int .i64 y1, .int .i64 th, .int .i64 ga, .sl (clRs cl), .int .i64 sf], .ag [.int .i64 gx, .int .i64 gy], .ag [.int .i64 hx, .int .i64 hy], .c (.int .i64 r)] _
  rw [vc_pHighest]
  simp only [Int.ofNat_eq_natCast, clRs_length]
  refine ⟨⟨0, by omega, rfl⟩, ?_⟩
  rintro n n_1 b ⟨k, hk, he⟩
  simp only [List.cons.injEq, D.bool.injEq, D.int.injEq, true_and, and_true] at he
  obtain ⟨rfl, rfl, rfl⟩ := he
  refine brd (fun h => ?_) (fun h => ?_)
  · have hkl : k < cl.length := by omega
    have hw : IntKind.wrap .i64 ((k : Int) + 1) = ((k + 1 : Nat) : Int) := by rw [i64w (by omega) (by omega)]; omega
    have hst := hiT_succ (nearB gx gy hx hy r) cl k hkl
    have hcl := hs cl[k] (List.getElem_mem hkl)
    have hn := pnear_ok (r := r) hcl h1 h2 h3 h4 hr
    rw [hw, Int.toNat_natCast]
    refine ⟨⟨by omega, by omega, len_cl hkl⟩, _, _, _, _, _, cut_cl hkl, _, hn, brb' (fun h5 => ?_) (fun h5 => ?_)⟩
    · refine brb (fun h6 => ?_) (fun h6 => brd (fun h7 => ?_) (fun h7 => ?_))
      · refine ⟨⟨k + 1, by omega, ?_⟩, by simp only [nth, toI]; omega⟩
        rw [hst, hiStep, h5, h6, Bool.true_or, Bool.true_and, cond_true]
      · refine ⟨⟨k + 1, by omega, ?_⟩, by simp only [nth, toI]; omega⟩
        rw [hst, hiStep, h5, decide_eq_true h7, Bool.or_true, Bool.true_and, cond_true]
      · refine ⟨⟨k + 1, by omega, ?_⟩, by simp only [nth, toI]; omega⟩
        rw [hst, hiStep, h5, h6, decide_eq_false h7, Bool.or_false, Bool.true_and, cond_false]
    · refine ⟨⟨k + 1, by omega, ?_⟩, by simp only [nth, toI]; omega⟩
      rw [hst, hiStep, h5, Bool.false_and, cond_false]
  · have hkl : k = cl.length := by omega
    subst hkl
    rw [List.take_length]
end Eng
end

section
/- The laws about Highest. -/
namespace Eng
open Go Go.Proofs
set_option maxRecDepth 100000

theorem eHighest_ok (s : Su) {gx gy hx hy r : Int} (hl : s.cl.length ≤ 1000000000) (hs : ∀ c ∈ s.cl, SmC c) (h1 : sm8 gx) (h2 : sm8 gy) (h3 : sm8 hx) (h4 : sm8 hy) (hr : r ≤ 40000000) :
    Gives CC 14 [encS s, encG gx gy, encG hx hy, .c (.int .i64 r)] [.c (.int .i64 (hiT (nearB gx gy hx hy r) s.cl).1), .c (.bool (hiT (nearB gx gy hx hy r) s.cl).2)] := by
  obtain ⟨x0, y0, x1, y1, th, ga, cl, sf⟩ := s
  refine wpF_ok (anns := fun _ => ⟨[.slot 12 (.int .i64 0), .slot 10 (.int .i64 0), .slot 11 (.bool false)], [], fun _ ds => ∃ k : Nat, k ≤ cl.length ∧ ds = [.int .i64 (k : Int), .int .i64 (hiT (nearB gx gy hx hy r) (cl.take k)).1, .bool (hiT (nearB gx gy hx hy r) (cl.take k)).2], fun ds => (cl.length - toI (nth .undef ds 0)).toNat⟩) mixedT Tryz.func14 ?_
  simp only at hl hs
  simp only [encS]
  show wpF CC _ _ Tryz.f14 [.ag [.int .i64 x0, .int .i64 y0, .int .i64 x1, .int .i64 y1, .int .i64 th, .int .i64 ga, .sl (clRs cl), .int .i64 sf], .ag [.int .i64 gx, .int .i64 gy], .ag [.int .i64 hx, .int .i64 hy], .c (.int .i64 r)] _
  rw [vc_eHighest]
  simp only [Int.ofNat_eq_natCast, clRs_length]
  refine ⟨⟨0, by omega, rfl⟩, ?_⟩
  rintro n n_1 b ⟨k, hk, he⟩
  simp only [List.cons.injEq, D.bool.injEq, D.int.injEq, true_and, and_true] at he
  obtain ⟨rfl, rfl, rfl⟩ := he
  refine brd (fun h => ?_) (fun h => ?_)
  · have hkl : k < cl.length := by omega
    have hw : IntKind.wrap .i64 ((k : Int) + 1) = ((k + 1 : Nat) : Int) := by rw [i64w (by omega) (by omega)]; omega
    have hst := hiT_succ (nearB gx gy hx hy r) cl k hkl
    have hcl := hs cl[k] (List.getElem_mem hkl)
    have hn := eFar_ok hcl h1 h2 h3 h4
    rw [hw, Int.toNat_natCast]
    refine ⟨⟨by omega, by omega, len_cl hkl⟩, _, _, _, _, _, cut_cl hkl, brd (fun h0 => ?_) (fun h0 => ?_)⟩
    · have hrs : sm8 r := by unfold sm8; omega
      have hz : Sz 8 (r : Rat) := Sz.int hrs
      have hfs : Sz 207 (farR cl[k] gx gy hx hy) := by
        unfold farR
        cases holdsB cl[k] gx gy || holdsB cl[k] hx hy
        · exact farL_sz hcl (vz_sv h1 h2) (vz_sv h3 h4) 3
        · exact Sz.int (n := 0) (by decide)
      have hnb : nearB gx gy hx hy r cl[k] = decide (farR cl[k] gx gy hx hy < (r : Rat) * (r : Rat)) := by
        unfold nearB; rw [decide_eq_true (by omega : 0 < r), Bool.true_and]
      refine ⟨_, _, _, _, hn, _, _, _, _, uFromInt64_ok hrs.lo hrs.hi, _, _, _, _, uSquare_ok partsOk (hz.sr (by omega)), _, uCmp_ok (hfs.sr (by omega)) ((hz.mul hz).sr (by omega)), brd (fun h5 => ?_) (fun h5 => ?_)⟩
      · have h5 : nearB gx gy hx hy r cl[k] = true := by rw [hnb]; exact decide_eq_true (cmpR_lt.1 h5)
        refine brb (fun h6 => ?_) (fun h6 => brd (fun h7 => ?_) (fun h7 => ?_))
        · refine ⟨⟨k + 1, by omega, ?_⟩, by simp only [nth, toI]; omega⟩
          rw [hst, hiStep, h5, h6, Bool.true_or, Bool.true_and, cond_true]
        · refine ⟨⟨k + 1, by omega, ?_⟩, by simp only [nth, toI]; omega⟩
          rw [hst, hiStep, h5, decide_eq_true h7, Bool.or_true, Bool.true_and, cond_true]
        · refine ⟨⟨k + 1, by omega, ?_⟩, by simp only [nth, toI]; omega⟩
          rw [hst, hiStep, h5, h6, decide_eq_false h7, Bool.or_false, Bool.true_and, cond_false]
      · have h5 : nearB gx gy hx hy r cl[k] = false := by rw [hnb]; exact decide_eq_false (fun h6 => h5 (cmpR_lt.2 h6))
        refine ⟨⟨k + 1, by omega, ?_⟩, by simp only [nth, toI]; omega⟩
        rw [hst, hiStep, h5, Bool.false_and, cond_false]
    · have h5 : nearB gx gy hx hy r cl[k] = false := by unfold nearB; rw [decide_eq_false (by omega), Bool.false_and]
      refine ⟨⟨k + 1, by omega, ?_⟩, by simp only [nth, toI]; omega⟩
      rw [hst, hiStep, h5, Bool.false_and, cond_false]
  · have hkl : k = cl.length := by omega
    subst hkl
    rw [List.take_length]

def inB (x y : Int) : Bool := decide (x ≥ -40000000) && (decide (x ≤ 40000000) && (decide (y ≥ -40000000) && decide (y ≤ 40000000)))
theorem eWithin_ok (x y : Int) : Gives CC 30 [encG x y] [.c (.bool (inB x y))] := by
  refine wpF_ok (anns := fun _ => ⟨[], [], fun _ _ => True, fun _ => 0⟩) mixedT Tryz.func30 ?_
  show wpF CC _ _ Tryz.f30 [.ag [.int .i64 x, .int .i64 y]] _
  rw [vc_eWithin]
  unfold inB
  refine brd (fun h1 => ?_) (fun h1 => by simp [h1])
  refine brd (fun h2 => ?_) (fun h2 => by simp [h1, h2])
  exact brd (fun h3 => by simp [h1, h2, h3]) (fun h3 => by simp [h1, h2, h3])
def encL (a b c d : Int) : A := .ag [.int .i64 a, .int .i64 b, .int .i64 c, .int .i64 d]
def lnB (s : Su) (a b c d r : Int) : Bool := (decide (s.cl.length ≤ 4) && validB s) && (inB a b && (inB c d && decide (r ≤ 40000000)))
theorem lnear_ok (s : Su) (a b c d r : Int) : Gives CC 12 [encS s, encL a b c d, .c (.int .i64 r)] [.c (.bool (lnB s a b c d r))] := by
  have hR := rRight_ok s (by omega)
  refine wpF_ok (anns := fun _ => ⟨[], [], fun _ _ => True, fun _ => 0⟩) mixedT Tryz.func12 ?_
  unfold lnB
  obtain ⟨x0, y0, x1, y1, th, ga, cl, sf⟩ := s
  simp only [encS] at hR ⊢
  show wpF CC _ _ Tryz.f12 [.ag [.int .i64 x0, .int .i64 y0, .int .i64 x1, .int .i64 y1, .int .i64 th, .int .i64 ga, .sl (clRs cl), .int .i64 sf], .ag [.int .i64 a, .int .i64 b, .int .i64 c, .int .i64 d], .c (.int .i64 r)] _
  rw [vc_lnear]
  refine ⟨_, hR, brb' (fun h => ?_) (fun h => by rw [h, Bool.false_and])⟩
  rw [h, Bool.true_and]
  refine ⟨_, eWithin_ok a b, brb' (fun h => ?_) (fun h => by rw [h, Bool.false_and])⟩
  rw [h, Bool.true_and]
  refine ⟨_, eWithin_ok c d, brb' (fun h => ?_) (fun h => by rw [h, Bool.false_and])⟩
  rw [h, Bool.true_and]
theorem inB_sm {x y : Int} (h : inB x y = true) : sm8 x ∧ sm8 y := by
  unfold inB at h
  simp only [Bool.and_eq_true, decide_eq_true_eq] at h
  unfold sm8; omega
theorem valid_sm {s : Su} (h : validB s = true) : ∀ c ∈ s.cl, SmC c := by
  intro c hc
  unfold validB at h
  rw [Bool.and_eq_true] at h
  have := List.all_eq_true.1 h.2 c hc
  unfold clB rectB lenB at this
  simp only [Bool.and_eq_true, decide_eq_true_eq] at this
  constructor <;> unfold sm8 <;> omega

theorem lHighest_ok (haw : Gives CC 7 [] [.c (.bool true)]) (s : Su) (a b c d r : Int) : Gives CC 4 [encS s, encL a b c d, .c (.int .i64 r)] [.c (.bool true)] := by
  have hln := lnear_ok s a b c d r
  by_cases hB : lnB s a b c d r = true
  · have hB2 := hB
    unfold lnB at hB2
    simp only [Bool.and_eq_true, decide_eq_true_eq] at hB2
    obtain ⟨⟨hl, hv⟩, hab, hcd, hr⟩ := hB2
    obtain ⟨sa, sb⟩ := inB_sm hab
    obtain ⟨sc, sd⟩ := inB_sm hcd
    have hsm := valid_sm hv
    have hp := pHighest_ok s (r := r) (by omega) hsm sa sb sc sd hr
    have he := eHighest_ok s (r := r) (by omega) hsm sa sb sc sd hr
    have hq := pHighest_ok s (r := r) (by omega) hsm sc sd sa sb hr
    have hsym : nearB c d a b r = nearB a b c d r := funext fun k => nearB_symm a b c d r k
    rw [hsym] at hq
    rw [hB] at hln
    refine wpF_ok (anns := fun _ => ⟨[], [], fun _ _ => True, fun _ => 0⟩) mixedT Tryz.func4 ?_
    obtain ⟨x0, y0, x1, y1, th, ga, cl, sf⟩ := s
    simp only [encS] at hln hp he hq ⊢
    show wpF CC _ _ Tryz.f4 [.ag [.int .i64 x0, .int .i64 y0, .int .i64 x1, .int .i64 y1, .int .i64 th, .int .i64 ga, .sl (clRs cl), .int .i64 sf], .ag [.int .i64 a, .int .i64 b, .int .i64 c, .int .i64 d], .c (.int .i64 r)] _
    rw [vc_lHighest]
    refine ⟨_, haw, brb (fun h => by simp at h) (fun _ => ⟨_, hln, brb (fun h => by simp at h) (fun _ => ⟨_, _, hp, _, _, he, _, _, hq, ?_⟩)⟩)⟩
    exact brb (fun _ => brb (fun _ => brb (fun _ => by simp) (fun h => by simp at h)) (fun h => by simp at h)) (fun h => by simp at h)
  · rw [Bool.not_eq_true] at hB
    rw [hB] at hln
    refine wpF_ok (anns := fun _ => ⟨[], [], fun _ _ => True, fun _ => 0⟩) mixedT Tryz.func4 ?_
    obtain ⟨x0, y0, x1, y1, th, ga, cl, sf⟩ := s
    simp only [encS] at hln ⊢
    show wpF CC _ _ Tryz.f4 [.ag [.int .i64 x0, .int .i64 y0, .int .i64 x1, .int .i64 y1, .int .i64 th, .int .i64 ga, .sl (clRs cl), .int .i64 sf], .ag [.int .i64 a, .int .i64 b, .int .i64 c, .int .i64 d], .c (.int .i64 r)] _
    rw [vc_lHighest]
    exact ⟨_, haw, brb (fun h => by simp at h) (fun _ => ⟨_, hln, brb (fun _ => ⟨_, haw, rfl⟩) (fun h => by simp at h)⟩)⟩

theorem hiT_grow {f g : Cl → Bool} (l : List Cl) (hfg : ∀ c ∈ l, f c = true → g c = true) : ∀ k, k ≤ l.length → (hiT f (l.take k)).2 = true → (hiT g (l.take k)).2 = true ∧ (hiT f (l.take k)).1 ≤ (hiT g (l.take k)).1
  | 0, _ => fun h => by simp [hiT] at h
  | k + 1, hk => by
    have ih := hiT_grow l hfg k (by omega)
    have hc := hfg l[k] (List.getElem_mem (by omega))
    rw [hiT_succ f l k (by omega), hiT_succ g l k (by omega)]
    generalize hiT f (l.take k) = s at *
    generalize hiT g (l.take k) = t at *
    generalize l[k] = c at *
    obtain ⟨s1, s2⟩ := s
    obtain ⟨t1, t2⟩ := t
    simp only [hiStep]
    simp only at ih
    cases hf : f c <;> cases hg : g c
    · simpa using ih
    · cases s2 <;> cases t2 <;> simp only [Bool.false_and, cond_false, Bool.true_and, Bool.not_true, Bool.not_false, Bool.false_or, Bool.true_or, cond_true] at ih ⊢
      · intro h; simp at h
      · intro h; simp at h
      · simp at ih
      · intro _
        have := (ih trivial).2
        by_cases h7 : c.top > t1
        · rw [decide_eq_true h7, cond_true]; exact ⟨rfl, by simp only; omega⟩
        · rw [decide_eq_false h7, cond_false]; exact ⟨rfl, this⟩
    · rw [hc hf] at hg; simp at hg
    · intro _
      cases s2 <;> cases t2 <;> simp only [Bool.true_and, Bool.not_true, Bool.not_false, Bool.false_or, Bool.true_or, cond_true] at ih ⊢
      · exact ⟨trivial, Int.le_refl _⟩
      · by_cases h7 : c.top > t1
        · rw [decide_eq_true h7, cond_true]; exact ⟨rfl, Int.le_refl _⟩
        · rw [decide_eq_false h7, cond_false]; exact ⟨rfl, by simp only; omega⟩
      · simp at ih
      · have := (ih trivial).2
        by_cases h7 : c.top > t1
        · rw [decide_eq_true h7, cond_true]
          by_cases h8 : c.top > s1
          · rw [decide_eq_true h8, cond_true]; exact ⟨rfl, Int.le_refl _⟩
          · rw [decide_eq_false h8, cond_false]; exact ⟨rfl, by simp only; omega⟩
        · rw [decide_eq_false h7, cond_false]
          by_cases h8 : c.top > s1
          · rw [decide_eq_true h8, cond_true]; exact ⟨rfl, by simp only; omega⟩
          · rw [decide_eq_false h8, cond_false]; exact ⟨rfl, this⟩
end Eng
end

section
/- SetupGrows. -/
namespace Eng
open Go Go.Proofs
set_option maxRecDepth 100000

theorem lGrows_ok (haw : Gives CC 7 [] [.c (.bool true)]) (s : Su) (a b c d r : Int) (hr63 : -9223372036854775808 ≤ r) : Gives CC 5 [encS s, encL a b c d, .c (.int .i64 r)] [.c (.bool true)] := by
  have hln := lnear_ok s a b c d r
  by_cases hB : lnB s a b c d r = true
  · have hB2 := hB
    unfold lnB at hB2
    simp only [Bool.and_eq_true, decide_eq_true_eq] at hB2
    obtain ⟨⟨hl, hv⟩, hab, hcd, hr⟩ := hB2
    obtain ⟨sa, sb⟩ := inB_sm hab
    obtain ⟨sc, sd⟩ := inB_sm hcd
    have hsm := valid_sm hv
    have hp := fun r (hr : r ≤ 40000000) => pHighest_ok s (gx := a) (gy := b) (hx := c) (hy := d) (r := r) (by omega) hsm sa sb sc sd hr
    have hpa := pHighest_ok s (gx := a) (gy := b) (hx := a) (hy := b) (r := r) (by omega) hsm sa sb sa sb hr
    have hpc := pHighest_ok s (gx := c) (gy := d) (hx := c) (hy := d) (r := r) (by omega) hsm sc sd sc sd hr
    have hg : ∀ f : Cl → Bool, (∀ k, f k = true → nearB a b c d r k = true) → (hiT f s.cl).2 = true → (hiT (nearB a b c d r) s.cl).2 = true ∧ (hiT f s.cl).1 ≤ (hiT (nearB a b c d r) s.cl).1 := by
      intro f hf
      have := hiT_grow (f := f) (g := nearB a b c d r) s.cl (fun k _ => hf k) s.cl.length (Nat.le_refl _)
      rw [List.take_length] at this; exact this
    rw [hB] at hln
    refine wpF_ok (anns := fun _ => ⟨[.slot 65 (.int .i64 0)], [], fun _ ds => ∃ i : Nat, i ≤ 4 ∧ ds = [.int .i64 (i : Int)], fun ds => (4 - toI (nth .undef ds 0)).toNat⟩) mixedT Tryz.func5 ?_
    obtain ⟨x0, y0, x1, y1, th, ga, cl, sf⟩ := s
    simp only at hg
    simp only [encS] at hln hp hpa hpc ⊢
    show wpF CC _ _ Tryz.f5 [.ag [.int .i64 x0, .int .i64 y0, .int .i64 x1, .int .i64 y1, .int .i64 th, .int .i64 ga, .sl (clRs cl), .int .i64 sf], .ag [.int .i64 a, .int .i64 b, .int .i64 c, .int .i64 d], .c (.int .i64 r)] _
    rw [vc_lGrows]
    refine ⟨_, haw, brb (fun h => by simp at h) (fun _ => ⟨_, hln, brb (fun h => by simp at h) (fun _ => brd (fun _ => ⟨_, haw, rfl⟩) (fun h1 => ?_))⟩)⟩
    refine ⟨_, _, hp r hr, by omega, ⟨0, by omega, rfl⟩, ?_⟩
    have w1 : IntKind.wrap .i64 (r - 1) = r - 1 := i64w (by omega) (by omega)
    have w2 : IntKind.wrap .i64 (Int.tdiv r 2) = r / 2 := by rw [Int.tdiv_eq_ediv_of_nonneg (by omega), i64w (by omega) (by omega)]
    rw [w1, w2]
    rintro n ⟨i, hi, he⟩
    simp only [List.cons.injEq, D.int.injEq, true_and, and_true] at he
    subst he
    refine brd (fun h9 => ?_) (fun h9 => rfl)
    have hw : IntKind.wrap .i64 ((i : Int) + 1) = ((i + 1 : Nat) : Int) := by rw [i64w (by omega) (by omega)]; rfl
    rw [hw, Int.toNat_natCast]
    have hend : ∀ f : Cl → Bool, (∀ k, f k = true → nearB a b c d r k = true) →
        br (hiT f cl).2 (br (toB (D.bool !(hiT (nearB a b c d r) cl).2)) ([A.c (D.bool false)] = [A.c (D.bool true)])
          (br (toB (D.bool (decide ((hiT f cl).1 > (hiT (nearB a b c d r) cl).1)))) ([A.c (D.bool false)] = [A.c (D.bool true)])
            ((∃ j : Nat, j ≤ 4 ∧ [D.int .i64 ((i + 1 : Nat) : Int)] = [.int .i64 (j : Int)]) ∧ (4 - toI (nth .undef [D.int .i64 ((i + 1 : Nat) : Int)] 0)).toNat < (4 - toI (nth .undef [D.int .i64 (i : Int)] 0)).toNat)))
          ((∃ j : Nat, j ≤ 4 ∧ [D.int .i64 ((i + 1 : Nat) : Int)] = [.int .i64 (j : Int)]) ∧ (4 - toI (nth .undef [D.int .i64 ((i + 1 : Nat) : Int)] 0)).toNat < (4 - toI (nth .undef [D.int .i64 (i : Int)] 0)).toNat) := by
      intro f hf
      have h0 : (∃ j : Nat, j ≤ 4 ∧ [D.int .i64 ((i + 1 : Nat) : Int)] = [.int .i64 (j : Int)]) ∧ (4 - toI (nth .undef [D.int .i64 ((i + 1 : Nat) : Int)] 0)).toNat < (4 - toI (nth .undef [D.int .i64 (i : Int)] 0)).toNat :=
        ⟨⟨i + 1, by omega, rfl⟩, by simp only [nth, toI]; omega⟩
      refine brb' (fun h2 => ?_) (fun _ => h0)
      obtain ⟨g1, g2⟩ := hg f hf h2
      refine brb (fun h3 => by rw [g1] at h3; simp at h3) (fun _ => brd (fun h3 => by omega) (fun _ => h0))
    have hi4 : i < 4 := by omega
    refine ⟨⟨by omega, by omega⟩, ?_⟩
    match i, hi4, hend with
    | 0, _, hend => exact ⟨_, _, _, _, _, ⟨rfl, Nat.le_refl 5⟩, _, _, hp (r - 1) (by omega), hend _ (fun k hk => nearB_more hk (by omega))⟩
    | 1, _, hend => exact ⟨_, _, _, _, _, ⟨rfl, Nat.le_refl 5⟩, _, _, hp (r / 2) (by omega), hend _ (fun k hk => nearB_more hk (by omega))⟩
    | 2, _, hend => exact ⟨_, _, _, _, _, ⟨rfl, Nat.le_refl 5⟩, _, _, hpa, hend _ (fun k hk => nearB_ends hk)⟩
    | 3, _, hend => exact ⟨_, _, _, _, _, ⟨rfl, Nat.le_refl 5⟩, _, _, hpc, hend _ (fun k hk => by
        rw [← nearB_symm]; exact nearB_ends hk)⟩
  · rw [Bool.not_eq_true] at hB
    rw [hB] at hln
    refine wpF_ok (anns := fun _ => ⟨[.slot 65 (.int .i64 0)], [], fun _ _ => True, fun _ => 0⟩) mixedT Tryz.func5 ?_
    obtain ⟨x0, y0, x1, y1, th, ga, cl, sf⟩ := s
    simp only [encS] at hln ⊢
    show wpF CC _ _ Tryz.f5 [.ag [.int .i64 x0, .int .i64 y0, .int .i64 x1, .int .i64 y1, .int .i64 th, .int .i64 ga, .sl (clRs cl), .int .i64 sf], .ag [.int .i64 a, .int .i64 b, .int .i64 c, .int .i64 d], .c (.int .i64 r)] _
    rw [vc_lGrows]
    exact ⟨_, haw, brb (fun h => by simp at h) (fun _ => ⟨_, hln, brb (fun _ => ⟨_, haw, rfl⟩) (fun h => by simp at h)⟩)⟩
end Eng
end
