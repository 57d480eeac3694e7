/- The verification conditions of functions, printed by a program (vcgen.py) and checked by the kernel. -/
import Derived.Test.YtmgkoomljkbfiaaGreatDoorCtxB
import Derived.KernelRfl
section
/- The verification conditions of functions, printed by a program (vcgen.py) and checked by the kernel. -/
open Go Go.Proofs Eng
set_option maxRecDepth 1000000
namespace Eng
theorem vc_rlength (Gv : Nat → List A → List A → Prop) (n low : Int) (Q : List A → Prop) :
    wpF CC Gv (fun _ => ⟨[], [], fun _ _ => True, fun _ => 0⟩) Tryz.f29 [.c (.int .i64 n), .c (.int .i64 low)] Q = (
 br (toB (D.bool (decide (n ≥ low)))) (Q [A.c (D.bool (decide (n ≤ (10000000 : Int))))]) (Q [A.c (D.bool false)])) := by kernel_rfl
theorem vc_rrect (Gv : Nat → List A → List A → Prop) (a b c d : Int) (Q : List A → Prop) :
    wpF CC Gv (fun _ => ⟨[], [], fun _ _ => True, fun _ => 0⟩) Tryz.f28 [.c (.int .i64 a), .c (.int .i64 b), .c (.int .i64 c), .c (.int .i64 d)] Q = (
 ∃ b_1,
  Gv (29 : Nat) [A.c (D.int IntKind.i64 a), A.c (D.int IntKind.i64 (-10000000 : Int))] [A.c (D.bool b_1)] ∧
    br b_1
      (∃ b_2,
        Gv (29 : Nat) [A.c (D.int IntKind.i64 b), A.c (D.int IntKind.i64 (-10000000 : Int))] [A.c (D.bool b_2)] ∧
          br b_2
            (∃ b_3,
              Gv (29 : Nat) [A.c (D.int IntKind.i64 c), A.c (D.int IntKind.i64 (-10000000 : Int))] [A.c (D.bool b_3)] ∧
                br b_3
                  (∃ b_4,
                    Gv (29 : Nat) [A.c (D.int IntKind.i64 d), A.c (D.int IntKind.i64 (-10000000 : Int))] [A.c (D.bool b_4)] ∧
                      br b_4 (br (toB (D.bool (decide (a < c)))) (Q [A.c (D.bool (decide (b < d)))]) (Q [A.c (D.bool false)])) (Q [A.c (D.bool false)]))
                  (Q [A.c (D.bool false)]))
            (Q [A.c (D.bool false)]))
      (Q [A.c (D.bool false)])) := by kernel_rfl
theorem vc_rValid (Gv : Nat → List A → List A → Prop) (I0 : List D → List D → Prop) (M0 : List D → Nat) (x0 y0 x1 y1 th ga sf : Int) (es : List (List D)) (Q : List A → Prop) :
    wpF CC Gv (fun _ => ⟨[.slot 3 (.bool false), .slot 4 (.int .i64 0)], [], I0, M0⟩) Tryz.f11 [.ag [.int .i64 x0, .int .i64 y0, .int .i64 x1, .int .i64 y1, .int .i64 th, .int .i64 ga, .sl es, .int .i64 sf]] Q = (
 ∃ b,
  Gv (28 : Nat) [A.c (D.int IntKind.i64 x0), A.c (D.int IntKind.i64 y0), A.c (D.int IntKind.i64 x1), A.c (D.int IntKind.i64 y1)] [A.c (D.bool b)] ∧
    br b
      (∃ b,
        Gv (29 : Nat) [A.c (D.int IntKind.i64 th), A.c (D.int IntKind.i64 (1 : Int))] [A.c (D.bool b)] ∧
          br b
            (∃ b,
              Gv (29 : Nat) [A.c (D.int IntKind.i64 ga), A.c (D.int IntKind.i64 (0 : Int))] [A.c (D.bool b)] ∧
                br b
                  (br (toB (D.bool (decide ((Int.ofNat (List.length es)) ≤ (50 : Int)))))
                    (∃ b,
                      Gv (29 : Nat) [A.c (D.int IntKind.i64 sf), A.c (D.int IntKind.i64 (1 : Int))] [A.c (D.bool b)] ∧
                        I0 [] [D.bool b, D.int IntKind.i64 (0 : Int)] ∧
                          ∀ (b : Bool) (n : Int),
                            I0 [] [D.bool b, D.int IntKind.i64 n] →
                              br (toB (D.bool (decide (n < (Int.ofNat (List.length es))))))
                                (br b
                                  (((0 : Int) ≤ n ∧ n < (Int.ofNat (List.length es)) ∧ List.length (nth [] es (Int.toNat n)) = (5 : Nat)) ∧
                                    ∃ n_1 n_2 n_3 n_4 n_5,
                                      cut (nth [] es (Int.toNat n)) (0 : Nat) (5 : Nat)
                                          [D.int IntKind.i64 n_1, D.int IntKind.i64 n_2, D.int IntKind.i64 n_3, D.int IntKind.i64 n_4, D.int IntKind.i64 n_5] ∧
                                        ∃ b_1,
                                          Gv (28 : Nat)
                                              [A.c (D.int IntKind.i64 n_1), A.c (D.int IntKind.i64 n_2), A.c (D.int IntKind.i64 n_3),
                                                A.c (D.int IntKind.i64 n_4)]
                                              [A.c (D.bool b_1)] ∧
                                            br b_1
                                              (∃ b_2,
                                                Gv (29 : Nat)
                                                    [A.c (D.int IntKind.i64 n_5),
                                                      A.c (D.int IntKind.i64 (IntKind.wrap IntKind.i64 (IntKind.wrap IntKind.i64 ((0 : Int) - th) - ga)))]
                                                    [A.c (D.bool b_2)] ∧
                                                  br b_2
                                                    (I0 [] [D.bool (decide (n_5 < sf)), D.int IntKind.i64 (IntKind.wrap IntKind.i64 (n + (1 : Int)))] ∧
                                                      M0 [D.bool (decide (n_5 < sf)), D.int IntKind.i64 (IntKind.wrap IntKind.i64 (n + (1 : Int)))] <
                                                        M0 [D.bool b, D.int IntKind.i64 n])
                                                    (I0 [] [D.bool false, D.int IntKind.i64 (IntKind.wrap IntKind.i64 (n + (1 : Int)))] ∧
                                                      M0 [D.bool false, D.int IntKind.i64 (IntKind.wrap IntKind.i64 (n + (1 : Int)))] <
                                                        M0 [D.bool b, D.int IntKind.i64 n]))
                                              (I0 [] [D.bool false, D.int IntKind.i64 (IntKind.wrap IntKind.i64 (n + (1 : Int)))] ∧
                                                M0 [D.bool false, D.int IntKind.i64 (IntKind.wrap IntKind.i64 (n + (1 : Int)))] <
                                                  M0 [D.bool b, D.int IntKind.i64 n]))
                                  (br (toB (D.bool !b)) (Q [A.c (D.int IntKind.i64 (1 : Int))]) (Q [A.c (D.int IntKind.i64 (0 : Int))])))
                                (br (toB (D.bool !b)) (Q [A.c (D.int IntKind.i64 (1 : Int))]) (Q [A.c (D.int IntKind.i64 (0 : Int))])))
                    (I0 [] [D.bool false, D.int IntKind.i64 (0 : Int)] ∧
                      ∀ (b : Bool) (n : Int),
                        I0 [] [D.bool b, D.int IntKind.i64 n] →
                          br (toB (D.bool (decide (n < (Int.ofNat (List.length es))))))
                            (br b
                              (((0 : Int) ≤ n ∧ n < (Int.ofNat (List.length es)) ∧ List.length (nth [] es (Int.toNat n)) = (5 : Nat)) ∧
                                ∃ n_1 n_2 n_3 n_4 n_5,
                                  cut (nth [] es (Int.toNat n)) (0 : Nat) (5 : Nat)
                                      [D.int IntKind.i64 n_1, D.int IntKind.i64 n_2, D.int IntKind.i64 n_3, D.int IntKind.i64 n_4, D.int IntKind.i64 n_5] ∧
                                    ∃ b_1,
                                      Gv (28 : Nat)
                                          [A.c (D.int IntKind.i64 n_1), A.c (D.int IntKind.i64 n_2), A.c (D.int IntKind.i64 n_3), A.c (D.int IntKind.i64 n_4)]
                                          [A.c (D.bool b_1)] ∧
                                        br b_1
                                          (∃ b_2,
                                            Gv (29 : Nat)
                                                [A.c (D.int IntKind.i64 n_5),
                                                  A.c (D.int IntKind.i64 (IntKind.wrap IntKind.i64 (IntKind.wrap IntKind.i64 ((0 : Int) - th) - ga)))]
                                                [A.c (D.bool b_2)] ∧
                                              br b_2
                                                (I0 [] [D.bool (decide (n_5 < sf)), D.int IntKind.i64 (IntKind.wrap IntKind.i64 (n + (1 : Int)))] ∧
                                                  M0 [D.bool (decide (n_5 < sf)), D.int IntKind.i64 (IntKind.wrap IntKind.i64 (n + (1 : Int)))] <
                                                    M0 [D.bool b, D.int IntKind.i64 n])
                                                (I0 [] [D.bool false, D.int IntKind.i64 (IntKind.wrap IntKind.i64 (n + (1 : Int)))] ∧
                                                  M0 [D.bool false, D.int IntKind.i64 (IntKind.wrap IntKind.i64 (n + (1 : Int)))] <
                                                    M0 [D.bool b, D.int IntKind.i64 n]))
                                          (I0 [] [D.bool false, D.int IntKind.i64 (IntKind.wrap IntKind.i64 (n + (1 : Int)))] ∧
                                            M0 [D.bool false, D.int IntKind.i64 (IntKind.wrap IntKind.i64 (n + (1 : Int)))] <
                                              M0 [D.bool b, D.int IntKind.i64 n]))
                              (br (toB (D.bool !b)) (Q [A.c (D.int IntKind.i64 (1 : Int))]) (Q [A.c (D.int IntKind.i64 (0 : Int))])))
                            (br (toB (D.bool !b)) (Q [A.c (D.int IntKind.i64 (1 : Int))]) (Q [A.c (D.int IntKind.i64 (0 : Int))]))))
                  (I0 [] [D.bool false, D.int IntKind.i64 (0 : Int)] ∧
                    ∀ (b : Bool) (n : Int),
                      I0 [] [D.bool b, D.int IntKind.i64 n] →
                        br (toB (D.bool (decide (n < (Int.ofNat (List.length es))))))
                          (br b
                            (((0 : Int) ≤ n ∧ n < (Int.ofNat (List.length es)) ∧ List.length (nth [] es (Int.toNat n)) = (5 : Nat)) ∧
                              ∃ n_1 n_2 n_3 n_4 n_5,
                                cut (nth [] es (Int.toNat n)) (0 : Nat) (5 : Nat)
                                    [D.int IntKind.i64 n_1, D.int IntKind.i64 n_2, D.int IntKind.i64 n_3, D.int IntKind.i64 n_4, D.int IntKind.i64 n_5] ∧
                                  ∃ b_1,
                                    Gv (28 : Nat)
                                        [A.c (D.int IntKind.i64 n_1), A.c (D.int IntKind.i64 n_2), A.c (D.int IntKind.i64 n_3), A.c (D.int IntKind.i64 n_4)]
                                        [A.c (D.bool b_1)] ∧
                                      br b_1
                                        (∃ b_2,
                                          Gv (29 : Nat)
                                              [A.c (D.int IntKind.i64 n_5),
                                                A.c (D.int IntKind.i64 (IntKind.wrap IntKind.i64 (IntKind.wrap IntKind.i64 ((0 : Int) - th) - ga)))]
                                              [A.c (D.bool b_2)] ∧
                                            br b_2
                                              (I0 [] [D.bool (decide (n_5 < sf)), D.int IntKind.i64 (IntKind.wrap IntKind.i64 (n + (1 : Int)))] ∧
                                                M0 [D.bool (decide (n_5 < sf)), D.int IntKind.i64 (IntKind.wrap IntKind.i64 (n + (1 : Int)))] <
                                                  M0 [D.bool b, D.int IntKind.i64 n])
                                              (I0 [] [D.bool false, D.int IntKind.i64 (IntKind.wrap IntKind.i64 (n + (1 : Int)))] ∧
                                                M0 [D.bool false, D.int IntKind.i64 (IntKind.wrap IntKind.i64 (n + (1 : Int)))] <
                                                  M0 [D.bool b, D.int IntKind.i64 n]))
                                        (I0 [] [D.bool false, D.int IntKind.i64 (IntKind.wrap IntKind.i64 (n + (1 : Int)))] ∧
                                          M0 [D.bool false, D.int IntKind.i64 (IntKind.wrap IntKind.i64 (n + (1 : Int)))] < M0 [D.bool b, D.int IntKind.i64 n]))
                            (br (toB (D.bool !b)) (Q [A.c (D.int IntKind.i64 (1 : Int))]) (Q [A.c (D.int IntKind.i64 (0 : Int))])))
                          (br (toB (D.bool !b)) (Q [A.c (D.int IntKind.i64 (1 : Int))]) (Q [A.c (D.int IntKind.i64 (0 : Int))]))))
            (I0 [] [D.bool false, D.int IntKind.i64 (0 : Int)] ∧
              ∀ (b : Bool) (n : Int),
                I0 [] [D.bool b, D.int IntKind.i64 n] →
                  br (toB (D.bool (decide (n < (Int.ofNat (List.length es))))))
                    (br b
                      (((0 : Int) ≤ n ∧ n < (Int.ofNat (List.length es)) ∧ List.length (nth [] es (Int.toNat n)) = (5 : Nat)) ∧
                        ∃ n_1 n_2 n_3 n_4 n_5,
                          cut (nth [] es (Int.toNat n)) (0 : Nat) (5 : Nat)
                              [D.int IntKind.i64 n_1, D.int IntKind.i64 n_2, D.int IntKind.i64 n_3, D.int IntKind.i64 n_4, D.int IntKind.i64 n_5] ∧
                            ∃ b_1,
                              Gv (28 : Nat) [A.c (D.int IntKind.i64 n_1), A.c (D.int IntKind.i64 n_2), A.c (D.int IntKind.i64 n_3), A.c (D.int IntKind.i64 n_4)]
                                  [A.c (D.bool b_1)] ∧
                                br b_1
                                  (∃ b_2,
                                    Gv (29 : Nat)
                                        [A.c (D.int IntKind.i64 n_5),
                                          A.c (D.int IntKind.i64 (IntKind.wrap IntKind.i64 (IntKind.wrap IntKind.i64 ((0 : Int) - th) - ga)))]
                                        [A.c (D.bool b_2)] ∧
                                      br b_2
                                        (I0 [] [D.bool (decide (n_5 < sf)), D.int IntKind.i64 (IntKind.wrap IntKind.i64 (n + (1 : Int)))] ∧
                                          M0 [D.bool (decide (n_5 < sf)), D.int IntKind.i64 (IntKind.wrap IntKind.i64 (n + (1 : Int)))] <
                                            M0 [D.bool b, D.int IntKind.i64 n])
                                        (I0 [] [D.bool false, D.int IntKind.i64 (IntKind.wrap IntKind.i64 (n + (1 : Int)))] ∧
                                          M0 [D.bool false, D.int IntKind.i64 (IntKind.wrap IntKind.i64 (n + (1 : Int)))] < M0 [D.bool b, D.int IntKind.i64 n]))
                                  (I0 [] [D.bool false, D.int IntKind.i64 (IntKind.wrap IntKind.i64 (n + (1 : Int)))] ∧
                                    M0 [D.bool false, D.int IntKind.i64 (IntKind.wrap IntKind.i64 (n + (1 : Int)))] < M0 [D.bool b, D.int IntKind.i64 n]))
                      (br (toB (D.bool !b)) (Q [A.c (D.int IntKind.i64 (1 : Int))]) (Q [A.c (D.int IntKind.i64 (0 : Int))])))
                    (br (toB (D.bool !b)) (Q [A.c (D.int IntKind.i64 (1 : Int))]) (Q [A.c (D.int IntKind.i64 (0 : Int))]))))
      (I0 [] [D.bool false, D.int IntKind.i64 (0 : Int)] ∧
        ∀ (b : Bool) (n : Int),
          I0 [] [D.bool b, D.int IntKind.i64 n] →
            br (toB (D.bool (decide (n < (Int.ofNat (List.length es))))))
              (br b
                (((0 : Int) ≤ n ∧ n < (Int.ofNat (List.length es)) ∧ List.length (nth [] es (Int.toNat n)) = (5 : Nat)) ∧
                  ∃ n_1 n_2 n_3 n_4 n_5,
                    cut (nth [] es (Int.toNat n)) (0 : Nat) (5 : Nat)
                        [D.int IntKind.i64 n_1, D.int IntKind.i64 n_2, D.int IntKind.i64 n_3, D.int IntKind.i64 n_4, D.int IntKind.i64 n_5] ∧
                      ∃ b_1,
                        Gv (28 : Nat) [A.c (D.int IntKind.i64 n_1), A.c (D.int IntKind.i64 n_2), A.c (D.int IntKind.i64 n_3), A.c (D.int IntKind.i64 n_4)]
                            [A.c (D.bool b_1)] ∧
                          br b_1
                            (∃ b_2,
                              Gv (29 : Nat)
                                  [A.c (D.int IntKind.i64 n_5),
                                    A.c (D.int IntKind.i64 (IntKind.wrap IntKind.i64 (IntKind.wrap IntKind.i64 ((0 : Int) - th) - ga)))]
                                  [A.c (D.bool b_2)] ∧
                                br b_2
                                  (I0 [] [D.bool (decide (n_5 < sf)), D.int IntKind.i64 (IntKind.wrap IntKind.i64 (n + (1 : Int)))] ∧
                                    M0 [D.bool (decide (n_5 < sf)), D.int IntKind.i64 (IntKind.wrap IntKind.i64 (n + (1 : Int)))] <
                                      M0 [D.bool b, D.int IntKind.i64 n])
                                  (I0 [] [D.bool false, D.int IntKind.i64 (IntKind.wrap IntKind.i64 (n + (1 : Int)))] ∧
                                    M0 [D.bool false, D.int IntKind.i64 (IntKind.wrap IntKind.i64 (n + (1 : Int)))] < M0 [D.bool b, D.int IntKind.i64 n]))
                            (I0 [] [D.bool false, D.int IntKind.i64 (IntKind.wrap IntKind.i64 (n + (1 : Int)))] ∧
                              M0 [D.bool false, D.int IntKind.i64 (IntKind.wrap IntKind.i64 (n + (1 : Int)))] < M0 [D.bool b, D.int IntKind.i64 n]))
                (br (toB (D.bool !b)) (Q [A.c (D.int IntKind.i64 (1 : Int))]) (Q [A.c (D.int IntKind.i64 (0 : Int))])))
              (br (toB (D.bool !b)) (Q [A.c (D.int IntKind.i64 (1 : Int))]) (Q [A.c (D.int IntKind.i64 (0 : Int))])))) := by kernel_rfl
theorem vc_rRight (Gv : Nat → List A → List A → Prop) (x0 y0 x1 y1 th ga sf : Int) (es : List (List D)) (Q : List A → Prop) :
    wpF CC Gv (fun _ => ⟨[], [], fun _ _ => True, fun _ => 0⟩) Tryz.f15 [.ag [.int .i64 x0, .int .i64 y0, .int .i64 x1, .int .i64 y1, .int .i64 th, .int .i64 ga, .sl es, .int .i64 sf]] Q = (
 br (toB (D.bool (decide ((Int.ofNat (List.length es)) ≤ (4 : Int)))))
  (∃ n,
    Gv (11 : Nat)
        [A.ag
            [D.int IntKind.i64 x0, D.int IntKind.i64 y0, D.int IntKind.i64 x1, D.int IntKind.i64 y1, D.int IntKind.i64 th, D.int IntKind.i64 ga, D.sl es,
              D.int IntKind.i64 sf]]
        [A.c (D.int IntKind.i64 n)] ∧
      Q [A.c (D.bool (n == (0 : Int)))])
  (Q [A.c (D.bool false)])) := by kernel_rfl
theorem vc_pHigher (Gv : Nat → List A → List A → Prop) (I0 : List D → List D → Prop) (M0 : List D → Nat) (x0 y0 x1 y1 th ga sf : Int) (es : List (List D)) (z : Int) (Q : List A → Prop) :
    wpF CC Gv (fun _ => ⟨[.own 5 26 1, .slot 11 (.int .i64 0)], [], I0, M0⟩) Tryz.f16 [.ag [.int .i64 x0, .int .i64 y0, .int .i64 x1, .int .i64 y1, .int .i64 th, .int .i64 ga, .sl es, .int .i64 sf], .c (.int .i64 z)] Q = (
 I0 [] [D.sl [], D.int IntKind.i64 (0 : Int)] ∧
  ∀ (es_1 : List (List D)) (n : Int),
    I0 [] [D.sl es_1, D.int IntKind.i64 n] →
      br (toB (D.bool (decide (n < (Int.ofNat (List.length es))))))
        (((0 : Int) ≤ n ∧ n < (Int.ofNat (List.length es)) ∧ List.length (nth [] es (Int.toNat n)) = (5 : Nat)) ∧
          ∃ n_1 n_2 n_3 n_4 n_5,
            cut (nth [] es (Int.toNat n)) (0 : Nat) (5 : Nat)
                [D.int IntKind.i64 n_1, D.int IntKind.i64 n_2, D.int IntKind.i64 n_3, D.int IntKind.i64 n_4, D.int IntKind.i64 n_5] ∧
              br (toB (D.bool (decide (n_5 > z))))
                ((room (List.length es_1 + (1 : Nat)) ∧ lens (1 : Nat) [[D.int IntKind.i64 n]]) ∧
                  I0 [] [D.sl (es_1 ++ [[D.int IntKind.i64 n]]), D.int IntKind.i64 (IntKind.wrap IntKind.i64 (n + (1 : Int)))] ∧
                    M0 [D.sl (es_1 ++ [[D.int IntKind.i64 n]]), D.int IntKind.i64 (IntKind.wrap IntKind.i64 (n + (1 : Int)))] <
                      M0 [D.sl es_1, D.int IntKind.i64 n])
                (I0 [] [D.sl es_1, D.int IntKind.i64 (IntKind.wrap IntKind.i64 (n + (1 : Int)))] ∧
                  M0 [D.sl es_1, D.int IntKind.i64 (IntKind.wrap IntKind.i64 (n + (1 : Int)))] < M0 [D.sl es_1, D.int IntKind.i64 n]))
        (Q [A.c (D.sl es_1)])) := by kernel_rfl
theorem vc_rHigher (Gv : Nat → List A → List A → Prop) (I0 : List D → List D → Prop) (M0 : List D → Nat) (x0 y0 x1 y1 th ga sf : Int) (es : List (List D)) (z : Int) (Q : List A → Prop) :
    wpF CC Gv (fun _ => ⟨[.own 5 27 1, .slot 6 (.int .i64 0)], [], I0, M0⟩) Tryz.f17 [.ag [.int .i64 x0, .int .i64 y0, .int .i64 x1, .int .i64 y1, .int .i64 th, .int .i64 ga, .sl es, .int .i64 sf], .c (.int .i64 z)] Q = (
 I0 [] [D.sl [], D.int IntKind.i64 (0 : Int)] ∧
  ∀ (es_1 : List (List D)) (n : Int),
    I0 [] [D.sl es_1, D.int IntKind.i64 n] →
      br (toB (D.bool (decide (n < (Int.ofNat (List.length es))))))
        (((0 : Int) ≤ n ∧ n < (Int.ofNat (List.length es)) ∧ List.length (nth [] es (Int.toNat n)) = (5 : Nat)) ∧
          ∃ n_1,
            cut (nth [] es (Int.toNat n)) (4 : Nat) (1 : Nat) [D.int IntKind.i64 n_1] ∧
              br (toB (D.bool (decide (n_1 > z))))
                ((room (List.length es_1 + (1 : Nat)) ∧ lens (1 : Nat) [[D.int IntKind.i64 n]]) ∧
                  I0 [] [D.sl (es_1 ++ [[D.int IntKind.i64 n]]), D.int IntKind.i64 (IntKind.wrap IntKind.i64 (n + (1 : Int)))] ∧
                    M0 [D.sl (es_1 ++ [[D.int IntKind.i64 n]]), D.int IntKind.i64 (IntKind.wrap IntKind.i64 (n + (1 : Int)))] <
                      M0 [D.sl es_1, D.int IntKind.i64 n])
                (I0 [] [D.sl es_1, D.int IntKind.i64 (IntKind.wrap IntKind.i64 (n + (1 : Int)))] ∧
                  M0 [D.sl es_1, D.int IntKind.i64 (IntKind.wrap IntKind.i64 (n + (1 : Int)))] < M0 [D.sl es_1, D.int IntKind.i64 n]))
        (Q [A.c (D.sl es_1)])) := by kernel_rfl
theorem vc_lHigher (Gv : Nat → List A → List A → Prop) (I0 : List D → List D → Prop) (M0 : List D → Nat) (x0 y0 x1 y1 th ga sf : Int) (es : List (List D)) (z : Int) (Q : List A → Prop) :
    wpF CC Gv (fun _ => ⟨[.slot 29 (.int .i64 0)], [], I0, M0⟩) Tryz.f6 [.ag [.int .i64 x0, .int .i64 y0, .int .i64 x1, .int .i64 y1, .int .i64 th, .int .i64 ga, .sl es, .int .i64 sf], .c (.int .i64 z)] Q = (
 ∃ b,
  Gv (7 : Nat) [] [A.c (D.bool b)] ∧
    br (toB (D.bool !b)) (∃ b, Gv (7 : Nat) [] [A.c (D.bool b)] ∧ Q [A.c (D.bool b)])
      (∃ b,
        Gv (15 : Nat)
            [A.ag
                [D.int IntKind.i64 x0, D.int IntKind.i64 y0, D.int IntKind.i64 x1, D.int IntKind.i64 y1, D.int IntKind.i64 th, D.int IntKind.i64 ga, D.sl es,
                  D.int IntKind.i64 sf]]
            [A.c (D.bool b)] ∧
          br (toB (D.bool !b)) (∃ b, Gv (7 : Nat) [] [A.c (D.bool b)] ∧ Q [A.c (D.bool b)])
            (∃ es_1,
              Gv (16 : Nat)
                  [A.ag
                      [D.int IntKind.i64 x0, D.int IntKind.i64 y0, D.int IntKind.i64 x1, D.int IntKind.i64 y1, D.int IntKind.i64 th, D.int IntKind.i64 ga,
                        D.sl es, D.int IntKind.i64 sf],
                    A.c (D.int IntKind.i64 z)]
                  [A.c (D.sl es_1)] ∧
                ∃ es_2,
                  Gv (17 : Nat)
                      [A.ag
                          [D.int IntKind.i64 x0, D.int IntKind.i64 y0, D.int IntKind.i64 x1, D.int IntKind.i64 y1, D.int IntKind.i64 th, D.int IntKind.i64 ga,
                            D.sl es, D.int IntKind.i64 sf],
                        A.c (D.int IntKind.i64 z)]
                      [A.c (D.sl es_2)] ∧
                    br (toB (D.bool ((Int.ofNat (List.length es_1)) != (Int.ofNat (List.length es_2))))) (Q [A.c (D.bool false)])
                      (I0 [] [D.int IntKind.i64 (0 : Int)] ∧
                        ∀ (n : Int),
                          I0 [] [D.int IntKind.i64 n] →
                            br (toB (D.bool (decide (n < (Int.ofNat (List.length es_1))))))
                              (((0 : Int) ≤ n ∧ n < (Int.ofNat (List.length es_1)) ∧ List.length (nth [] es_1 (Int.toNat n)) = (1 : Nat)) ∧
                                ∃ n_1,
                                  cut (nth [] es_1 (Int.toNat n)) (0 : Nat) (1 : Nat) [D.int IntKind.i64 n_1] ∧
                                    ((0 : Int) ≤ n ∧ n < (Int.ofNat (List.length es_2)) ∧ List.length (nth [] es_2 (Int.toNat n)) = (1 : Nat)) ∧
                                      ∃ n_2,
                                        cut (nth [] es_2 (Int.toNat n)) (0 : Nat) (1 : Nat) [D.int IntKind.i64 n_2] ∧
                                          br (toB (D.bool (n_1 != n_2))) (Q [A.c (D.bool false)])
                                            (I0 [] [D.int IntKind.i64 (IntKind.wrap IntKind.i64 (n + (1 : Int)))] ∧
                                              M0 [D.int IntKind.i64 (IntKind.wrap IntKind.i64 (n + (1 : Int)))] < M0 [D.int IntKind.i64 n]))
                              (Q [A.c (D.bool true)]))))) := by kernel_rfl
end Eng
end

section
/- Setups as data; their validity; the clamps above a height. -/
namespace Eng
open Go Go.Proofs
set_option maxRecDepth 100000

structure Cl where
  x0 : Int
  y0 : Int
  x1 : Int
  y1 : Int
  top : Int
structure Su where
  x0 : Int
  y0 : Int
  x1 : Int
  y1 : Int
  th : Int
  ga : Int
  cl : List Cl
  sf : Int
def clR (c : Cl) : List D := [.int .i64 c.x0, .int .i64 c.y0, .int .i64 c.x1, .int .i64 c.y1, .int .i64 c.top]
def clRs (l : List Cl) : List (List D) := l.map clR
def encS (s : Su) : A := .ag [.int .i64 s.x0, .int .i64 s.y0, .int .i64 s.x1, .int .i64 s.y1, .int .i64 s.th, .int .i64 s.ga, .sl (clRs s.cl), .int .i64 s.sf]

theorem clRs_length (l : List Cl) : (clRs l).length = l.length := by simp [clRs]
theorem nth_cl {l : List Cl} {i : Nat} (h : i < l.length) : nth [] (clRs l) i = clR l[i] := by
  rw [nth_eq]; simp [clRs, h]
theorem cut_cl {l : List Cl} {i : Nat} (h : i < l.length) : cut (nth [] (clRs l) i) 0 5 [.int .i64 l[i].x0, .int .i64 l[i].y0, .int .i64 l[i].x1, .int .i64 l[i].y1, .int .i64 l[i].top] := by
  rw [nth_cl h]; exact ⟨rfl, by simp [clR]⟩
theorem cut_top {l : List Cl} {i : Nat} (h : i < l.length) : cut (nth [] (clRs l) i) 4 1 [.int .i64 l[i].top] := by
  rw [nth_cl h]; exact ⟨rfl, by simp [clR]⟩
theorem len_cl {l : List Cl} {i : Nat} (h : i < l.length) : (nth [] (clRs l) i).length = 5 := by rw [nth_cl h]; rfl

def lenB (n low : Int) : Bool := decide (n ≥ low) && decide (n ≤ 10000000)
def rectB (a b c d : Int) : Bool := lenB a (-10000000) && (lenB b (-10000000) && (lenB c (-10000000) && (lenB d (-10000000) && (decide (a < c) && decide (b < d)))))
def tableZ (th ga : Int) : Int := IntKind.wrap .i64 (IntKind.wrap .i64 (0 - th) - ga)
def clB (th ga sf : Int) (c : Cl) : Bool := rectB c.x0 c.y0 c.x1 c.y1 && (lenB c.top (tableZ th ga) && decide (c.top < sf))
def headB (s : Su) : Bool := rectB s.x0 s.y0 s.x1 s.y1 && (lenB s.th 1 && (lenB s.ga 0 && (decide (s.cl.length ≤ 50) && lenB s.sf 1)))
def validB (s : Su) : Bool := headB s && s.cl.all (clB s.th s.ga s.sf)

theorem rlength_ok (n low : Int) : Gives CC 29 [.c (.int .i64 n), .c (.int .i64 low)] [.c (.bool (lenB n low))] := by
  refine wpF_ok (anns := fun _ => ⟨[], [], fun _ _ => True, fun _ => 0⟩) mixedT Tryz.func29 ?_
  rw [vc_rlength]
  unfold lenB
  refine brb (fun h => ?_) (fun h => ?_)
  · rw [h, Bool.true_and]
  · rw [h, Bool.false_and]
theorem rrect_ok (a b c d : Int) : Gives CC 28 [.c (.int .i64 a), .c (.int .i64 b), .c (.int .i64 c), .c (.int .i64 d)] [.c (.bool (rectB a b c d))] := by
  refine wpF_ok (anns := fun _ => ⟨[], [], fun _ _ => True, fun _ => 0⟩) mixedT Tryz.func28 ?_
  rw [vc_rrect]
  unfold rectB
  refine ⟨_, rlength_ok _ _, brb' (fun h => ?_) (fun h => by rw [h]; rfl)⟩
  rw [h, Bool.true_and]
  refine ⟨_, rlength_ok _ _, brb' (fun h => ?_) (fun h => by rw [h]; rfl)⟩
  rw [h, Bool.true_and]
  refine ⟨_, rlength_ok _ _, brb' (fun h => ?_) (fun h => by rw [h]; rfl)⟩
  rw [h, Bool.true_and]
  refine ⟨_, rlength_ok _ _, brb' (fun h => ?_) (fun h => by rw [h]; rfl)⟩
  rw [h, Bool.true_and]
  exact brb (fun h => by rw [h, Bool.true_and]) (fun h => by rw [h, Bool.false_and])

theorem all_take_succ {α : Type} (p : α → Bool) (l : List α) (k : Nat) (h : k < l.length) : (l.take (k + 1)).all p = ((l.take k).all p && p l[k]) := by
  rw [List.take_succ_eq_append_getElem h, List.all_append]; simp

theorem rValid_ok (s : Su) (hl : s.cl.length ≤ 1000000000) : Gives CC 11 [encS s] [.c (.int .i64 (match validB s with | true => 0 | false => 1))] := by
  obtain ⟨x0, y0, x1, y1, th, ga, cl, sf⟩ := s
  refine wpF_ok (anns := fun _ => ⟨[.slot 3 (.bool false), .slot 4 (.int .i64 0)], [], fun _ ds => ∃ k : Nat, k ≤ cl.length ∧ ds = [.bool (headB ⟨x0, y0, x1, y1, th, ga, cl, sf⟩ && (cl.take k).all (clB th ga sf)), .int .i64 (k : Int)], fun ds => (cl.length - toI (nth .undef ds 1)).toNat⟩) mixedT Tryz.func11 ?_
  simp only at hl
  simp only [encS]
  rw [vc_rValid]
  simp only [Int.ofNat_eq_natCast, clRs_length]
  have hloop : ∀ (b : Bool) (n : Int),
      (∃ k : Nat, k ≤ cl.length ∧ [D.bool b, D.int .i64 n] = [.bool (headB ⟨x0, y0, x1, y1, th, ga, cl, sf⟩ && (cl.take k).all (clB th ga sf)), .int .i64 (k : Int)]) →
      br (toB (D.bool (decide (n < (cl.length : Int)))))
        (br b
          (((0 : Int) ≤ n ∧ n < (cl.length : Int) ∧ List.length (nth [] (clRs cl) (Int.toNat n)) = (5 : Nat)) ∧
            ∃ n_1 n_2 n_3 n_4 n_5,
              cut (nth [] (clRs cl) (Int.toNat n)) (0 : Nat) (5 : Nat)
                  [D.int IntKind.i64 n_1, D.int IntKind.i64 n_2, D.int IntKind.i64 n_3, D.int IntKind.i64 n_4, D.int IntKind.i64 n_5] ∧
                ∃ b_1,
                  Gives CC (28 : Nat)
                      [A.c (D.int IntKind.i64 n_1), A.c (D.int IntKind.i64 n_2), A.c (D.int IntKind.i64 n_3),
                        A.c (D.int IntKind.i64 n_4)]
                      [A.c (D.bool b_1)] ∧
                    br b_1
                      (∃ b_2,
                        Gives CC (29 : Nat)
                            [A.c (D.int IntKind.i64 n_5),
                              A.c (D.int IntKind.i64 (IntKind.wrap IntKind.i64 (IntKind.wrap IntKind.i64 ((0 : Int) - th) - ga)))]
                            [A.c (D.bool b_2)] ∧
                          br b_2
                            ((∃ k : Nat, k ≤ cl.length ∧ [D.bool (decide (n_5 < sf)), D.int .i64 (IntKind.wrap IntKind.i64 (n + (1 : Int)))] = [.bool (headB ⟨x0, y0, x1, y1, th, ga, cl, sf⟩ && (cl.take k).all (clB th ga sf)), .int .i64 (k : Int)]) ∧
                              (cl.length - toI (nth .undef [D.bool (decide (n_5 < sf)), D.int IntKind.i64 (IntKind.wrap IntKind.i64 (n + (1 : Int)))] 1)).toNat <
                                (cl.length - toI (nth .undef [D.bool b, D.int IntKind.i64 n] 1)).toNat)
                            ((∃ k : Nat, k ≤ cl.length ∧ [D.bool false, D.int .i64 (IntKind.wrap IntKind.i64 (n + (1 : Int)))] = [.bool (headB ⟨x0, y0, x1, y1, th, ga, cl, sf⟩ && (cl.take k).all (clB th ga sf)), .int .i64 (k : Int)]) ∧
                              (cl.length - toI (nth .undef [D.bool false, D.int IntKind.i64 (IntKind.wrap IntKind.i64 (n + (1 : Int)))] 1)).toNat <
                                (cl.length - toI (nth .undef [D.bool b, D.int IntKind.i64 n] 1)).toNat))
                      ((∃ k : Nat, k ≤ cl.length ∧ [D.bool false, D.int .i64 (IntKind.wrap IntKind.i64 (n + (1 : Int)))] = [.bool (headB ⟨x0, y0, x1, y1, th, ga, cl, sf⟩ && (cl.take k).all (clB th ga sf)), .int .i64 (k : Int)]) ∧
                              (cl.length - toI (nth .undef [D.bool false, D.int IntKind.i64 (IntKind.wrap IntKind.i64 (n + (1 : Int)))] 1)).toNat <
                                (cl.length - toI (nth .undef [D.bool b, D.int IntKind.i64 n] 1)).toNat))
          (br (toB (D.bool !b)) ([A.c (D.int IntKind.i64 (1 : Int))] = [.c (.int .i64 (match validB ⟨x0, y0, x1, y1, th, ga, cl, sf⟩ with | true => 0 | false => 1))]) ([A.c (D.int IntKind.i64 (0 : Int))] = [.c (.int .i64 (match validB ⟨x0, y0, x1, y1, th, ga, cl, sf⟩ with | true => 0 | false => 1))])))
        (br (toB (D.bool !b)) ([A.c (D.int IntKind.i64 (1 : Int))] = [.c (.int .i64 (match validB ⟨x0, y0, x1, y1, th, ga, cl, sf⟩ with | true => 0 | false => 1))]) ([A.c (D.int IntKind.i64 (0 : Int))] = [.c (.int .i64 (match validB ⟨x0, y0, x1, y1, th, ga, cl, sf⟩ with | true => 0 | false => 1))])) := by
    rintro b n ⟨k, hk, he⟩
    simp only [List.cons.injEq, D.bool.injEq, D.int.injEq, true_and, and_true] at he
    obtain ⟨hb, rfl⟩ := he
    refine brd (fun h => ?_) (fun h => ?_)
    · have hkl : k < cl.length := by omega
      have hw : IntKind.wrap .i64 ((k : Int) + 1) = ((k + 1 : Nat) : Int) := by rw [i64w (by omega) (by omega)]; omega
      have hs := all_take_succ (clB th ga sf) cl k hkl
      refine brb' (fun h1 => ?_) (fun h1 => ?_)
      · rw [h1] at hb
        have hb' := hb.symm
        rw [Bool.and_eq_true] at hb'
        obtain ⟨hh, ht⟩ := hb'
        rw [ht, Bool.true_and] at hs
        have hm : ∀ c : Bool, (cl.length - toI (nth .undef [D.bool c, D.int IntKind.i64 (((k + 1 : Nat) : Int))] 1)).toNat < (cl.length - toI (nth .undef [D.bool b, D.int IntKind.i64 (k : Int)] 1)).toNat := by
          intro c; simp only [nth, toI]; omega
        rw [hw, Int.toNat_natCast]
        refine ⟨⟨by omega, by omega, len_cl hkl⟩, _, _, _, _, _, cut_cl hkl, _, rrect_ok _ _ _ _, ?_⟩
        refine brb' (fun h2 => ?_) (fun h2 => ?_)
        · refine ⟨_, rlength_ok _ _, ?_⟩
          refine brb' (fun h3 => ?_) (fun h3 => ?_)
          · refine ⟨⟨k + 1, hkl, ?_⟩, hm _⟩
            rw [hs, hh, Bool.true_and]
            unfold clB
            rw [h2, Bool.true_and, tableZ, h3, Bool.true_and]
          · refine ⟨⟨k + 1, hkl, ?_⟩, hm _⟩
            rw [hs, hh, Bool.true_and]
            unfold clB
            rw [h2, Bool.true_and, tableZ, h3, Bool.false_and]
        · refine ⟨⟨k + 1, hkl, ?_⟩, hm _⟩
          rw [hs, hh, Bool.true_and]
          unfold clB
          rw [h2, Bool.false_and]
      · have hv : validB ⟨x0, y0, x1, y1, th, ga, cl, sf⟩ = false := by
          rw [h1] at hb
          have hb' := hb.symm
          rw [Bool.and_eq_false_iff] at hb'
          unfold validB
          rcases hb' with h2 | h2
          · rw [h2]; rfl
          · rw [Bool.and_eq_false_iff]
            refine .inr ?_
            rw [← List.take_append_drop k cl, List.all_append]
            simp only at h2 ⊢
            rw [h2]; rfl
        rw [h1, hv]; exact rfl
    · have hkl : k = cl.length := by omega
      subst hkl
      rw [List.take_length] at hb
      have hv : validB ⟨x0, y0, x1, y1, th, ga, cl, sf⟩ = b := hb.symm
      rw [hv]
      cases b <;> exact rfl
  have h0 : ∀ b : Bool, b = headB ⟨x0, y0, x1, y1, th, ga, cl, sf⟩ → ∃ k : Nat, k ≤ cl.length ∧ [D.bool b, D.int .i64 (0 : Int)] = [.bool (headB ⟨x0, y0, x1, y1, th, ga, cl, sf⟩ && (cl.take k).all (clB th ga sf)), .int .i64 (k : Int)] := fun b hb => ⟨0, by omega, by rw [hb]; simp⟩
  have hh : headB ⟨x0, y0, x1, y1, th, ga, cl, sf⟩ = (rectB x0 y0 x1 y1 && (lenB th 1 && (lenB ga 0 && (decide (cl.length ≤ 50) && lenB sf 1)))) := rfl
  refine ⟨_, rrect_ok _ _ _ _, brb' (fun h1 => ?_) (fun h1 => ⟨h0 _ (by rw [hh, h1]; rfl), hloop⟩)⟩
  refine ⟨_, rlength_ok _ _, brb' (fun h2 => ?_) (fun h2 => ⟨h0 _ (by rw [hh, h1, h2]; rfl), hloop⟩)⟩
  refine ⟨_, rlength_ok _ _, brb' (fun h3 => ?_) (fun h3 => ⟨h0 _ (by rw [hh, h1, h2, h3]; rfl), hloop⟩)⟩
  have e50 : decide ((cl.length : Int) ≤ 50) = decide (cl.length ≤ 50) := by rw [decide_eq_decide]; omega
  rw [e50]
  refine brb (fun h4 => ?_) (fun h4 => ⟨h0 _ (by rw [hh, h1, h2, h3, h4]; rfl), hloop⟩)
  exact ⟨_, rlength_ok _ _, h0 _ (by rw [hh, h1, h2, h3, h4]; rfl), hloop⟩

theorem rRight_ok (s : Su) (hl : s.cl.length ≤ 1000000000 ∨ 4 < s.cl.length) : Gives CC 15 [encS s] [.c (.bool (decide (s.cl.length ≤ 4) && validB s))] := by
  refine wpF_ok (anns := fun _ => ⟨[], [], fun _ _ => True, fun _ => 0⟩) mixedT Tryz.func15 ?_
  obtain ⟨x0, y0, x1, y1, th, ga, cl, sf⟩ := s
  simp only at hl ⊢
  simp only [encS]
  rw [vc_rRight]
  simp only [Int.ofNat_eq_natCast, clRs_length]
  have e4 : decide ((cl.length : Int) ≤ 4) = decide (cl.length ≤ 4) := by rw [decide_eq_decide]; omega
  rw [e4]
  refine brb (fun h => ?_) (fun h => by rw [h]; rfl)
  have h4 : cl.length ≤ 4 := by simpa using h
  refine ⟨_, rValid_ok ⟨x0, y0, x1, y1, th, ga, cl, sf⟩ (by simp only; omega), ?_⟩
  rw [h]
  cases validB ⟨x0, y0, x1, y1, th, ga, cl, sf⟩ <;> rfl

/-- The numbers of the clamps above a height, from k on. -/
def hiF (z : Int) : Nat → List Cl → List Nat
  | _, [] => []
  | k, c :: r => match decide (c.top > z) with
    | true => k :: hiF z (k + 1) r
    | false => hiF z (k + 1) r
theorem hiF_append (z : Int) : ∀ (a b : List Cl) (k : Nat), hiF z k (a ++ b) = hiF z k a ++ hiF z (k + a.length) b
  | [], b, k => by simp [hiF]
  | c :: a, b, k => by
    simp only [List.cons_append, hiF, List.length_cons]
    rw [hiF_append z a b (k + 1), Nat.add_right_comm, Nat.add_assoc k]
    split <;> simp
theorem hiF_len (z : Int) : ∀ (l : List Cl) (k : Nat), (hiF z k l).length ≤ l.length
  | [], _ => by simp [hiF]
  | c :: l, k => by
    have := hiF_len z l (k + 1)
    simp only [hiF, List.length_cons]
    split
    · simp only [List.length_cons]; omega
    · omega
def idxD (l : List Nat) : List (List D) := l.map fun (x : Nat) => [.int .i64 (x : Int)]
theorem idxD_append (a b : List Nat) : idxD (a ++ b) = idxD a ++ idxD b := by simp [idxD]
theorem idxD_length (a : List Nat) : (idxD a).length = a.length := by simp [idxD]
theorem nth_idx {l : List Nat} {i : Nat} (h : i < l.length) : nth [] (idxD l) i = [.int .i64 ((l[i] : Nat))] := by
  rw [nth_eq]; simp [idxD, h]
theorem hi_take_succ (z : Int) (l : List Cl) (k : Nat) (h : k < l.length) : hiF z 0 (l.take (k + 1)) = hiF z 0 (l.take k) ++ (match decide (l[k].top > z) with | true => [k] | false => []) := by
  rw [List.take_succ_eq_append_getElem h, hiF_append]
  have : (l.take k).length = k := by rw [List.length_take]; omega
  rw [this, Nat.zero_add]
  simp only [hiF]

theorem pHigher_ok (s : Su) (z : Int) (hl : s.cl.length ≤ 1000000000) : Gives CC 16 [encS s, .c (.int .i64 z)] [.c (.sl (idxD (hiF z 0 s.cl)))] := by
  obtain ⟨x0, y0, x1, y1, th, ga, cl, sf⟩ := s
  refine wpF_ok (anns := fun _ => ⟨[.own 5 26 1, .slot 11 (.int .i64 0)], [], fun _ ds => ∃ k : Nat, k ≤ cl.length ∧ ds = [.sl (idxD (hiF z 0 (cl.take k))), .int .i64 (k : Int)], fun ds => (cl.length - toI (nth .undef ds 1)).toNat⟩) mixedT Tryz.func16 ?_
  simp only at hl
  simp only [encS]
  rw [vc_pHigher]
  simp only [Int.ofNat_eq_natCast, clRs_length]
  refine ⟨⟨0, by omega, rfl⟩, ?_⟩
  rintro es n ⟨k, hk, he⟩
  simp only [List.cons.injEq, D.sl.injEq, D.int.injEq, true_and, and_true] at he
  obtain ⟨rfl, rfl⟩ := he
  have hlen := hiF_len z (cl.take k) 0
  have hlt : (cl.take k).length = k := by rw [List.length_take]; omega
  refine brd (fun h => ?_) (fun h => ?_)
  · have hkl : k < cl.length := by omega
    have hw : IntKind.wrap .i64 ((k : Int) + 1) = ((k + 1 : Nat) : Int) := by rw [i64w (by omega) (by omega)]; omega
    have hs := hi_take_succ z cl k hkl
    rw [hw, Int.toNat_natCast]
    refine ⟨⟨by omega, by omega, len_cl hkl⟩, _, _, _, _, _, cut_cl hkl, brb (fun h2 => ?_) (fun h2 => ?_)⟩
    · rw [h2] at hs
      refine ⟨⟨by rw [idxD_length]; unfold room; omega, by intro e he; simp at he; subst he; rfl⟩, ⟨k + 1, by omega, ?_⟩, by simp only [nth, toI]; omega⟩
      rw [hs, idxD_append]; rfl
    · rw [h2] at hs
      refine ⟨⟨k + 1, by omega, ?_⟩, by simp only [nth, toI]; omega⟩
      rw [hs, List.append_nil]
  · have hkl : k = cl.length := by omega
    subst hkl
    rw [List.take_length]

theorem rHigher_ok (s : Su) (z : Int) (hl : s.cl.length ≤ 1000000000) : Gives CC 17 [encS s, .c (.int .i64 z)] [.c (.sl (idxD (hiF z 0 s.cl)))] := by
  obtain ⟨x0, y0, x1, y1, th, ga, cl, sf⟩ := s
  refine wpF_ok (anns := fun _ => ⟨[.own 5 27 1, .slot 6 (.int .i64 0)], [], fun _ ds => ∃ k : Nat, k ≤ cl.length ∧ ds = [.sl (idxD (hiF z 0 (cl.take k))), .int .i64 (k : Int)], fun ds => (cl.length - toI (nth .undef ds 1)).toNat⟩) mixedT Tryz.func17 ?_
  simp only at hl
  simp only [encS]
  rw [vc_rHigher]
  simp only [Int.ofNat_eq_natCast, clRs_length]
  refine ⟨⟨0, by omega, rfl⟩, ?_⟩
  rintro es n ⟨k, hk, he⟩
  simp only [List.cons.injEq, D.sl.injEq, D.int.injEq, true_and, and_true] at he
  obtain ⟨rfl, rfl⟩ := he
  have hlen := hiF_len z (cl.take k) 0
  have hlt : (cl.take k).length = k := by rw [List.length_take]; omega
  refine brd (fun h => ?_) (fun h => ?_)
  · have hkl : k < cl.length := by omega
    have hw : IntKind.wrap .i64 ((k : Int) + 1) = ((k + 1 : Nat) : Int) := by rw [i64w (by omega) (by omega)]; omega
    have hs := hi_take_succ z cl k hkl
    rw [hw, Int.toNat_natCast]
    refine ⟨⟨by omega, by omega, len_cl hkl⟩, _, cut_top hkl, brb (fun h2 => ?_) (fun h2 => ?_)⟩
    · rw [h2] at hs
      refine ⟨⟨by rw [idxD_length]; unfold room; omega, by intro e he; simp at he; subst he; rfl⟩, ⟨k + 1, by omega, ?_⟩, by simp only [nth, toI]; omega⟩
      rw [hs, idxD_append]; rfl
    · rw [h2] at hs
      refine ⟨⟨k + 1, by omega, ?_⟩, by simp only [nth, toI]; omega⟩
      rw [hs, List.append_nil]
  · have hkl : k = cl.length := by omega
    subst hkl
    rw [List.take_length]

/-- SetupHigher returns true. -/
theorem lHigher_ok (haw : Gives CC 7 [] [.c (.bool true)]) (s : Su) (z : Int) : Gives CC 6 [encS s, .c (.int .i64 z)] [.c (.bool true)] := by
  obtain ⟨x0, y0, x1, y1, th, ga, cl, sf⟩ := s
  have hR := rRight_ok ⟨x0, y0, x1, y1, th, ga, cl, sf⟩ (by simp only; omega)
  refine wpF_ok (anns := fun _ => ⟨[.slot 29 (.int .i64 0)], [], fun _ ds => ∃ k : Nat, k ≤ (hiF z 0 cl).length ∧ ds = [.int .i64 (k : Int)], fun ds => ((hiF z 0 cl).length - toI (nth .undef ds 0)).toNat⟩) mixedT Tryz.func6 ?_
  simp only [encS] at hR ⊢
  rw [vc_lHigher]
  simp only [Int.ofNat_eq_natCast]
  refine ⟨_, haw, brb (fun h => by simp at h) (fun _ => ⟨_, hR, brb (fun h => ⟨_, haw, rfl⟩) (fun h => ?_)⟩)⟩
  have h4 : cl.length ≤ 4 := by simp at h; exact h.1
  have hp := pHigher_ok ⟨x0, y0, x1, y1, th, ga, cl, sf⟩ z (by simp only; omega)
  have hr := rHigher_ok ⟨x0, y0, x1, y1, th, ga, cl, sf⟩ z (by simp only; omega)
  have hlen := hiF_len z cl 0
  simp only at hp hr
  refine ⟨_, hp, _, hr, brb (fun h => by simp at h) (fun _ => ⟨⟨0, by omega, rfl⟩, ?_⟩)⟩
  rintro n ⟨k, hk, he⟩
  simp only [List.cons.injEq, D.int.injEq, true_and, and_true] at he
  subst he
  rw [idxD_length]
  refine brd (fun h => ?_) (fun _ => trivial)
  have hkl : k < (hiF z 0 cl).length := by omega
  have hw : IntKind.wrap .i64 ((k : Int) + 1) = ((k + 1 : Nat) : Int) := by rw [i64w (by omega) (by omega)]; omega
  rw [hw, Int.toNat_natCast, nth_idx hkl]
  refine ⟨⟨by omega, by omega, rfl⟩, _, ⟨rfl, by simp⟩, ⟨by omega, by omega, rfl⟩, _, ⟨rfl, by simp⟩, brb (fun h => by simp at h) (fun _ => ⟨⟨k + 1, by omega, rfl⟩, by simp only [nth, toI]; omega⟩)⟩
end Eng
end
