/- The verification conditions of functions, printed by a program (vcgen.py) and checked by the kernel. -/
import Derived.Test.YtmgkoomljkbfiaaGreatDoorCtxB
import Derived.Test.YtmgkoomljkbfiaaGreatDoorSetA
import Derived.Test.YtmgkoomljkbfiaaGreatDoorRefB
import Derived.Test.YtmgkoomljkbfiaaGreatDoorRefC
import Derived.KernelRfl
import Derived.Lib.ItoaNum
section
/- The verification conditions of functions, printed by a program (vcgen.py) and checked by the kernel. -/
open Go Go.Proofs Eng
set_option maxRecDepth 1000000
namespace Eng
theorem vc_mrect (Gv : Nat → List A → List A → Prop) (a b c d : Int) (Q : List A → Prop) :
    wpF CC Gv (fun _ => ⟨[], [], fun _ _ => True, fun _ => 0⟩) Tryz.f26 [.c (.int .i64 a), .c (.int .i64 b), .c (.int .i64 c), .c (.int .i64 d)] Q = (
 br (toB (D.bool (decide (a < c))))
  (br (toB (D.bool (decide (b < d))))
    (br (toB (D.bool (decide (a ≥ (-10000000 : Int)))))
      (br (toB (D.bool (decide (b ≥ (-10000000 : Int)))))
        (br (toB (D.bool (decide (c ≤ (10000000 : Int))))) (Q [A.c (D.bool (decide (d ≤ (10000000 : Int))))]) (Q [A.c (D.bool false)]))
        (Q [A.c (D.bool false)]))
      (Q [A.c (D.bool false)]))
    (Q [A.c (D.bool false)]))
  (Q [A.c (D.bool false)])) := by kernel_rfl
theorem vc_mwithin (Gv : Nat → List A → List A → Prop) (n low : Int) (Q : List A → Prop) :
    wpF CC Gv (fun _ => ⟨[], [], fun _ _ => True, fun _ => 0⟩) Tryz.f27 [.c (.int .i64 n), .c (.int .i64 low)] Q = (
 br (toB (D.bool (decide (n ≥ low)))) (Q [A.c (D.bool (decide (n ≤ (10000000 : Int))))]) (Q [A.c (D.bool false)])) := by kernel_rfl
theorem vc_mTable (Gv : Nat → List A → List A → Prop) (x0 y0 x1 y1 th ga sf : Int) (es : List (List D)) (Q : List A → Prop) :
    wpF CC Gv (fun _ => ⟨[], [], fun _ _ => True, fun _ => 0⟩) Tryz.f21 [.ag [.int .i64 x0, .int .i64 y0, .int .i64 x1, .int .i64 y1, .int .i64 th, .int .i64 ga, .sl es, .int .i64 sf]] Q = (
 Q [A.c (D.int IntKind.i64 (IntKind.wrap IntKind.i64 (IntKind.wrap IntKind.i64 ((0 : Int) - th) - ga)))]) := by kernel_rfl
theorem vc_mValid (Gv : Nat → List A → List A → Prop) (I0 : List D → List D → Prop) (M0 : List D → Nat) (x0 y0 x1 y1 th ga sf : Int) (es : List (List D)) (Q : List A → Prop) :
    wpF CC Gv (fun _ => ⟨[.slot 42 (.int .i64 0)], [], I0, M0⟩) Tryz.f10 [.ag [.int .i64 x0, .int .i64 y0, .int .i64 x1, .int .i64 y1, .int .i64 th, .int .i64 ga, .sl es, .int .i64 sf]] Q = (
 ∃ b,
  Gv (26 : Nat) [A.c (D.int IntKind.i64 x0), A.c (D.int IntKind.i64 y0), A.c (D.int IntKind.i64 x1), A.c (D.int IntKind.i64 y1)] [A.c (D.bool b)] ∧
    br (toB (D.bool !b)) (Q [A.c (D.int IntKind.i64 (1 : Int))])
      (∃ b,
        Gv (27 : Nat) [A.c (D.int IntKind.i64 th), A.c (D.int IntKind.i64 (1 : Int))] [A.c (D.bool b)] ∧
          br (toB (D.bool !b)) (Q [A.c (D.int IntKind.i64 (1 : Int))])
            (∃ b,
              Gv (27 : Nat) [A.c (D.int IntKind.i64 ga), A.c (D.int IntKind.i64 (0 : Int))] [A.c (D.bool b)] ∧
                br (toB (D.bool !b)) (Q [A.c (D.int IntKind.i64 (1 : Int))])
                  (∃ b,
                    Gv (27 : Nat) [A.c (D.int IntKind.i64 sf), A.c (D.int IntKind.i64 (1 : Int))] [A.c (D.bool b)] ∧
                      br (toB (D.bool !b)) (Q [A.c (D.int IntKind.i64 (1 : Int))])
                        (br (toB (D.bool (decide ((Int.ofNat (List.length es)) > (50 : Int))))) (Q [A.c (D.int IntKind.i64 (1 : Int))])
                          (I0 [] [D.int IntKind.i64 (0 : Int)] ∧
                            ∀ (n : Int),
                              I0 [] [D.int IntKind.i64 n] →
                                br (toB (D.bool (decide (n < (Int.ofNat (List.length es))))))
                                  (((0 : Int) ≤ n ∧ n < (Int.ofNat (List.length es)) ∧ List.length (nth [] es (Int.toNat n)) = (5 : Nat)) ∧
                                    ∃ n_1 n_2 n_3 n_4 n_5,
                                      cut (nth [] es (Int.toNat n)) (0 : Nat) (5 : Nat)
                                          [D.int IntKind.i64 n_1, D.int IntKind.i64 n_2, D.int IntKind.i64 n_3, D.int IntKind.i64 n_4, D.int IntKind.i64 n_5] ∧
                                        ∃ b,
                                          Gv (26 : Nat)
                                              [A.c (D.int IntKind.i64 n_1), A.c (D.int IntKind.i64 n_2), A.c (D.int IntKind.i64 n_3),
                                                A.c (D.int IntKind.i64 n_4)]
                                              [A.c (D.bool b)] ∧
                                            br (toB (D.bool !b)) (Q [A.c (D.int IntKind.i64 (1 : Int))])
                                              (∃ n_6,
                                                Gv (21 : Nat)
                                                    [A.ag
                                                        [D.int IntKind.i64 x0, D.int IntKind.i64 y0, D.int IntKind.i64 x1, D.int IntKind.i64 y1,
                                                          D.int IntKind.i64 th, D.int IntKind.i64 ga, D.sl es, D.int IntKind.i64 sf]]
                                                    [A.c (D.int IntKind.i64 n_6)] ∧
                                                  ∃ b,
                                                    Gv (27 : Nat) [A.c (D.int IntKind.i64 n_5), A.c (D.int IntKind.i64 n_6)] [A.c (D.bool b)] ∧
                                                      br (toB (D.bool !b)) (Q [A.c (D.int IntKind.i64 (1 : Int))])
                                                        (br (toB (D.bool (decide (n_5 ≥ sf)))) (Q [A.c (D.int IntKind.i64 (1 : Int))])
                                                          (I0 [] [D.int IntKind.i64 (IntKind.wrap IntKind.i64 (n + (1 : Int)))] ∧
                                                            M0 [D.int IntKind.i64 (IntKind.wrap IntKind.i64 (n + (1 : Int)))] < M0 [D.int IntKind.i64 n]))))
                                  (Q [A.c (D.int IntKind.i64 (0 : Int))]))))))) := by kernel_rfl
theorem vc_mTrimRB (Gv : Nat → List A → List A → Prop) (I0 : List D → List D → Prop) (M0 : List D → Nat) (s : List UInt8) (Q : List A → Prop) :
    wpF CC Gv (fun _ => ⟨[.slot 0 (.string ⟨#[]⟩)], [], I0, M0⟩) Tryz.f98 [.c (.str s), .c (.int .u8 48)] Q = (
 I0 [] [D.str s] ∧
  ∀ (s : List UInt8),
    I0 [] [D.str s] →
      br (toB (D.bool (decide ((Int.ofNat (List.length s)) > (0 : Int)))))
        (((0 : Int) ≤ IntKind.wrap IntKind.i64 ((Int.ofNat (List.length s)) - (1 : Int)) ∧ IntKind.wrap IntKind.i64 ((Int.ofNat (List.length s)) - (1 : Int)) < (Int.ofNat (List.length s))) ∧
          br (toB (D.bool ((Int.ofNat (UInt8.toNat (nth (0 : UInt8) s (Int.toNat (IntKind.wrap IntKind.i64 ((Int.ofNat (List.length s)) - (1 : Int))))))) == (48 : Int))))
            (((0 : Int) ≤ (0 : Int) ∧
                (0 : Int) ≤ IntKind.wrap IntKind.i64 ((Int.ofNat (List.length s)) - (1 : Int)) ∧
                  IntKind.wrap IntKind.i64 ((Int.ofNat (List.length s)) - (1 : Int)) ≤ (Int.ofNat (List.length s))) ∧
              I0 [] [D.str (List.drop (0 : Nat) (List.take (Int.toNat (IntKind.wrap IntKind.i64 ((Int.ofNat (List.length s)) - (1 : Int)))) s))] ∧
                M0 [D.str (List.drop (0 : Nat) (List.take (Int.toNat (IntKind.wrap IntKind.i64 ((Int.ofNat (List.length s)) - (1 : Int)))) s))] < M0 [D.str s])
            (Q [A.c (D.str s)]))
        (Q [A.c (D.str s)])) := by kernel_rfl
theorem vc_mTrimR (Gv : Nat → List A → List A → Prop) (s : List UInt8) (Q : List A → Prop) :
    wpF CC Gv (fun _ => ⟨[], [], fun _ _ => True, fun _ => 0⟩) Tryz.f62 [.c (.str s), .c (.str [48])] Q = (
 br (toB (D.bool (s == []))) (Q [A.c (D.str s)])
  (((0 : Int) ≤ (0 : Int) ∧ (0 : Int) < (1 : Int)) ∧
    ((0 : Int) ≤ (0 : Int) ∧ (0 : Int) < (1 : Int)) ∧
      ∃ s_1, Gv (98 : Nat) [A.c (D.str s), A.c (D.int IntKind.u8 (48 : Int))] [A.c (D.str s_1)] ∧ Q [A.c (D.str s_1)])) := by kernel_rfl
theorem vc_mMm (Gv : Nat → List A → List A → Prop) (n : Int) (Q : List A → Prop) :
    wpF CC Gv (fun _ => ⟨[], [], fun _ _ => True, fun _ => 0⟩) Tryz.f39 [.c (.int .i64 n)] Q = (
 br (toB (D.bool (decide (n < (0 : Int)))))
  ((1000 : Int) ≠ (0 : Int) ∧
    ∃ s,
      Gv (61 : Nat)
          [A.c (D.int IntKind.u64 (IntKind.wrap IntKind.u64 (Int.tdiv (IntKind.wrap IntKind.u64 ((0 : Int) - IntKind.wrap IntKind.u64 n)) (1000 : Int)))),
            A.c (D.int IntKind.i64 (10 : Int))]
          [A.c (D.str s)] ∧
        room ((1 : Nat) + List.length s) ∧
          (1000 : Int) ≠ (0 : Int) ∧
            br (toB (D.bool (Int.tmod (IntKind.wrap IntKind.u64 ((0 : Int) - IntKind.wrap IntKind.u64 n)) (1000 : Int) != (0 : Int))))
              ((1000 : Int) ≠ (0 : Int) ∧
                ∃ s_1,
                  Gv (61 : Nat)
                      [A.c
                          (D.int IntKind.u64
                            (IntKind.wrap IntKind.u64
                              ((1000 : Int) + Int.tmod (IntKind.wrap IntKind.u64 ((0 : Int) - IntKind.wrap IntKind.u64 n)) (1000 : Int)))),
                        A.c (D.int IntKind.i64 (10 : Int))]
                      [A.c (D.str s_1)] ∧
                    ((0 : Int) ≤ (1 : Int) ∧ (1 : Int) ≤ (Int.ofNat (List.length s_1)) ∧ (Int.ofNat (List.length s_1)) ≤ (Int.ofNat (List.length s_1))) ∧
                      ∃ s_2,
                        Gv (62 : Nat) [A.c (D.str (List.drop (1 : Nat) (List.take (Int.toNat (Int.ofNat (List.length s_1))) s_1))), A.c (D.str [(48 : UInt8)])]
                            [A.c (D.str s_2)] ∧
                          room ((1 : Nat) + List.length s_2) ∧
                            room (List.length ((45 : UInt8) :: s) + List.length ((46 : UInt8) :: s_2)) ∧
                              Q
                                [A.c
                                    (D.str
                                      ((45 : UInt8) ::
                                        (s ++ ((46 : UInt8) :: s_2))))])
              (Q [A.c (D.str ((45 : UInt8) :: s))]))
  ((1000 : Int) ≠ (0 : Int) ∧
    ∃ s,
      Gv (61 : Nat)
          [A.c (D.int IntKind.u64 (IntKind.wrap IntKind.u64 (Int.tdiv (IntKind.wrap IntKind.u64 n) (1000 : Int)))), A.c (D.int IntKind.i64 (10 : Int))]
          [A.c (D.str s)] ∧
        room ((0 : Nat) + List.length s) ∧
          (1000 : Int) ≠ (0 : Int) ∧
            br (toB (D.bool (Int.tmod (IntKind.wrap IntKind.u64 n) (1000 : Int) != (0 : Int))))
              ((1000 : Int) ≠ (0 : Int) ∧
                ∃ s_1,
                  Gv (61 : Nat)
                      [A.c (D.int IntKind.u64 (IntKind.wrap IntKind.u64 ((1000 : Int) + Int.tmod (IntKind.wrap IntKind.u64 n) (1000 : Int)))),
                        A.c (D.int IntKind.i64 (10 : Int))]
                      [A.c (D.str s_1)] ∧
                    ((0 : Int) ≤ (1 : Int) ∧ (1 : Int) ≤ (Int.ofNat (List.length s_1)) ∧ (Int.ofNat (List.length s_1)) ≤ (Int.ofNat (List.length s_1))) ∧
                      ∃ s_2,
                        Gv (62 : Nat) [A.c (D.str (List.drop (1 : Nat) (List.take (Int.toNat (Int.ofNat (List.length s_1))) s_1))), A.c (D.str [(48 : UInt8)])]
                            [A.c (D.str s_2)] ∧
                          room ((1 : Nat) + List.length s_2) ∧
                            room (List.length s + List.length ((46 : UInt8) :: s_2)) ∧ Q [A.c (D.str (s ++ (46 : UInt8) :: s_2))])
              (Q [A.c (D.str s)]))) := by kernel_rfl
theorem vc_mline (Gv : Nat → List A → List A → Prop) (I0 : List D → List D → Prop) (M0 : List D → Nat) (s : List UInt8) (es : List (List D)) (Q : List A → Prop) :
    wpF CC Gv (fun _ => ⟨[.slot 9 (.int .i64 0), .slot 0 (.string ⟨#[]⟩)], [], I0, M0⟩) Tryz.f23 [.c (.str s), .c (.sl es)] Q = (
 I0 [] [D.int IntKind.i64 (0 : Int), D.str s] ∧
  ∀ (n : Int) (s : List UInt8),
    I0 [] [D.int IntKind.i64 n, D.str s] →
      br (toB (D.bool (decide (n < (Int.ofNat (List.length es))))))
        (((0 : Int) ≤ n ∧ n < (Int.ofNat (List.length es)) ∧ List.length (nth [] es (Int.toNat n)) = (1 : Nat)) ∧
          ∃ n_1,
            cut (nth [] es (Int.toNat n)) (0 : Nat) (1 : Nat) [D.int IntKind.i64 n_1] ∧
              ∃ s_1,
                Gv (39 : Nat) [A.c (D.int IntKind.i64 n_1)] [A.c (D.str s_1)] ∧
                  room ((1 : Nat) + List.length s_1) ∧
                    room (List.length s + List.length ((32 : UInt8) :: s_1)) ∧
                      I0 [] [D.int IntKind.i64 (IntKind.wrap IntKind.i64 (n + (1 : Int))), D.str (s ++ (32 : UInt8) :: s_1)] ∧
                        M0 [D.int IntKind.i64 (IntKind.wrap IntKind.i64 (n + (1 : Int))), D.str (s ++ (32 : UInt8) :: s_1)] < M0 [D.int IntKind.i64 n, D.str s])
        (room (List.length s + (1 : Nat)) ∧ Q [A.c (D.str (s ++ [(10 : UInt8)]))])) := by kernel_rfl
theorem vc_mFormat (Gv : Nat → List A → List A → Prop) (I0 : List D → List D → Prop) (M0 : List D → Nat) (x0 y0 x1 y1 th ga sf : Int) (es : List (List D)) (Q : List A → Prop) :
    wpF CC Gv (fun _ => ⟨[.slot 36 (.int .i64 0), .bld 5 50 55], [], I0, M0⟩) Tryz.f8 [.ag [.int .i64 x0, .int .i64 y0, .int .i64 x1, .int .i64 y1, .int .i64 th, .int .i64 ga, .sl es, .int .i64 sf]] Q = (
 ∃ n,
  Gv (10 : Nat)
      [A.ag
          [D.int IntKind.i64 x0, D.int IntKind.i64 y0, D.int IntKind.i64 x1, D.int IntKind.i64 y1, D.int IntKind.i64 th, D.int IntKind.i64 ga, D.sl es,
            D.int IntKind.i64 sf]]
      [A.c (D.int IntKind.i64 n)] ∧
    br (toB (D.bool (n != (0 : Int)))) (Q [A.c (D.str []), A.c (D.int IntKind.i64 n)])
      (∃ s,
        Gv (23 : Nat)
            [A.c (D.str [(115 : UInt8), (116 : UInt8), (111 : UInt8), (99 : UInt8), (107 : UInt8)]),
              A.c
                (D.sl
                  [[D.int IntKind.i64 x0], [D.int IntKind.i64 y0], [D.int IntKind.i64 x1], [D.int IntKind.i64 y1], [D.int IntKind.i64 th],
                    [D.int IntKind.i64 ga]])]
            [A.c (D.str s)] ∧
          ∃ s_1,
            Gv (23 : Nat) [A.c (D.str [(115 : UInt8), (97 : UInt8), (102 : UInt8), (101 : UInt8)]), A.c (D.sl [[D.int IntKind.i64 sf]])] [A.c (D.str s_1)] ∧
              room (List.length s + List.length s_1) ∧
                room (List.length (rowsOf (s ++ s_1))) ∧
                  I0 [] [D.int IntKind.i64 (0 : Int), D.sl (rowsOf (s ++ s_1))] ∧
                    ∀ (n : Int) (es_1 : List (List D)),
                      I0 [] [D.int IntKind.i64 n, D.sl es_1] →
                        br (toB (D.bool (decide (n < (Int.ofNat (List.length es))))))
                          (((0 : Int) ≤ n ∧ n < (Int.ofNat (List.length es)) ∧ List.length (nth [] es (Int.toNat n)) = (5 : Nat)) ∧
                            ∃ n_1 n_2 n_3 n_4 n_5,
                              cut (nth [] es (Int.toNat n)) (0 : Nat) (5 : Nat)
                                  [D.int IntKind.i64 n_1, D.int IntKind.i64 n_2, D.int IntKind.i64 n_3, D.int IntKind.i64 n_4, D.int IntKind.i64 n_5] ∧
                                ∃ s,
                                  Gv (23 : Nat)
                                      [A.c (D.str [(99 : UInt8), (108 : UInt8), (97 : UInt8), (109 : UInt8), (112 : UInt8)]),
                                        A.c
                                          (D.sl
                                            [[D.int IntKind.i64 n_1], [D.int IntKind.i64 n_2], [D.int IntKind.i64 n_3], [D.int IntKind.i64 n_4],
                                              [D.int IntKind.i64 n_5]])]
                                      [A.c (D.str s)] ∧
                                    room (List.length es_1 + List.length (rowsOf s)) ∧
                                      I0 [] [D.int IntKind.i64 (IntKind.wrap IntKind.i64 (n + (1 : Int))), D.sl (es_1 ++ rowsOf s)] ∧
                                        M0 [D.int IntKind.i64 (IntKind.wrap IntKind.i64 (n + (1 : Int))), D.sl (es_1 ++ rowsOf s)] <
                                          M0 [D.int IntKind.i64 n, D.sl es_1])
                          ((es_1 ≠ [] ∧ bytesOk es_1 = true) ∧ Q [A.c (D.str (toBytes es_1)), A.c (D.int IntKind.i64 (0 : Int))]))) := by kernel_rfl
theorem vc_nFmtI (Gv : Nat → List A → List A → Prop) (I0 : List D → List D → Prop) (M0 : List D → Nat) (I1 : List D → List D → Prop) (M1 : List D → Nat) (I2 : List D → List D → Prop) (M2 : List D → Nat) (p : Bool) (es : List (List D)) (Q : List A → Prop) :
    wpF CC Gv (ann3 ⟨[.slot 3 (.string ⟨#[]⟩), .slot 4 (.int .i64 0)], [], I0, M0⟩ ⟨[.slot 3 (.string ⟨#[]⟩), .slot 5 (.int .u32 0), .slot 6 (.int .i64 0)], [.slot 3 (.string ⟨#[]⟩), .slot 4 (.int .i64 0), .slot 5 (.int .u32 0)], I1, M1⟩ ⟨[.slot 3 (.string ⟨#[]⟩)], [], I2, M2⟩) Tryz.f155 [.ag [.bool p, .sl es]] Q = (
 br (toB (D.bool ((Int.ofNat (List.length es)) == (0 : Int)))) (Q [A.c (D.str [(48 : UInt8)])])
  (I0 [] [D.str [], D.int IntKind.i64 (0 : Int)] ∧
    ∀ (s : List UInt8) (n : Int),
      I0 [] [D.str s, D.int IntKind.i64 n] →
        br (toB (D.bool (decide (n < (Int.ofNat (List.length es))))))
          (((0 : Int) ≤ n ∧ n < (Int.ofNat (List.length es)) ∧ List.length (nth [] es (Int.toNat n)) = (1 : Nat)) ∧
            ∃ n_1,
              cut (nth [] es (Int.toNat n)) (0 : Nat) (1 : Nat) [D.int IntKind.u32 n_1] ∧
                I1 [D.str s, D.int IntKind.i64 n, D.int IntKind.u32 n_1] [D.str s, D.int IntKind.u32 n_1, D.int IntKind.i64 (0 : Int)] ∧
                  ∀ (s_1 : List UInt8) (n_2 n_3 : Int),
                    I1 [D.str s, D.int IntKind.i64 n, D.int IntKind.u32 n_1] [D.str s_1, D.int IntKind.u32 n_2, D.int IntKind.i64 n_3] →
                      br (toB (D.bool (decide (n_3 < (9 : Int)))))
                        ((10 : Int) ≠ (0 : Int) ∧
                          ((0 : Int) ≤ IntKind.wrap IntKind.i32 (IntKind.wrap IntKind.u32 ((48 : Int) + Int.tmod n_2 (10 : Int))) ∧
                              IntKind.wrap IntKind.i32 (IntKind.wrap IntKind.u32 ((48 : Int) + Int.tmod n_2 (10 : Int))) < (128 : Int)) ∧
                            room ((1 : Nat) + List.length s_1) ∧
                              (10 : Int) ≠ (0 : Int) ∧
                                I1 [D.str s, D.int IntKind.i64 n, D.int IntKind.u32 n_1]
                                    [D.str
                                        (UInt8.ofNat (Int.toNat (IntKind.wrap IntKind.i32 (IntKind.wrap IntKind.u32 ((48 : Int) + Int.tmod n_2 (10 : Int))))) ::
                                          s_1),
                                      D.int IntKind.u32 (IntKind.wrap IntKind.u32 (Int.tdiv n_2 (10 : Int))),
                                      D.int IntKind.i64 (IntKind.wrap IntKind.i64 (n_3 + (1 : Int)))] ∧
                                  M1
                                      [D.str
                                          (UInt8.ofNat
                                              (Int.toNat (IntKind.wrap IntKind.i32 (IntKind.wrap IntKind.u32 ((48 : Int) + Int.tmod n_2 (10 : Int))))) ::
                                            s_1),
                                        D.int IntKind.u32 (IntKind.wrap IntKind.u32 (Int.tdiv n_2 (10 : Int))),
                                        D.int IntKind.i64 (IntKind.wrap IntKind.i64 (n_3 + (1 : Int)))] <
                                    M1 [D.str s_1, D.int IntKind.u32 n_2, D.int IntKind.i64 n_3])
                        (I0 [] [D.str s_1, D.int IntKind.i64 (IntKind.wrap IntKind.i64 (n + (1 : Int)))] ∧
                          M0 [D.str s_1, D.int IntKind.i64 (IntKind.wrap IntKind.i64 (n + (1 : Int)))] < M0 [D.str s, D.int IntKind.i64 n]))
          (I2 [] [D.str s] ∧
            ∀ (s : List UInt8),
              I2 [] [D.str s] →
                ((0 : Int) ≤ (0 : Int) ∧ (0 : Int) < (Int.ofNat (List.length s))) ∧
                  br (toB (D.bool ((Int.ofNat (UInt8.toNat (nth (0 : UInt8) s (Int.toNat (0 : Int))))) == (48 : Int))))
                    (((0 : Int) ≤ (1 : Int) ∧ (1 : Int) ≤ (Int.ofNat (List.length s)) ∧ (Int.ofNat (List.length s)) ≤ (Int.ofNat (List.length s))) ∧
                      I2 [] [D.str (List.drop (1 : Nat) (List.take (Int.toNat (Int.ofNat (List.length s))) s))] ∧
                        M2 [D.str (List.drop (1 : Nat) (List.take (Int.toNat (Int.ofNat (List.length s))) s))] < M2 [D.str s])
                    (br p (room ((1 : Nat) + List.length s) ∧ Q [A.c (D.str ((45 : UInt8) :: s))]) (Q [A.c (D.str s)]))))) := by kernel_rfl
theorem vc_nSame (Gv : Nat → List A → List A → Prop) (p q : Bool) (es fs : List (List D)) (Q : List A → Prop) :
    wpF CC Gv (fun _ => ⟨[], [], fun _ _ => True, fun _ => 0⟩) Tryz.f103 [.ag [.bool p, .sl es], .ag [.bool q, .sl fs]] Q = (
 br (toB (D.bool (p == q))) (∃ n, Gv (74 : Nat) [A.c (D.sl es), A.c (D.sl fs)] [A.c (D.int IntKind.i64 n)] ∧ Q [A.c (D.bool (n == (0 : Int)))])
  (Q [A.c (D.bool false)])) := by kernel_rfl
theorem vc_nFrac (Gv : Nat → List A → List A → Prop) (m d : Int) (Q : List A → Prop) :
    wpF CC Gv (fun _ => ⟨[], [], fun _ _ => True, fun _ => 0⟩) Tryz.f64 [.c (.int .i64 m), .c (.int .i64 d)] Q = (
 br (toB (D.bool (d == (0 : Int))))
  (∃ b es,
    Gv (53 : Nat) [A.c (D.int IntKind.i64 (0 : Int))] [A.ag [D.bool b, D.sl es]] ∧
      ∃ b_1 es_1,
        Gv (53 : Nat) [A.c (D.int IntKind.i64 (1 : Int))] [A.ag [D.bool b_1, D.sl es_1]] ∧
          ∃ b_2 es_2 b_3 es_3,
            Gv (79 : Nat) [A.ag [D.bool b, D.sl es], A.ag [D.bool b_1, D.sl es_1]] [A.ag [D.bool b_2, D.sl es_2, D.bool b_3, D.sl es_3]] ∧
              Q [A.ag [D.bool b_2, D.sl es_2, D.bool b_3, D.sl es_3]])
  (∃ b es,
    Gv (53 : Nat) [A.c (D.int IntKind.i64 m)] [A.ag [D.bool b, D.sl es]] ∧
      ∃ b_1 es_1,
        Gv (53 : Nat) [A.c (D.int IntKind.i64 d)] [A.ag [D.bool b_1, D.sl es_1]] ∧
          ∃ b_2 es_2 b_3 es_3,
            Gv (79 : Nat) [A.ag [D.bool b, D.sl es], A.ag [D.bool b_1, D.sl es_1]] [A.ag [D.bool b_2, D.sl es_2, D.bool b_3, D.sl es_3]] ∧
              Q [A.ag [D.bool b_2, D.sl es_2, D.bool b_3, D.sl es_3]])) := by kernel_rfl
theorem vc_nPower (Gv : Nat → List A → List A → Prop) (I0 : List D → List D → Prop) (M0 : List D → Nat) (n : Int) (Q : List A → Prop) :
    wpF CC Gv (fun _ => ⟨[.slot 4 (.int .i64 0), .box 3 [.bool false, .slice none 0 0, .bool false, .slice none 0 0]], [], I0, M0⟩) Tryz.f102 [.c (.int .i64 n)] Q = (
 ∃ b es b_1 es_1,
  Gv (35 : Nat) [A.c (D.int IntKind.i64 (1 : Int))] [A.ag [D.bool b, D.sl es, D.bool b_1, D.sl es_1]] ∧
    I0 [] [D.int IntKind.i64 (0 : Int), D.bool b, D.sl es, D.bool b_1, D.sl es_1] ∧
      ∀ (n_1 : Int) (b : Bool) (es : List (List D)) (b_2 : Bool) (es_2 : List (List D)),
        I0 [] [D.int IntKind.i64 n_1, D.bool b, D.sl es, D.bool b_2, D.sl es_2] →
          br (toB (D.bool (decide (n_1 < n))))
            (∃ b_3 es_3 b_4 es_4,
              Gv (35 : Nat) [A.c (D.int IntKind.i64 (10 : Int))] [A.ag [D.bool b_3, D.sl es_3, D.bool b_4, D.sl es_4]] ∧
                ∃ b_5 es_5 b_6 es_6,
                  Gv (52 : Nat) [A.ag [D.bool b, D.sl es, D.bool b_2, D.sl es_2], A.ag [D.bool b_3, D.sl es_3, D.bool b_4, D.sl es_4]]
                      [A.ag [D.bool b_5, D.sl es_5, D.bool b_6, D.sl es_6]] ∧
                    I0 [] [D.int IntKind.i64 (IntKind.wrap IntKind.i64 (n_1 + (1 : Int))), D.bool b_5, D.sl es_5, D.bool b_6, D.sl es_6] ∧
                      M0 [D.int IntKind.i64 (IntKind.wrap IntKind.i64 (n_1 + (1 : Int))), D.bool b_5, D.sl es_5, D.bool b_6, D.sl es_6] <
                        M0 [D.int IntKind.i64 n_1, D.bool b, D.sl es, D.bool b_2, D.sl es_2])
            (Q [A.ag [D.bool b, D.sl es, D.bool b_2, D.sl es_2]])) := by kernel_rfl
theorem vc_nshown (Gv : Nat → List A → List A → Prop) (I0 : List D → List D → Prop) (M0 : List D → Nat) (p : Bool) (es : List (List D)) (n : Int) (Q : List A → Prop) :
    wpF CC Gv (fun _ => ⟨[.slot 5 (.string ⟨#[]⟩)], [], I0, M0⟩) Tryz.f104 [.ag [.bool p, .sl es], .c (.int .i64 n)] Q = (
 ∃ s,
  Gv (155 : Nat) [A.ag [D.bool p, D.sl es]] [A.c (D.str s)] ∧
    ((0 : Int) ≤ (0 : Int) ∧ (0 : Int) < (Int.ofNat (List.length s))) ∧
      br (toB (D.bool ((Int.ofNat (UInt8.toNat (nth (0 : UInt8) s (Int.toNat (0 : Int))))) == (45 : Int))))
        (((0 : Int) ≤ (1 : Int) ∧ (1 : Int) ≤ (Int.ofNat (List.length s)) ∧ (Int.ofNat (List.length s)) ≤ (Int.ofNat (List.length s))) ∧
          I0 [] [D.str (List.drop (1 : Nat) (List.take (Int.toNat (Int.ofNat (List.length s))) s))] ∧
            ∀ (s : List UInt8),
              I0 [] [D.str s] →
                br (toB (D.bool (decide ((Int.ofNat (List.length s)) ≤ n))))
                  (room ((1 : Nat) + List.length s) ∧ I0 [] [D.str ((48 : UInt8) :: s)] ∧ M0 [D.str ((48 : UInt8) :: s)] < M0 [D.str s])
                  (br (toB (D.bool (n == (0 : Int)))) (room ((1 : Nat) + List.length s) ∧ Q [A.c (D.str ((45 : UInt8) :: s))])
                    (((0 : Int) ≤ (0 : Int) ∧
                        (0 : Int) ≤ IntKind.wrap IntKind.i64 ((Int.ofNat (List.length s)) - n) ∧ IntKind.wrap IntKind.i64 ((Int.ofNat (List.length s)) - n) ≤ (Int.ofNat (List.length s))) ∧
                      room ((1 : Nat) + List.length (List.drop (0 : Nat) (List.take (Int.toNat (IntKind.wrap IntKind.i64 ((Int.ofNat (List.length s)) - n))) s))) ∧
                        room
                            (List.length
                                ((45 : UInt8) ::
                                  ([] ++ (List.drop (0 : Nat) (List.take (Int.toNat (IntKind.wrap IntKind.i64 ((Int.ofNat (List.length s)) - n))) s)))) +
                              (1 : Nat)) ∧
                          ((0 : Int) ≤ IntKind.wrap IntKind.i64 ((Int.ofNat (List.length s)) - n) ∧
                              IntKind.wrap IntKind.i64 ((Int.ofNat (List.length s)) - n) ≤ (Int.ofNat (List.length s)) ∧ (Int.ofNat (List.length s)) ≤ (Int.ofNat (List.length s))) ∧
                            room
                                (List.length
                                    ((45 : UInt8) ::
                                      ((([] ++ (List.drop (Int.toNat (0 : Int)) (List.take (Int.toNat (IntKind.wrap IntKind.i64 ((Int.ofNat (List.length s)) - n))) s)))) ++ [(46 : UInt8)])) +
                                  List.length
                                    (List.drop (Int.toNat (IntKind.wrap IntKind.i64 ((Int.ofNat (List.length s)) - n))) (List.take (Int.toNat (Int.ofNat (List.length s))) s))) ∧
                              Q
                                [A.c
                                    (D.str
                                      ((45 : UInt8) ::
                                        ((((([] ++ (List.drop (Int.toNat (0 : Int))
                                                        (List.take (Int.toNat (IntKind.wrap IntKind.i64 ((Int.ofNat (List.length s)) - n))) s)))) ++ ([(46 : UInt8)]))) ++ (List.drop (Int.toNat (IntKind.wrap IntKind.i64 ((Int.ofNat (List.length s)) - n)))
                                            (List.take (Int.toNat (Int.ofNat (List.length s))) s)))))])))
        (I0 [] [D.str s] ∧
          ∀ (s : List UInt8),
            I0 [] [D.str s] →
              br (toB (D.bool (decide ((Int.ofNat (List.length s)) ≤ n))))
                (room ((1 : Nat) + List.length s) ∧ I0 [] [D.str ((48 : UInt8) :: s)] ∧ M0 [D.str ((48 : UInt8) :: s)] < M0 [D.str s])
                (br (toB (D.bool (n == (0 : Int)))) (room ((0 : Nat) + List.length s) ∧ Q [A.c (D.str s)])
                  (((0 : Int) ≤ (0 : Int) ∧
                      (0 : Int) ≤ IntKind.wrap IntKind.i64 ((Int.ofNat (List.length s)) - n) ∧ IntKind.wrap IntKind.i64 ((Int.ofNat (List.length s)) - n) ≤ (Int.ofNat (List.length s))) ∧
                    room ((0 : Nat) + List.length (List.drop (0 : Nat) (List.take (Int.toNat (IntKind.wrap IntKind.i64 ((Int.ofNat (List.length s)) - n))) s))) ∧
                      room (List.length ([] ++ List.drop (0 : Nat) (List.take (Int.toNat (IntKind.wrap IntKind.i64 ((Int.ofNat (List.length s)) - n))) s)) + (1 : Nat)) ∧
                        ((0 : Int) ≤ IntKind.wrap IntKind.i64 ((Int.ofNat (List.length s)) - n) ∧
                            IntKind.wrap IntKind.i64 ((Int.ofNat (List.length s)) - n) ≤ (Int.ofNat (List.length s)) ∧ (Int.ofNat (List.length s)) ≤ (Int.ofNat (List.length s))) ∧
                          room
                              (List.length
                                  ([] ++ List.drop (0 : Nat) (List.take (Int.toNat (IntKind.wrap IntKind.i64 ((Int.ofNat (List.length s)) - n))) s) ++ [(46 : UInt8)]) +
                                List.length
                                  (List.drop (Int.toNat (IntKind.wrap IntKind.i64 ((Int.ofNat (List.length s)) - n))) (List.take (Int.toNat (Int.ofNat (List.length s))) s))) ∧
                            Q
                              [A.c
                                  (D.str
                                    ([] ++ List.drop (0 : Nat) (List.take (Int.toNat (IntKind.wrap IntKind.i64 ((Int.ofNat (List.length s)) - n))) s) ++ [(46 : UInt8)] ++
                                      List.drop (Int.toNat (IntKind.wrap IntKind.i64 ((Int.ofNat (List.length s)) - n))) (List.take (Int.toNat (Int.ofNat (List.length s))) s)))])))) := by kernel_rfl
theorem vc_nExact (Gv : Nat → List A → List A → Prop) (I0 : List D → List D → Prop) (M0 : List D → Nat) (p q : Bool) (es fs : List (List D)) (Q : List A → Prop) :
    wpF CC Gv (fun _ => ⟨[.slot 4 (.int .i64 0)], [], I0, M0⟩) Tryz.f63 [.ag [.bool p, .sl es, .bool q, .sl fs]] Q = (
 I0 [] [D.int IntKind.i64 (0 : Int)] ∧
  ∀ (n : Int),
    I0 [] [D.int IntKind.i64 n] →
      br (toB (D.bool (decide (n ≤ (30 : Int)))))
        (∃ b es_1 b_1 es_2,
          Gv (102 : Nat) [A.c (D.int IntKind.i64 n)] [A.ag [D.bool b, D.sl es_1, D.bool b_1, D.sl es_2]] ∧
            ∃ b_2 es_3 b_3 es_4,
              Gv (52 : Nat) [A.ag [D.bool p, D.sl es, D.bool q, D.sl fs], A.ag [D.bool b, D.sl es_1, D.bool b_1, D.sl es_2]]
                  [A.ag [D.bool b_2, D.sl es_3, D.bool b_3, D.sl es_4]] ∧
                ∃ b es,
                  Gv (53 : Nat) [A.c (D.int IntKind.i64 (1 : Int))] [A.ag [D.bool b, D.sl es]] ∧
                    ∃ b_4,
                      Gv (103 : Nat) [A.ag [D.bool b_3, D.sl es_4], A.ag [D.bool b, D.sl es]] [A.c (D.bool b_4)] ∧
                        br b_4
                          (∃ s,
                            Gv (104 : Nat) [A.ag [D.bool b_2, D.sl es_3], A.c (D.int IntKind.i64 n)] [A.c (D.str s)] ∧
                              br (toB (D.bool (decide ((Int.ofNat (List.length s)) > (1000 : Int))))) (Q [A.c (D.str []), A.c (D.bool false)])
                                (Q [A.c (D.str s), A.c (D.bool true)]))
                          (I0 [] [D.int IntKind.i64 (IntKind.wrap IntKind.i64 (n + (1 : Int)))] ∧
                            M0 [D.int IntKind.i64 (IntKind.wrap IntKind.i64 (n + (1 : Int)))] < M0 [D.int IntKind.i64 n]))
        (Q [A.c (D.str []), A.c (D.bool false)])) := by kernel_rfl
theorem vc_nMm (Gv : Nat → List A → List A → Prop) (n : Int) (Q : List A → Prop) :
    wpF CC Gv (fun _ => ⟨[], [], fun _ _ => True, fun _ => 0⟩) Tryz.f40 [.c (.int .i64 n)] Q = (
 ∃ b es b_1 es_1,
  Gv (64 : Nat) [A.c (D.int IntKind.i64 n), A.c (D.int IntKind.i64 (1000 : Int))] [A.ag [D.bool b, D.sl es, D.bool b_1, D.sl es_1]] ∧
    ∃ s b_2, Gv (63 : Nat) [A.ag [D.bool b, D.sl es, D.bool b_1, D.sl es_1]] [A.c (D.str s), A.c (D.bool b_2)] ∧ Q [A.c (D.str s)]) := by kernel_rfl
theorem vc_nwords (Gv : Nat → List A → List A → Prop) (I0 : List D → List D → Prop) (M0 : List D → Nat) (es : List (List D)) (Q : List A → Prop) :
    wpF CC Gv (fun _ => ⟨[.slot 3 (.string ⟨#[]⟩), .slot 4 (.int .i64 0)], [], I0, M0⟩) Tryz.f25 [.c (.sl es)] Q = (
 I0 [] [D.str [], D.int IntKind.i64 (0 : Int)] ∧
  ∀ (s : List UInt8) (n : Int),
    I0 [] [D.str s, D.int IntKind.i64 n] →
      br (toB (D.bool (decide (n < (Int.ofNat (List.length es))))))
        (((0 : Int) ≤ n ∧ n < (Int.ofNat (List.length es)) ∧ List.length (nth [] es (Int.toNat n)) = (1 : Nat)) ∧
          ∃ n_1,
            cut (nth [] es (Int.toNat n)) (0 : Nat) (1 : Nat) [D.int IntKind.i64 n_1] ∧
              ∃ s_1,
                Gv (40 : Nat) [A.c (D.int IntKind.i64 n_1)] [A.c (D.str s_1)] ∧
                  room ((1 : Nat) + List.length s_1) ∧
                    room (List.length s + List.length ((32 : UInt8) :: s_1)) ∧
                      I0 [] [D.str (s ++ (32 : UInt8) :: s_1), D.int IntKind.i64 (IntKind.wrap IntKind.i64 (n + (1 : Int)))] ∧
                        M0 [D.str (s ++ (32 : UInt8) :: s_1), D.int IntKind.i64 (IntKind.wrap IntKind.i64 (n + (1 : Int)))] < M0 [D.str s, D.int IntKind.i64 n])
        (Q [A.c (D.str s)])) := by kernel_rfl
theorem vc_nFormat (Gv : Nat → List A → List A → Prop) (I0 : List D → List D → Prop) (M0 : List D → Nat) (x0 y0 x1 y1 th ga sf : Int) (es : List (List D)) (Q : List A → Prop) :
    wpF CC Gv (fun _ => ⟨[.slot 5 (.string ⟨#[]⟩), .slot 6 (.int .i64 0)], [], I0, M0⟩) Tryz.f9 [.ag [.int .i64 x0, .int .i64 y0, .int .i64 x1, .int .i64 y1, .int .i64 th, .int .i64 ga, .sl es, .int .i64 sf]] Q = (
 ∃ n,
  Gv (11 : Nat)
      [A.ag
          [D.int IntKind.i64 x0, D.int IntKind.i64 y0, D.int IntKind.i64 x1, D.int IntKind.i64 y1, D.int IntKind.i64 th, D.int IntKind.i64 ga, D.sl es,
            D.int IntKind.i64 sf]]
      [A.c (D.int IntKind.i64 n)] ∧
    br (toB (D.bool (n != (0 : Int)))) (Q [A.c (D.str []), A.c (D.int IntKind.i64 n)])
      (∃ s,
        Gv (25 : Nat)
            [A.c
                (D.sl
                  [[D.int IntKind.i64 x0], [D.int IntKind.i64 y0], [D.int IntKind.i64 x1], [D.int IntKind.i64 y1], [D.int IntKind.i64 th],
                    [D.int IntKind.i64 ga]])]
            [A.c (D.str s)] ∧
          room ((5 : Nat) + List.length s) ∧
            room (List.length ((115 : UInt8) :: (116 : UInt8) :: (111 : UInt8) :: (99 : UInt8) :: (107 : UInt8) :: s) + (5 : Nat)) ∧
              ∃ s_1,
                Gv (25 : Nat) [A.c (D.sl [[D.int IntKind.i64 sf]])] [A.c (D.str s_1)] ∧
                  room
                      (List.length
                          ((115 : UInt8) ::
                            (116 : UInt8) ::
                              (111 : UInt8) ::
                                (99 : UInt8) ::
                                  (107 : UInt8) ::
                                    ((([] ++ s)) ++ [(10 : UInt8), (115 : UInt8), (97 : UInt8), (102 : UInt8), (101 : UInt8)])) +
                        List.length s_1) ∧
                    room
                        (List.length
                            ((115 : UInt8) ::
                              (116 : UInt8) ::
                                (111 : UInt8) ::
                                  (99 : UInt8) ::
                                    (107 : UInt8) ::
                                      ((((([] ++ s)) ++ ([(10 : UInt8), (115 : UInt8), (97 : UInt8), (102 : UInt8), (101 : UInt8)]))) ++ s_1)) +
                          (1 : Nat)) ∧
                      I0 []
                          [D.str
                              ((115 : UInt8) ::
                                (116 : UInt8) ::
                                  (111 : UInt8) ::
                                    (99 : UInt8) ::
                                      (107 : UInt8) ::
                                        ((((((([] ++ s)) ++ ([(10 : UInt8), (115 : UInt8), (97 : UInt8), (102 : UInt8), (101 : UInt8)]))) ++ s_1)) ++ [(10 : UInt8)])),
                            D.int IntKind.i64 (0 : Int)] ∧
                        ∀ (s : List UInt8) (n : Int),
                          I0 [] [D.str s, D.int IntKind.i64 n] →
                            br (toB (D.bool (decide (n < (Int.ofNat (List.length es))))))
                              (((0 : Int) ≤ n ∧ n < (Int.ofNat (List.length es)) ∧ List.length (nth [] es (Int.toNat n)) = (5 : Nat)) ∧
                                ∃ n_1 n_2 n_3 n_4 n_5,
                                  cut (nth [] es (Int.toNat n)) (0 : Nat) (5 : Nat)
                                      [D.int IntKind.i64 n_1, D.int IntKind.i64 n_2, D.int IntKind.i64 n_3, D.int IntKind.i64 n_4, D.int IntKind.i64 n_5] ∧
                                    ∃ s_2,
                                      Gv (25 : Nat)
                                          [A.c
                                              (D.sl
                                                [[D.int IntKind.i64 n_1], [D.int IntKind.i64 n_2], [D.int IntKind.i64 n_3], [D.int IntKind.i64 n_4],
                                                  [D.int IntKind.i64 n_5]])]
                                          [A.c (D.str s_2)] ∧
                                        room ((5 : Nat) + List.length s_2) ∧
                                          room
                                              (List.length ((99 : UInt8) :: (108 : UInt8) :: (97 : UInt8) :: (109 : UInt8) :: (112 : UInt8) :: s_2) +
                                                (1 : Nat)) ∧
                                            room
                                                (List.length s +
                                                  List.length
                                                    ((99 : UInt8) ::
                                                      (108 : UInt8) ::
                                                        (97 : UInt8) ::
                                                          (109 : UInt8) ::
                                                            (112 : UInt8) ::
                                                              ((([] ++ s_2)) ++ [(10 : UInt8)]))) ∧
                                              I0 []
                                                  [D.str
                                                      (s ++
                                                        (99 : UInt8) ::
                                                          (108 : UInt8) ::
                                                            (97 : UInt8) ::
                                                              (109 : UInt8) ::
                                                                (112 : UInt8) ::
                                                                  ((([] ++ s_2)) ++ [(10 : UInt8)])),
                                                    D.int IntKind.i64 (IntKind.wrap IntKind.i64 (n + (1 : Int)))] ∧
                                                M0
                                                    [D.str
                                                        (s ++
                                                          (99 : UInt8) ::
                                                            (108 : UInt8) ::
                                                              (97 : UInt8) ::
                                                                (109 : UInt8) ::
                                                                  (112 : UInt8) ::
                                                                    ((([] ++ s_2)) ++ [(10 : UInt8)])),
                                                      D.int IntKind.i64 (IntKind.wrap IntKind.i64 (n + (1 : Int)))] <
                                                  M0 [D.str s, D.int IntKind.i64 n])
                              (Q [A.c (D.str s), A.c (D.int IntKind.i64 (0 : Int))]))) := by kernel_rfl
theorem vc_lValid (Gv : Nat → List A → List A → Prop) (x0 y0 x1 y1 th ga sf : Int) (es : List (List D)) (Q : List A → Prop) :
    wpF CC Gv (fun _ => ⟨[], [], fun _ _ => True, fun _ => 0⟩) Tryz.f3 [.ag [.int .i64 x0, .int .i64 y0, .int .i64 x1, .int .i64 y1, .int .i64 th, .int .i64 ga, .sl es, .int .i64 sf]] Q = (
 ∃ b,
  Gv (7 : Nat) [] [A.c (D.bool b)] ∧
    br (toB (D.bool !b)) (∃ b, Gv (7 : Nat) [] [A.c (D.bool b)] ∧ Q [A.c (D.bool b)])
      (br (toB (D.bool (decide ((Int.ofNat (List.length es)) > (60 : Int))))) (∃ b, Gv (7 : Nat) [] [A.c (D.bool b)] ∧ Q [A.c (D.bool b)])
        (∃ s n,
          Gv (8 : Nat)
              [A.ag
                  [D.int IntKind.i64 x0, D.int IntKind.i64 y0, D.int IntKind.i64 x1, D.int IntKind.i64 y1, D.int IntKind.i64 th, D.int IntKind.i64 ga, D.sl es,
                    D.int IntKind.i64 sf]]
              [A.c (D.str s), A.c (D.int IntKind.i64 n)] ∧
            ∃ s_1 n_1,
              Gv (9 : Nat)
                  [A.ag
                      [D.int IntKind.i64 x0, D.int IntKind.i64 y0, D.int IntKind.i64 x1, D.int IntKind.i64 y1, D.int IntKind.i64 th, D.int IntKind.i64 ga,
                        D.sl es, D.int IntKind.i64 sf]]
                  [A.c (D.str s_1), A.c (D.int IntKind.i64 n_1)] ∧
                ∃ n_2,
                  Gv (10 : Nat)
                      [A.ag
                          [D.int IntKind.i64 x0, D.int IntKind.i64 y0, D.int IntKind.i64 x1, D.int IntKind.i64 y1, D.int IntKind.i64 th, D.int IntKind.i64 ga,
                            D.sl es, D.int IntKind.i64 sf]]
                      [A.c (D.int IntKind.i64 n_2)] ∧
                    ∃ n_3,
                      Gv (11 : Nat)
                          [A.ag
                              [D.int IntKind.i64 x0, D.int IntKind.i64 y0, D.int IntKind.i64 x1, D.int IntKind.i64 y1, D.int IntKind.i64 th,
                                D.int IntKind.i64 ga, D.sl es, D.int IntKind.i64 sf]]
                          [A.c (D.int IntKind.i64 n_3)] ∧
                        br (toB (D.bool (n_2 == n_3))) (br (toB (D.bool (n == n_1))) (Q [A.c (D.bool (s == s_1))]) (Q [A.c (D.bool false)]))
                          (Q [A.c (D.bool false)])))) := by kernel_rfl
end Eng
end

section
/- Decimal digits of numbers, and the text of a length in millimetres: plain laws. -/
namespace Eng
open Go

/-- The last n decimal digits of a number. -/
def digF : Nat → Nat → List UInt8
  | 0, _ => []
  | n + 1, v => digF n (v / 10) ++ [UInt8.ofNat (48 + v % 10)]
theorem digF_len : ∀ (n v : Nat), (digF n v).length = n
  | 0, _ => rfl
  | n + 1, v => by simp [digF, digF_len n]
theorem digF_cons : ∀ (n v : Nat), digF (n + 1) v = UInt8.ofNat (48 + v / 10 ^ n % 10) :: digF n v
  | 0, v => by simp [digF]
  | n + 1, v => by
    rw [digF, digF_cons n (v / 10), digF]
    rw [Nat.div_div_eq_div_mul, Nat.pow_succ, Nat.mul_comm 10]
    rfl
theorem digF_append : ∀ (n m v : Nat), digF (m + n) v = digF m (v / 10 ^ n) ++ digF n v
  | 0, m, v => by simp [digF]
  | n + 1, m, v => by
    rw [← Nat.add_assoc, digF, digF, digF_append n m (v / 10), Nat.div_div_eq_div_mul, Nat.pow_succ, Nat.mul_comm 10, List.append_assoc]
theorem digF_mod : ∀ (n v w : Nat), v % 10 ^ n = w % 10 ^ n → digF n v = digF n w
  | 0, _, _, _ => rfl
  | n + 1, v, w, h => by
    rw [digF, digF]
    have h1 : v % 10 = w % 10 := by
      have a := Nat.mod_mul_right_mod v 10 (10 ^ n)
      have b := Nat.mod_mul_right_mod w 10 (10 ^ n)
      rw [Nat.pow_succ, Nat.mul_comm] at h
      rw [← a, ← b, h]
    have h2 : v / 10 % 10 ^ n = w / 10 % 10 ^ n := by
      rw [Nat.pow_succ, Nat.mul_comm] at h
      have a := Nat.mod_mul_right_div_self v 10 (10 ^ n)
      have b := Nat.mod_mul_right_div_self w 10 (10 ^ n)
      rw [← a, ← b, h]
    rw [digF_mod n _ _ h2, h1]
theorem digF_zero (n : Nat) : digF n 0 = List.replicate n 48 := by
  induction n with
  | zero => rfl
  | succ n ih => rw [digF_cons, ih, Nat.zero_div]; rfl
theorem digF_pad (n m v : Nat) (h : v < 10 ^ n) : digF (m + n) v = List.replicate m 48 ++ digF n v := by
  rw [digF_append, Nat.div_eq_of_lt h, digF_zero]

theorem nDigits_pos (u : Nat) : 0 < Lib.nDigits u := by
  rw [Lib.nDigits]; split <;> omega
theorem decDigits_digF (u : Nat) : Lib.decDigits u = digF (Lib.nDigits u) u := by
  induction u using Nat.strongRecOn with
  | _ u ih =>
    rw [Lib.decDigits, Lib.nDigits]
    by_cases h : u < 10
    · rw [dif_pos h, dif_pos h]
      simp only [digF, List.nil_append]
      rw [Nat.mod_eq_of_lt h]
    · rw [dif_neg h, dif_neg h, digF, ih (u / 10) (by omega)]
theorem nDigits_iff : ∀ (n u : Nat), Lib.nDigits u ≤ n + 1 ↔ u < 10 ^ (n + 1)
  | 0, u => by
    rw [Lib.nDigits]
    by_cases h : u < 10
    · rw [dif_pos h]; simp; omega
    · rw [dif_neg h]
      have := nDigits_pos (u / 10)
      simp; omega
  | n + 1, u => by
    rw [Lib.nDigits]
    by_cases h : u < 10
    · rw [dif_pos h]
      have : 10 ^ 1 ≤ 10 ^ (n + 1 + 1) := Nat.pow_le_pow_right (by omega) (by omega)
      constructor
      · intro _; omega
      · intro _; omega
    · rw [dif_neg h]
      have := nDigits_iff n (u / 10)
      rw [Nat.pow_succ 10 (n + 1)]
      rw [Nat.div_lt_iff_lt_mul (by omega)] at this
      omega
theorem nDigits_eq {u n : Nat} (h1 : 10 ^ n ≤ u) (h2 : u < 10 ^ (n + 1)) : Lib.nDigits u = n + 1 := by
  have a := (nDigits_iff n u).2 h2
  cases n with
  | zero => have := nDigits_pos u; omega
  | succ n =>
    have b := nDigits_iff n u
    have : ¬ u < 10 ^ (n + 1) := by omega
    omega
theorem dec_of_digF {u n : Nat} (h1 : 10 ^ n ≤ u) (h2 : u < 10 ^ (n + 1)) : digF (n + 1) u = Lib.decDigits u := by
  rw [decDigits_digF, nDigits_eq h1 h2]
theorem dec_len_le {u n : Nat} (h : u < 10 ^ (n + 1)) : (Lib.decDigits u).length ≤ n + 1 := by
  rw [Lib.decDigits_length]; exact (nDigits_iff n u).2 h

/-- A text without the bytes c at its end. -/
def trimR (c : UInt8) : List UInt8 → List UInt8
  | [] => []
  | a :: r => match trimR c r with
    | [] => match a == c with
      | true => []
      | false => [a]
    | b :: s => a :: b :: s
theorem trimR_snoc (c a : UInt8) : ∀ (l : List UInt8), trimR c (l ++ [a]) = if a = c then trimR c l else l ++ [a]
  | [] => by
    simp only [List.nil_append, trimR]
    by_cases h : a = c
    · subst h; simp
    · have : (a == c) = false := by simpa using h
      rw [this, if_neg h]
  | b :: l => by
    rw [List.cons_append, trimR, trimR_snoc c a l]
    by_cases h : a = c
    · rw [if_pos h, if_pos h, trimR]
    · rw [if_neg h, if_neg h]
      cases l <;> rfl
theorem trimR_len (c : UInt8) : ∀ (l : List UInt8), (trimR c l).length ≤ l.length
  | [] => by simp [trimR]
  | a :: r => by
    have := trimR_len c r
    rw [trimR]
    split
    · split <;> simp
    · rename_i h; rw [h] at this; simp at this ⊢; omega

/-- The text of some micrometres in millimetres. -/
def mmU (u : Nat) : List UInt8 := Lib.decDigits (u / 1000) ++ (match decide (u % 1000 = 0) with | true => [] | false => 46 :: trimR 48 (digF 3 u))
def mm (n : Int) : List UInt8 := (match decide (n < 0) with | true => [45] | false => []) ++ mmU n.natAbs
theorem mm_len {n : Int} (h : n.natAbs < 10 ^ 23) : (mm n).length ≤ 25 := by
  have h1 : (Lib.decDigits (n.natAbs / 1000)).length ≤ 20 := dec_len_le (n := 19) (by omega)
  have h2 := trimR_len 48 (digF 3 n.natAbs)
  rw [digF_len] at h2
  unfold mm mmU
  split <;> split <;> simp only [List.length_append, List.length_cons, List.length_nil] <;> omega

/-- The digits of 1000 and a rest, but the first. -/
theorem dec_1000 {r : Nat} (h : r < 1000) : (Lib.decDigits (1000 + r)).drop 1 = digF 3 r := by
  rw [← dec_of_digF (n := 3) (by omega) (by omega), digF_cons]
  rw [List.drop_succ_cons, List.drop_zero]
  exact digF_mod 3 _ _ (by omega)

/-- A number with a point ahead of its last k digits. -/
def shownU (u k : Nat) : List UInt8 := match k with
  | 0 => Lib.decDigits u
  | k + 1 => Lib.decDigits (u / 10 ^ (k + 1)) ++ 46 :: digF (k + 1) u

theorem digit_ne {v : Nat} (h : v % 10 ≠ 0) : UInt8.ofNat (48 + v % 10) ≠ 48 := by
  have : v % 10 < 10 := Nat.mod_lt _ (by omega)
  intro e
  have := congrArg UInt8.toNat e
  simp [UInt8.toNat_ofNat'] at this
  omega
theorem trim_step (n v : Nat) : trimR 48 (digF (n + 1) v) = if v % 10 = 0 then trimR 48 (digF n (v / 10)) else digF (n + 1) v := by
  rw [digF, trimR_snoc]
  by_cases h : v % 10 = 0
  · rw [if_pos h, if_pos (by rw [h]; rfl)]
  · rw [if_neg h, if_neg (digit_ne h)]
theorem trimR_digF3 (u k : Nat) (h1 : u * 10 ^ k % 1000 = 0) (h2 : ∀ j, j < k → u * 10 ^ j % 1000 ≠ 0) (hk : k ≤ 3) : mmU u = shownU (u * 10 ^ k / 1000) k := by
  unfold mmU
  rcases k with _ | _ | _ | _ | k
  · have : u % 1000 = 0 := by simpa using h1
    rw [decide_eq_true this]
    simp [shownU]
  · have h0 := h2 0 (by omega)
    simp only [Nat.pow_zero, Nat.mul_one] at h0
    rw [decide_eq_false h0]
    have e1 : u * 10 ^ 1 / 1000 = u / 100 := by omega
    rw [e1]
    simp only [shownU]
    rw [trim_step, if_pos (by omega), trim_step, if_pos (by omega), trim_step, if_neg (by omega)]
    have : u / 10 / 10 = u / 100 := by omega
    rw [this]
    have : u / 100 / 10 ^ (0 + 1) = u / 1000 := by omega
    rw [this]
  · have h0 := h2 0 (by omega)
    have h3 := h2 1 (by omega)
    simp only [Nat.pow_zero, Nat.mul_one] at h0
    rw [decide_eq_false h0]
    have e1 : u * 10 ^ 2 / 1000 = u / 10 := by omega
    rw [e1]
    simp only [shownU]
    rw [trim_step, if_pos (by omega), trim_step, if_neg (by omega)]
    have : u / 10 / 10 ^ (0 + 1 + 1) = u / 1000 := by omega
    rw [this]
  · have h0 := h2 0 (by omega)
    have h3 := h2 1 (by omega)
    have h4 := h2 2 (by omega)
    simp only [Nat.pow_zero, Nat.mul_one] at h0
    rw [decide_eq_false h0]
    have e1 : u * 10 ^ 3 / 1000 = u := by omega
    rw [e1]
    simp only [shownU]
    rw [trim_step, if_neg (by omega)]
  · omega
theorem mm_least (u : Nat) : ∃ k, k ≤ 3 ∧ u * 10 ^ k % 1000 = 0 ∧ ∀ j, j < k → u * 10 ^ j % 1000 ≠ 0 := by
  by_cases h0 : u % 1000 = 0
  · exact ⟨0, by omega, by omega, fun j hj => by omega⟩
  · by_cases h1 : u * 10 % 1000 = 0
    · refine ⟨1, by omega, by omega, fun j hj => ?_⟩
      obtain rfl : j = 0 := by omega
      simpa using h0
    · by_cases h2 : u * 100 % 1000 = 0
      · refine ⟨2, by omega, by omega, fun j hj => ?_⟩
        rcases (by omega : j = 0 ∨ j = 1) with rfl | rfl
        · simpa using h0
        · simpa using h1
      · refine ⟨3, by omega, by omega, fun j hj => ?_⟩
        rcases (by omega : j = 0 ∨ j = 1 ∨ j = 2) with rfl | rfl | rfl
        · simpa using h0
        · simpa using h1
        · simpa using h2

/-- Padding and cutting, as the reference does. -/
theorem shown_pad {u k L : Nat} (h2 : L = max (Lib.nDigits u) (k + 1)) : (digF L u).take (L - k) ++ 46 :: (digF L u).drop (L - k) = Lib.decDigits (u / 10 ^ k) ++ 46 :: digF k u := by
  have hL : L = (L - k) + k := by omega
  have e := digF_append k (L - k) u
  rw [← hL] at e
  rw [e]
  have hl : (digF (L - k) (u / 10 ^ k)).length = L - k := digF_len _ _
  have ht : ((digF (L - k) (u / 10 ^ k)) ++ digF k u).take (L - k) = digF (L - k) (u / 10 ^ k) := by
    rw [List.take_append_of_le_length (by omega), List.take_of_length_le (by omega)]
  have hd : ((digF (L - k) (u / 10 ^ k)) ++ digF k u).drop (L - k) = digF k u := by
    rw [List.drop_append_of_le_length (by omega), List.drop_of_length_le (by omega), List.nil_append]
  rw [ht, hd]
  congr 1
  by_cases hu : u < 10 ^ k
  · rw [Nat.div_eq_of_lt hu]
    have hn : Lib.nDigits u ≤ k + 1 := (nDigits_iff k u).2 (Nat.lt_of_lt_of_le hu (Nat.pow_le_pow_right (by omega) (by omega)))
    have : L - k = 1 := by omega
    rw [this]
    rw [Lib.decDigits_one (by omega)]
    rfl
  · have hge : 10 ^ k ≤ u := Nat.le_of_not_lt hu
    have hq : 1 ≤ u / 10 ^ k := by
      rw [Nat.le_div_iff_mul_le (Nat.pow_pos (by omega)), Nat.one_mul]; exact hge
    -- the number of digits of the quotient
    obtain ⟨n, hn⟩ : ∃ n, Lib.nDigits u = n + 1 := ⟨Lib.nDigits u - 1, by have := nDigits_pos u; omega⟩
    have hup : u < 10 ^ (n + 1) := (nDigits_iff n u).1 (by omega)
    have hlo : 10 ^ n ≤ u := by
      cases n with
      | zero =>
        rw [Nat.pow_zero]
        exact Nat.le_trans (Nat.pow_pos (by omega)) hge
      | succ n =>
        have := nDigits_iff n u
        omega
    have hkn : k ≤ n := by
      rcases Nat.lt_or_ge n k with h | h
      · have : 10 ^ (n + 1) ≤ 10 ^ k := Nat.pow_le_pow_right (by omega) (by omega)
        omega
      · exact h
    have hLk : L - k = (n - k) + 1 := by omega
    rw [hLk]
    refine dec_of_digF ?_ ?_
    · rw [Nat.le_div_iff_mul_le (Nat.pow_pos (by omega)), ← Nat.pow_add]
      rw [show n - k + k = n by omega]; exact hlo
    · rw [Nat.div_lt_iff_lt_mul (Nat.pow_pos (by omega)), ← Nat.pow_add]
      rw [show n - k + 1 + k = n + 1 by omega]; exact hup
end Eng
end

section
/- Setups: the program's Valid, its text of a length, a line, the whole text. -/
namespace Eng
open Go Go.Proofs
set_option maxRecDepth 100000

theorem brn {b : Bool} {X Y : Prop} (h1 : b = false → X) (h2 : b = true → Y) : br (toB (D.bool !b)) X Y := by
  cases b
  · exact h1 rfl
  · exact h2 rfl

theorem mrect_ok (a b c d : Int) : Gives CC 26 [.c (.int .i64 a), .c (.int .i64 b), .c (.int .i64 c), .c (.int .i64 d)] [.c (.bool (rectB a b c d))] := by
  refine wpF_ok (anns := fun _ => ⟨[], [], fun _ _ => True, fun _ => 0⟩) mixedT Tryz.func26 ?_
  rw [vc_mrect]
  have key : ∀ r : Bool, rectB a b c d = r → [A.c (D.bool r)] = [A.c (D.bool (rectB a b c d))] := fun r h => by rw [h]
  have f : ¬ (a < c ∧ b < d ∧ a ≥ -10000000 ∧ b ≥ -10000000 ∧ c ≤ 10000000 ∧ d ≤ 10000000) → rectB a b c d = false := fun h => by
    simp only [rectB, lenB, Bool.and_eq_false_iff, decide_eq_false_iff_not]; omega
  refine brd (fun h1 => ?_) (fun h1 => key _ (f (by omega)))
  refine brd (fun h2 => ?_) (fun h2 => key _ (f (by omega)))
  refine brd (fun h3 => ?_) (fun h3 => key _ (f (by omega)))
  refine brd (fun h4 => ?_) (fun h4 => key _ (f (by omega)))
  refine brd (fun h5 => ?_) (fun h5 => key _ (f (by omega)))
  refine key _ ?_
  rw [Bool.eq_iff_iff]
  simp only [rectB, lenB, Bool.and_eq_true, decide_eq_true_eq]
  omega
theorem mwithin_ok (n low : Int) : Gives CC 27 [.c (.int .i64 n), .c (.int .i64 low)] [.c (.bool (lenB n low))] := by
  refine wpF_ok (anns := fun _ => ⟨[], [], fun _ _ => True, fun _ => 0⟩) mixedT Tryz.func27 ?_
  rw [vc_mwithin]
  unfold lenB
  refine brb (fun h => ?_) (fun h => ?_)
  · rw [h, Bool.true_and]
  · rw [h, Bool.false_and]
theorem mTable_ok (s : Su) : Gives CC 21 [encS s] [.c (.int .i64 (tableZ s.th s.ga))] := by
  obtain ⟨x0, y0, x1, y1, th, ga, cl, sf⟩ := s
  refine wpF_ok (anns := fun _ => ⟨[], [], fun _ _ => True, fun _ => 0⟩) mixedT Tryz.func21 ?_
  simp only [encS]
  rw [vc_mTable]
  rfl

theorem all_bad {α : Type} {p : α → Bool} {l : List α} {k : Nat} (hk : k < l.length) (h : p l[k] = false) : l.all p = false := by
  rw [List.all_eq_false]
  exact ⟨l[k], List.getElem_mem hk, by rw [h]; simp⟩

theorem mValid_ok (s : Su) (hl : s.cl.length ≤ 1000000000) : Gives CC 10 [encS s] [.c (.int .i64 (match validB s with | true => 0 | false => 1))] := by
  obtain ⟨x0, y0, x1, y1, th, ga, cl, sf⟩ := s
  refine wpF_ok (anns := fun _ => ⟨[.slot 42 (.int .i64 0)], [], fun _ ds => ∃ k : Nat, k ≤ cl.length ∧ ds = [.int .i64 (k : Int)] ∧ (cl.take k).all (clB th ga sf) = true, fun ds => (cl.length - toI (nth .undef ds 0)).toNat⟩) mixedT Tryz.func10 ?_
  have hT := mTable_ok ⟨x0, y0, x1, y1, th, ga, cl, sf⟩
  simp only at hl
  simp only [encS] at hT ⊢
  rw [vc_mValid]
  simp only [Int.ofNat_eq_natCast, clRs_length]
  have hh : headB ⟨x0, y0, x1, y1, th, ga, cl, sf⟩ = (rectB x0 y0 x1 y1 && (lenB th 1 && (lenB ga 0 && (decide (cl.length ≤ 50) && lenB sf 1)))) := rfl
  have bad : validB ⟨x0, y0, x1, y1, th, ga, cl, sf⟩ = false → [A.c (D.int IntKind.i64 (1 : Int))] = [.c (.int .i64 (match validB ⟨x0, y0, x1, y1, th, ga, cl, sf⟩ with | true => 0 | false => 1))] := fun h => by rw [h]
  have badh : headB ⟨x0, y0, x1, y1, th, ga, cl, sf⟩ = false → validB ⟨x0, y0, x1, y1, th, ga, cl, sf⟩ = false := fun h => by unfold validB; rw [h]; rfl
  have badc : cl.all (clB th ga sf) = false → validB ⟨x0, y0, x1, y1, th, ga, cl, sf⟩ = false := fun h => by unfold validB; simp only [h, Bool.and_false]
  refine ⟨_, mrect_ok _ _ _ _, brn (fun h1 => bad (badh (by rw [hh, h1]; rfl))) (fun h1 => ?_)⟩
  refine ⟨_, mwithin_ok _ _, brn (fun h2 => bad (badh (by rw [hh, h1, h2]; rfl))) (fun h2 => ?_)⟩
  refine ⟨_, mwithin_ok _ _, brn (fun h3 => bad (badh (by rw [hh, h1, h2, h3]; rfl))) (fun h3 => ?_)⟩
  refine ⟨_, mwithin_ok _ _, brn (fun h4 => bad (badh (by rw [hh, h1, h2, h3, h4, Bool.and_false]; rfl))) (fun h4 => ?_)⟩
  refine brd (fun h5 => bad (badh (by rw [hh, h1, h2, h3, h4, decide_eq_false (by omega)]; rfl))) (fun h5 => ?_)
  have hhead : headB ⟨x0, y0, x1, y1, th, ga, cl, sf⟩ = true := by rw [hh, h1, h2, h3, h4, decide_eq_true (by omega)]; rfl
  refine ⟨⟨0, by omega, rfl, by simp⟩, ?_⟩
  rintro n ⟨k, hk, he, hall⟩
  simp only [List.cons.injEq, D.int.injEq, true_and, and_true] at he
  subst he
  refine brd (fun h => ?_) (fun h => ?_)
  · have hkl : k < cl.length := by omega
    have hw : IntKind.wrap .i64 ((k : Int) + 1) = ((k + 1 : Nat) : Int) := by rw [i64w (by omega) (by omega)]; omega
    have hs := all_take_succ (clB th ga sf) cl k hkl
    rw [hall, Bool.true_and] at hs
    rw [hw, Int.toNat_natCast]
    have badk : clB th ga sf cl[k] = false → validB ⟨x0, y0, x1, y1, th, ga, cl, sf⟩ = false := fun h => badc (all_bad hkl h)
    refine ⟨⟨by omega, by omega, len_cl hkl⟩, _, _, _, _, _, cut_cl hkl, _, mrect_ok _ _ _ _, brn (fun g1 => bad (badk ?_)) (fun g1 => ?_)⟩
    · unfold clB; rw [g1]; rfl
    refine ⟨_, hT, _, mwithin_ok _ _, brn (fun g2 => bad (badk ?_)) (fun g2 => ?_)⟩
    · unfold clB; rw [g1, g2]; rfl
    refine brd (fun g3 => bad (badk ?_)) (fun g3 => ?_)
    · unfold clB; rw [g1, g2, decide_eq_false (by omega)]; rfl
    refine ⟨⟨k + 1, hkl, rfl, ?_⟩, by simp only [nth, toI]; omega⟩
    rw [hs]
    unfold clB; rw [g1, g2, decide_eq_true (by omega)]; rfl
  · have hkl : k = cl.length := by omega
    subst hkl
    rw [List.take_length] at hall
    have hv : validB ⟨x0, y0, x1, y1, th, ga, cl, sf⟩ = true := by unfold validB; rw [hhead]; exact hall
    rw [hv]

/-! ## texts of lengths -/
theorem trimR_drop (c : UInt8) (s : List UInt8) (h : s ≠ []) (hc : nth 0 s (s.length - 1) = c) : trimR c s = trimR c (s.take (s.length - 1)) := by
  have hl : 0 < s.length := by cases s <;> simp_all
  have e : s = s.take (s.length - 1) ++ [nth 0 s (s.length - 1)] := by
    rw [nth_of_lt _ (by omega)]
    conv => lhs; rw [← List.take_append_drop (s.length - 1) s]
    congr 1
    rw [List.drop_eq_getElem_cons (by omega), List.drop_of_length_le (by omega)]
  conv => lhs; rw [e, trimR_snoc, if_pos hc]
theorem trimR_stop (c : UInt8) (s : List UInt8) (h : s ≠ [] → nth 0 s (s.length - 1) ≠ c) : trimR c s = s := by
  by_cases h0 : s = []
  · subst h0; rfl
  have hl : 0 < s.length := by cases s <;> simp_all
  have e : s = s.take (s.length - 1) ++ [nth 0 s (s.length - 1)] := by
    rw [nth_of_lt _ (by omega)]
    conv => lhs; rw [← List.take_append_drop (s.length - 1) s]
    congr 1
    rw [List.drop_eq_getElem_cons (by omega), List.drop_of_length_le (by omega)]
  rw [e, trimR_snoc, if_neg (h h0)]

theorem u8_eq (a : UInt8) (n : Nat) (hn : n < 256) : ((a.toNat : Int) == (n : Int)) = decide (a = UInt8.ofNat n) := by
  rw [Bool.eq_iff_iff]
  simp only [beq_iff_eq, decide_eq_true_eq]
  constructor
  · intro h
    have : a.toNat = n := by omega
    rw [← this]; simp
  · rintro rfl
    simp [UInt8.toNat_ofNat']; omega

theorem mTrimRB_ok (s : List UInt8) (hs : s.length ≤ 1073741824) : Gives CC 98 [.c (.str s), .c (.int .u8 48)] [.c (.str (trimR 48 s))] := by
  refine wpF_ok (anns := fun _ => ⟨[.slot 0 (.string ⟨#[]⟩)], [], fun _ ds => ∃ t : List UInt8, ds = [.str t] ∧ t.length ≤ s.length ∧ trimR 48 t = trimR 48 s, fun ds => (toS (nth .undef ds 0)).length⟩) mixedT Tryz.func98 ?_
  rw [vc_mTrimRB]
  simp only [Int.ofNat_eq_natCast]
  refine ⟨⟨s, rfl, by omega, rfl⟩, ?_⟩
  rintro t ⟨t', he, hlen, htr⟩
  simp only [List.cons.injEq, D.str.injEq, and_true] at he
  subst he
  refine brd (fun h => ?_) (fun h => ?_)
  · have hw : IntKind.wrap .i64 ((t.length : Int) - 1) = ((t.length - 1 : Nat) : Int) := by rw [i64w (by omega) (by omega)]; omega
    rw [hw, Int.toNat_natCast]
    refine ⟨⟨by omega, by omega⟩, ?_⟩
    have hne : t ≠ [] := by intro e; subst e; simp at h
    rw [show (48 : Int) = ((48 : Nat) : Int) from rfl, u8_eq _ _ (by omega)]
    refine brd (fun h2 => ?_) (fun h2 => ?_)
    · refine ⟨⟨by omega, by omega, by omega⟩, ⟨_, rfl, ?_, ?_⟩, ?_⟩
      · simp; omega
      · rw [List.drop_zero, ← htr]; exact (trimR_drop 48 t hne h2).symm
      · simp only [nth, toS, List.drop_zero, List.length_take]; omega
    · rw [← htr, trimR_stop 48 t fun _ => h2]
  · have : t = [] := by
      cases t with
      | nil => rfl
      | cons => simp at h
    subst this
    rw [← htr]; rfl
theorem mTrimR_ok (s : List UInt8) (hs : s.length ≤ 1073741824) : Gives CC 62 [.c (.str s), .c (.str [48])] [.c (.str (trimR 48 s))] := by
  refine wpF_ok (anns := fun _ => ⟨[], [], fun _ _ => True, fun _ => 0⟩) mixedT Tryz.func62 ?_
  rw [vc_mTrimR]
  refine brb (fun h => ?_) (fun h => ⟨⟨by omega, by omega⟩, ⟨by omega, by omega⟩, _, mTrimRB_ok s hs, rfl⟩)
  have : s = [] := by simpa using h
  subst this
  rfl

theorem mMm_ok {n : Int} (h1 : -9223372036854775808 ≤ n) (h2 : n < 9223372036854775808) : Gives CC 39 [.c (.int .i64 n)] [.c (.str (mm n))] := by
  refine wpF_ok (anns := fun _ => ⟨[], [], fun _ _ => True, fun _ => 0⟩) mixedT Tryz.func39 ?_
  rw [vc_mMm]
  have main : ∀ (pre : List UInt8) (u : Nat), u < 9223372036854775809 → pre.length ≤ 1 → mm n = pre ++ mmU u →
      ((1000 : Int) ≠ (0 : Int) ∧ ∃ s, Gives CC (61 : Nat) [A.c (D.int IntKind.u64 (IntKind.wrap IntKind.u64 (Int.tdiv (u : Int) (1000 : Int)))), A.c (D.int IntKind.i64 (10 : Int))] [A.c (D.str s)] ∧
        room (pre.length + List.length s) ∧ (1000 : Int) ≠ (0 : Int) ∧
            br (toB (D.bool (Int.tmod (u : Int) (1000 : Int) != (0 : Int))))
              ((1000 : Int) ≠ (0 : Int) ∧
                ∃ s_1,
                  Gives CC (61 : Nat) [A.c (D.int IntKind.u64 (IntKind.wrap IntKind.u64 ((1000 : Int) + Int.tmod (u : Int) (1000 : Int)))), A.c (D.int IntKind.i64 (10 : Int))] [A.c (D.str s_1)] ∧
                    ((0 : Int) ≤ (1 : Int) ∧ (1 : Int) ≤ (Int.ofNat (List.length s_1)) ∧ (Int.ofNat (List.length s_1)) ≤ (Int.ofNat (List.length s_1))) ∧
                      ∃ s_2,
                        Gives CC (62 : Nat) [A.c (D.str (List.drop (1 : Nat) (List.take (Int.toNat (Int.ofNat (List.length s_1))) s_1))), A.c (D.str [(48 : UInt8)])] [A.c (D.str s_2)] ∧
                          room ((1 : Nat) + List.length s_2) ∧
                            room (List.length (pre ++ s) + List.length ((46 : UInt8) :: s_2)) ∧ [A.c (D.str (pre ++ (s ++ (46 : UInt8) :: s_2)))] = [A.c (D.str (mm n))])
              ([A.c (D.str (pre ++ s))] = [A.c (D.str (mm n))])) := by
    intro pre u hu hpre hmm
    have e1 : Int.tdiv (u : Int) 1000 = ((u / 1000 : Nat) : Int) := by rw [Int.tdiv_eq_ediv_of_nonneg (by omega)]; omega
    have e2 : Int.tmod (u : Int) 1000 = ((u % 1000 : Nat) : Int) := by rw [Int.tmod_eq_emod_of_nonneg (by omega)]; omega
    have e3 : IntKind.wrap .u64 ((u / 1000 : Nat) : Int) = ((u / 1000 : Nat) : Int) := u64w (by omega) (by omega)
    have e4 : IntKind.wrap .u64 (1000 + ((u % 1000 : Nat) : Int)) = ((1000 + u % 1000 : Nat) : Int) := by rw [u64w (by omega) (by omega)]; omega
    have l1 : (Lib.decDigits (u / 1000)).length ≤ 20 := dec_len_le (n := 19) (by omega)
    rw [e1, e2, e3, e4]
    refine ⟨by omega, _, fmtUint_ok _ (by omega), by unfold room; omega, by omega, ?_⟩
    have e5 : (((u % 1000 : Nat) : Int) != 0) = !decide (u % 1000 = 0) := by
      rw [Bool.eq_iff_iff]; simp; omega
    rw [e5]
    refine brn (fun h => ?_) (fun h => ?_)
    · have h0 : u % 1000 ≠ 0 := of_decide_eq_false h
      have l2 : (Lib.decDigits (1000 + u % 1000)).length ≤ 4 := dec_len_le (n := 3) (by omega)
      have l3 : 0 < (Lib.decDigits (1000 + u % 1000)).length := by rw [Lib.decDigits_length]; exact nDigits_pos _
      have hd : List.drop 1 (List.take (Int.toNat (Int.ofNat (Lib.decDigits (1000 + u % 1000)).length)) (Lib.decDigits (1000 + u % 1000))) = digF 3 u := by
        rw [Int.ofNat_eq_natCast, Int.toNat_natCast, List.take_length, dec_1000 (by omega)]
        exact digF_mod 3 _ _ (by omega)
      have l4 := trimR_len 48 (digF 3 u)
      rw [digF_len] at l4
      refine ⟨by omega, _, fmtUint_ok _ (by omega), ⟨by omega, by simp only [Int.ofNat_eq_natCast]; omega, Int.le_refl _⟩, ?_⟩
      rw [hd]
      refine ⟨_, mTrimR_ok _ (by rw [digF_len]; omega), by unfold room; omega, by unfold room; simp only [List.length_append, List.length_cons]; omega, ?_⟩
      rw [hmm, mmU, h]
    · rw [hmm, mmU, h, List.append_nil]
  refine brd (fun h => ?_) (fun h => ?_)
  · have e : IntKind.wrap .u64 (0 - IntKind.wrap .u64 n) = ((n.natAbs : Nat) : Int) := by
      simp only [IntKind.wrap, IntKind.bits, IntKind.signed]
      simp
      omega
    rw [e]
    have := main [45] n.natAbs (by omega) (by simp) (by unfold mm; rw [decide_eq_true h])
    exact this
  · have e : IntKind.wrap .u64 n = ((n.natAbs : Nat) : Int) := by rw [u64w (by omega) (by omega)]; omega
    rw [e]
    have := main [] n.natAbs (by omega) (by simp) (by unfold mm; rw [decide_eq_false h])
    exact this

/-- Lengths, each behind a blank. -/
def wordsT : List Int → List UInt8
  | [] => []
  | n :: r => (32 :: mm n) ++ wordsT r
theorem wordsT_append : ∀ (a b : List Int), wordsT (a ++ b) = wordsT a ++ wordsT b
  | [], b => rfl
  | n :: a, b => by simp only [List.cons_append, wordsT, wordsT_append a b, List.append_assoc]
def i64s (l : List Int) : List (List D) := l.map fun n => [.int .i64 n]
theorem i64s_length (l : List Int) : (i64s l).length = l.length := by simp [i64s]
theorem nth_i64s {l : List Int} {i : Nat} (h : i < l.length) : nth [] (i64s l) i = [.int .i64 l[i]] := by
  rw [nth_eq]; simp [i64s, h]
theorem wordsT_len {l : List Int} (h : ∀ n ∈ l, n.natAbs < 10 ^ 23) : (wordsT l).length ≤ 26 * l.length := by
  induction l with
  | nil => simp [wordsT]
  | cons n r ih =>
    have h1 := mm_len (h n (by simp))
    have h2 := ih fun m hm => h m (by simp [hm])
    simp only [wordsT, List.length_append, List.length_cons]
    omega
theorem wordsT_take_succ (l : List Int) (k : Nat) (h : k < l.length) : wordsT (l.take (k + 1)) = wordsT (l.take k) ++ 32 :: mm l[k] := by
  rw [List.take_succ_eq_append_getElem h, wordsT_append]
  simp [wordsT]

theorem mline_ok {nm : List UInt8} {l : List Int} (hn : nm.length ≤ 1000) (hl : l.length ≤ 1000) (hb : ∀ n ∈ l, -9223372036854775808 ≤ n ∧ n < 9223372036854775808) :
    Gives CC 23 [.c (.str nm), .c (.sl (i64s l))] [.c (.str (nm ++ wordsT l ++ [10]))] := by
  refine wpF_ok (anns := fun _ => ⟨[.slot 9 (.int .i64 0), .slot 0 (.string ⟨#[]⟩)], [], fun _ ds => ∃ k : Nat, k ≤ l.length ∧ ds = [.int .i64 (k : Int), .str (nm ++ wordsT (l.take k))], fun ds => (l.length - toI (nth .undef ds 0)).toNat⟩) mixedT Tryz.func23 ?_
  rw [vc_mline]
  simp only [Int.ofNat_eq_natCast, i64s_length]
  refine ⟨⟨0, by omega, by simp [wordsT]⟩, ?_⟩
  rintro n s ⟨k, hk, he⟩
  simp only [List.cons.injEq, D.int.injEq, D.str.injEq, true_and, and_true] at he
  obtain ⟨rfl, rfl⟩ := he
  have hwl : (wordsT (l.take k)).length ≤ 26 * k := by
    have := wordsT_len (l := l.take k) fun m hm => by have := hb m (List.mem_of_mem_take hm); omega
    rw [List.length_take] at this; omega
  refine brd (fun h => ?_) (fun h => ?_)
  · have hkl : k < l.length := by omega
    have hw : IntKind.wrap .i64 ((k : Int) + 1) = ((k + 1 : Nat) : Int) := by rw [i64w (by omega) (by omega)]; omega
    rw [hw, Int.toNat_natCast, nth_i64s hkl]
    have hbk := hb _ (List.getElem_mem hkl)
    have hml := mm_len (n := l[k]) (by omega)
    refine ⟨⟨by omega, by omega, rfl⟩, _, ⟨rfl, by simp⟩, _, mMm_ok hbk.1 hbk.2, by unfold room; omega, by unfold room; simp only [List.length_append, List.length_cons]; omega, ⟨k + 1, by omega, ?_⟩, by simp only [nth, toI]; omega⟩
    rw [wordsT_take_succ l k hkl, List.append_assoc]
  · have hkl : k = l.length := by omega
    subst hkl
    rw [List.take_length] at hwl ⊢
    exact ⟨by unfold room; simp only [List.length_append]; omega, rfl⟩
end Eng
end

section
/- The reference's texts: of an integer, of a number with few digits behind the point, of a length; its text of a setup. -/
namespace Eng
open Go Go.Proofs
set_option maxRecDepth 100000

/-! ## an integer's text -/
def sgT (z : Int) : List UInt8 := match decide (z < 0) with | true => [45] | false => []
def decZt (z : Int) : List UInt8 := sgT z ++ Lib.decDigits z.natAbs
theorem pow9 (k : Nat) : 1000000000 ^ k = 10 ^ (9 * k) := by rw [Nat.pow_mul]
theorem digF_val {l : List Nat} (hl : Limbs l) {k : Nat} (hk : k < l.length) : digF 9 l[k] ++ digF (9 * k) (val (l.take k)) = digF (9 * (k + 1)) (val (l.take (k + 1))) := by
  have h1 : val (l.take k) < 10 ^ (9 * k) := by
    have := val_lt (hl.take k)
    rw [List.length_take, Nat.min_eq_left (by omega), pow9] at this
    exact this
  have h2 : val (l.take (k + 1)) = val (l.take k) + 10 ^ (9 * k) * l[k] := by
    have := val_take_succ l k
    rw [pow9, List.getD_eq_getElem?_getD, List.getElem?_eq_getElem hk, Option.getD_some] at this
    exact this
  have h3 : val (l.take (k + 1)) / 10 ^ (9 * k) = l[k] := by
    rw [h2, Nat.add_mul_div_left _ _ (Nat.pow_pos (by omega)), Nat.div_eq_of_lt h1, Nat.zero_add]
  have h4 : val (l.take (k + 1)) % 10 ^ (9 * k) = val (l.take k) % 10 ^ (9 * k) := by
    rw [h2, Nat.add_mul_mod_self_left]
  rw [show 9 * (k + 1) = 9 + 9 * k by omega, digF_append (9 * k) 9, h3, digF_mod _ _ _ h4]

theorem ofNat_toNat_digit {v : Nat} (h : v < 10) : (UInt8.ofNat (48 + v)).toNat = 48 + v := by
  simp [UInt8.toNat_ofNat']; omega

theorem nFmtI_ok (z : Int) (hz : (lim z.natAbs).length ≤ 10000000) : Gives CC 155 [encI z] [.c (.str (decZt z))] := by
  have hll := lim_limbs z.natAbs
  have hlv := lim_val z.natAbs
  have hln := lim_nil (n := z.natAbs)
  generalize hl : lim z.natAbs = l at *
  refine wpF_ok (anns := ann3
    ⟨[.slot 3 (.string ⟨#[]⟩), .slot 4 (.int .i64 0)], [], fun _ ds => ∃ k : Nat, k ≤ l.length ∧ ds = [.str (digF (9 * k) (val (l.take k))), .int .i64 (k : Int)], fun ds => (l.length - toI (nth .undef ds 1)).toNat⟩
    ⟨[.slot 3 (.string ⟨#[]⟩), .slot 5 (.int .u32 0), .slot 6 (.int .i64 0)], [.slot 3 (.string ⟨#[]⟩), .slot 4 (.int .i64 0), .slot 5 (.int .u32 0)],
      fun gs ds => ∃ (k j : Nat) (v : Nat), j ≤ 9 ∧ gs = [.str (digF (9 * k) (val (l.take k))), .int .i64 (k : Int), .int .u32 (v : Int)] ∧ ds = [.str (digF j v ++ digF (9 * k) (val (l.take k))), .int .u32 ((v / 10 ^ j : Nat) : Int), .int .i64 (j : Int)],
      fun ds => (9 - toI (nth .undef ds 2)).toNat⟩
    ⟨[.slot 3 (.string ⟨#[]⟩)], [], fun _ ds => ∃ j : Nat, j + 1 ≤ 9 * l.length ∧ ds = [.str (digF (j + 1) z.natAbs)] ∧ z.natAbs < 10 ^ (j + 1), fun ds => (toS (nth .undef ds 0)).length⟩) mixedT Tryz.func155 ?_
  rw [encI_cells, hl, vc_nFmtI]
  simp only [Int.ofNat_eq_natCast, raw_length]
  have h0 : (((l.length : Nat) : Int) == 0) = decide (z.natAbs = 0) := by
    rw [Bool.eq_iff_iff]
    simp only [beq_iff_eq, decide_eq_true_eq]
    rw [← hln]
    cases l <;> simp
    omega
  rw [h0]
  refine brd (fun h => ?_) (fun hne => ?_)
  · have : z = 0 := by omega
    subst this
    simp [decZt, sgT, Lib.decDigits_one]
  have hlpos : 0 < l.length := by
    rcases Nat.eq_zero_or_pos l.length with h | h
    · exact absurd (hln.1 (List.eq_nil_of_length_eq_zero h)) hne
    · exact h
  refine ⟨⟨0, by omega, rfl⟩, ?_⟩
  rintro s n ⟨k, hk, he⟩
  simp only [List.cons.injEq, D.str.injEq, D.int.injEq, true_and, and_true] at he
  obtain ⟨rfl, rfl⟩ := he
  refine brd (fun h => ?_) (fun h => ?_)
  · have hkl : k < l.length := by omega
    have hw : IntKind.wrap .i64 ((k : Int) + 1) = ((k + 1 : Nat) : Int) := by rw [i64w (by omega) (by omega)]; omega
    rw [Int.toNat_natCast]
    refine ⟨⟨by omega, by omega, raw_len1 hkl⟩, _, cut_raw hkl, ⟨k, 0, l[k], by omega, rfl, by simp [digF]⟩, ?_⟩
    rintro s1 n2 n3 ⟨k', j, v, hj, hg, he⟩
    simp only [List.cons.injEq, D.str.injEq, D.int.injEq, true_and, and_true] at hg he
    obtain ⟨_, hk', hv⟩ := hg
    have hk' : k' = k := by omega
    have hv : v = l[k] := by omega
    subst hk' hv
    obtain ⟨rfl, rfl, rfl⟩ := he
    have hvb : l[k'] < 1000000000 := hll.get hkl
    refine brd (fun h2 => ?_) (fun h2 => ?_)
    · have hq1 : l[k'] / 10 ^ (j + 1) = l[k'] / 10 ^ j / 10 := by rw [Nat.pow_succ, Nat.div_div_eq_div_mul]
      have hqle : l[k'] / 10 ^ j ≤ l[k'] := Nat.div_le_self _ _
      have hdc := digF_cons j l[k']
      have hinv : ∀ ds : List D, ds = [.str (digF (j + 1) l[k'] ++ digF (9 * k') (val (l.take k'))), .int .u32 ((l[k'] / 10 ^ (j + 1) : Nat) : Int), .int .i64 ((j + 1 : Nat) : Int)] →
          ∃ (k j : Nat) (v : Nat), j ≤ 9 ∧ [D.str (digF (9 * k') (val (l.take k'))), D.int .i64 (k' : Int), D.int .u32 (l[k'] : Int)] = [.str (digF (9 * k) (val (l.take k))), .int .i64 (k : Int), .int .u32 (v : Int)] ∧ ds = [.str (digF j v ++ digF (9 * k) (val (l.take k))), .int .u32 ((v / 10 ^ j : Nat) : Int), .int .i64 (j : Int)] :=
        fun ds h => ⟨k', j + 1, l[k'], by omega, rfl, h⟩
      rw [hq1, hdc] at hinv
      generalize l[k'] / 10 ^ j = q at *
      have e1 : Int.tmod (q : Int) 10 = ((q % 10 : Nat) : Int) := by rw [Int.tmod_eq_emod_of_nonneg (by omega)]; omega
      have e2 : Int.tdiv (q : Int) 10 = ((q / 10 : Nat) : Int) := by rw [Int.tdiv_eq_ediv_of_nonneg (by omega)]; omega
      have e3 : IntKind.wrap .u32 (48 + ((q % 10 : Nat) : Int)) = ((48 + q % 10 : Nat) : Int) := by rw [u32w (by omega) (by omega)]; omega
      have e4 : IntKind.wrap .i32 ((48 + q % 10 : Nat) : Int) = ((48 + q % 10 : Nat) : Int) := by
        simp only [IntKind.wrap, IntKind.bits, IntKind.signed]
        simp
        omega
      have e5 : IntKind.wrap .u32 ((q / 10 : Nat) : Int) = ((q / 10 : Nat) : Int) := u32w (by omega) (by omega)
      have e6 : IntKind.wrap .i64 ((j : Int) + 1) = ((j + 1 : Nat) : Int) := by rw [i64w (by omega) (by omega)]; omega
      rw [e1, e2, e3, e4, e5, e6, Int.toNat_natCast]
      refine ⟨by omega, ⟨by omega, by omega⟩, ?_, by omega, hinv _ rfl, by simp only [nth, toI]; omega⟩
      unfold room; rw [List.length_append, digF_len, digF_len]; omega
    · have : j = 9 := by omega
      subst this
      rw [hw]
      refine ⟨⟨k' + 1, by omega, ?_⟩, by simp only [nth, toI]; omega⟩
      rw [digF_val hll hkl]
  · have hkl : k = l.length := by omega
    subst hkl
    rw [List.take_length, hlv]
    have hvl : z.natAbs < 10 ^ (9 * l.length) := by
      have := val_lt hll
      rw [hlv, pow9] at this; exact this
    obtain ⟨m, hm⟩ : ∃ m, 9 * l.length = m + 1 := ⟨9 * l.length - 1, by omega⟩
    rw [hm] at hvl ⊢
    refine ⟨⟨m, by omega, rfl, hvl⟩, ?_⟩
    rintro s ⟨j, hj, he, hlt⟩
    simp only [List.cons.injEq, D.str.injEq, and_true] at he
    subst he
    have hd10 : z.natAbs / 10 ^ j % 10 < 10 := Nat.mod_lt _ (by omega)
    rw [digF_cons]
    simp only [List.length_cons, digF_len]
    refine ⟨⟨by omega, by omega⟩, ?_⟩
    have e0 : nth (0 : UInt8) (UInt8.ofNat (48 + z.natAbs / 10 ^ j % 10) :: digF j z.natAbs) (Int.toNat 0) = UInt8.ofNat (48 + z.natAbs / 10 ^ j % 10) := rfl
    rw [e0, ofNat_toNat_digit hd10]
    have e1 : ((((48 + z.natAbs / 10 ^ j % 10 : Nat)) : Int) == 48) = decide (z.natAbs / 10 ^ j % 10 = 0) := by
      rw [Bool.eq_iff_iff]; simp only [beq_iff_eq, decide_eq_true_eq]; omega
    rw [e1]
    have hq : z.natAbs / 10 ^ j < 10 := by
      rw [Nat.div_lt_iff_lt_mul (Nat.pow_pos (by omega)), ← Nat.pow_succ']; exact hlt
    refine brd (fun h2 => ?_) (fun h2 => ?_)
    · have hq0 : z.natAbs / 10 ^ j = 0 := by
        generalize z.natAbs / 10 ^ j = q at *
        omega
      have hlt2 : z.natAbs < 10 ^ j := by
        rcases Nat.lt_or_ge z.natAbs (10 ^ j) with h | h
        · exact h
        · have := Nat.div_pos h (Nat.pow_pos (by omega)); rw [hq0] at this; omega
      rcases j with _ | j
      · rw [Nat.pow_zero] at hlt2; omega
      refine ⟨⟨by omega, by omega, by omega⟩, ⟨j, by omega, ?_, hlt2⟩, ?_⟩
      · rw [Int.toNat_natCast, List.take_of_length_le (by simp [digF_len])]; rfl
      · rw [Int.toNat_natCast, List.take_of_length_le (by simp [digF_len])]
        simp [nth, toS, digF_len]
    · have hge : 10 ^ j ≤ z.natAbs := by
        rcases Nat.lt_or_ge z.natAbs (10 ^ j) with h | h
        · rw [Nat.div_eq_of_lt h] at h2; omega
        · exact h
      have hdd := dec_of_digF hge hlt
      rw [← digF_cons, hdd]
      have hlen : (Lib.decDigits z.natAbs).length = j + 1 := by rw [← hdd, digF_len]
      refine brb' (fun h3 => ?_) (fun h3 => ?_)
      · have h3 := of_decide_eq_true h3
        refine ⟨by unfold room; omega, ?_⟩
        unfold decZt sgT
        rw [decide_eq_true h3]; rfl
      · have h3 := of_decide_eq_false h3
        unfold decZt sgT
        rw [decide_eq_false h3]; rfl

/-! ## equality; fractions; powers of ten -/
theorem nSame_ok {x y : Int} (hx : Sm x) (hy : Sm y) : Gives CC 103 [encI x, encI y] [.c (.bool (decide (x = y)))] := by
  refine wpF_ok (anns := fun _ => ⟨[], [], fun _ _ => True, fun _ => 0⟩) mixedT Tryz.func103 ?_
  rw [encI_cells, encI_cells, vc_nSame]
  refine brb (fun h => ?_) (fun h => ?_)
  · refine ⟨_, qcompare_ok (Nat.le_trans hx.len (by omega)) (Nat.le_trans hy.len (by omega)), ?_⟩
    congr 3
    rw [Bool.eq_iff_iff] at h ⊢
    simp only [beq_iff_eq, decide_eq_true_eq] at h ⊢
    have h : (x < 0 ↔ y < 0) := by
      by_cases a : x < 0 <;> by_cases b : y < 0 <;> simp [a, b] at h ⊢
    unfold cmpN
    constructor
    · intro h2
      split at h2
      · omega
      · split at h2 <;> omega
    · rintro rfl
      rw [if_neg (by omega), if_neg (by omega)]
  · congr 3
    symm
    refine decide_eq_false fun e => ?_
    subst e
    simp at h
theorem sm_64 {n : Int} (h1 : -9223372036854775808 ≤ n) (h2 : n < 9223372036854775808) : Sm n := by
  have : n.natAbs < 10 ^ 40 := by omega
  exact Nat.lt_trans this (by unfold topN; decide)
theorem sq_40 {z : Int} (h : z.natAbs < 10 ^ 40) : Sq z := Nat.lt_trans h (by unfold halfN; decide)
theorem nFrac_ok {m d : Int} (h1 : -9223372036854775808 ≤ m) (h2 : m < 9223372036854775808) (h3 : -9223372036854775808 ≤ d) (h4 : d < 9223372036854775808) (hd : d ≠ 0) : Gives CC 64 [.c (.int .i64 m), .c (.int .i64 d)] [encR (Rat.divInt m d)] := by
  refine wpF_ok (anns := fun _ => ⟨[], [], fun _ _ => True, fun _ => 0⟩) mixedT Tryz.func64 ?_
  rw [vc_nFrac]
  refine brb (fun h => absurd (by simpa using h) hd) (fun _ => ?_)
  have := uOf_ok partsOk (sm_64 h1 h2) (sm_64 h3 h4) hd
  rw [encR_cells] at this ⊢
  exact ⟨_, _, qFromInt64_ok h1 h2, _, _, qFromInt64_ok h3 h4, _, _, _, _, this, rfl⟩

theorem natR_num (m : Nat) : ((m : Nat) : Rat).num = (m : Int) := by simp
theorem natR_den (m : Nat) : ((m : Nat) : Rat).den = 1 := by simp
theorem sr_nat {m : Nat} (h : m < 10 ^ 40) : Sr ((m : Nat) : Rat) := by
  refine ⟨?_, ?_⟩
  · rw [natR_num]; exact sq_40 (by omega)
  · rw [natR_den]; exact sq_40 (by decide)

theorem nPower_ok {k : Nat} (hk : k ≤ 30) : Gives CC 102 [.c (.int .i64 (k : Int))] [encR ((10 ^ k : Nat) : Rat)] := by
  refine wpF_ok (anns := fun _ => ⟨[.slot 4 (.int .i64 0), .box 3 [.bool false, .slice none 0 0, .bool false, .slice none 0 0]], [], fun _ ds => ∃ j : Nat, j ≤ k ∧ ds = .int .i64 (j : Int) :: cR ((10 ^ j : Nat) : Rat), fun ds => (k - toI (nth .undef ds 0)).toNat⟩) mixedT Tryz.func102 ?_
  rw [vc_nPower]
  have h1 := uFromInt64_ok (n := 1) (by omega) (by omega)
  have h10 := uFromInt64_ok (n := 10) (by omega) (by omega)
  rw [encR_cells] at h1 h10
  refine ⟨_, _, _, _, h1, ⟨0, by omega, rfl⟩, ?_⟩
  rintro n b es b2 es2 ⟨j, hj, he⟩
  simp only [List.cons.injEq, D.int.injEq, true_and] at he
  obtain ⟨rfl, he⟩ := he
  refine brd (fun h => ?_) (fun h => ?_)
  · have hw : IntKind.wrap .i64 ((j : Int) + 1) = ((j + 1 : Nat) : Int) := by rw [i64w (by omega) (by omega)]; omega
    have hp : 10 ^ j < 10 ^ 31 := Nat.pow_lt_pow_right (by omega) (by omega)
    have hm := uMul_ok partsOk (sr_nat (m := 10 ^ j) (Nat.lt_trans hp (by decide))) (sr_nat (m := 10) (by decide))
    have e : ((10 ^ j : Nat) : Rat) * ((10 : Nat) : Rat) = ((10 ^ (j + 1) : Nat) : Rat) := by
      rw [Nat.pow_succ, Rat.natCast_mul]
    rw [e, encR, ← he] at hm
    rw [hw]
    rw [encR_cells ((10 ^ (j + 1) : Nat) : Rat)] at hm
    refine ⟨_, _, _, _, h10, _, _, _, _, hm, ⟨j + 1, by omega, rfl⟩, by simp only [nth, toI]; omega⟩
  · have : j = k := by omega
    subst this
    rw [he]; rfl

/-! ## a number with few digits behind the point -/
theorem dec_head (u : Nat) : nth 0 (Lib.decDigits u) 0 ≠ 45 := by
  have hp := nDigits_pos u
  obtain ⟨n, hn⟩ : ∃ n, Lib.nDigits u = n + 1 := ⟨Lib.nDigits u - 1, by omega⟩
  rw [decDigits_digF, hn, digF_cons]
  show UInt8.ofNat (48 + u / 10 ^ n % 10) ≠ 45
  have h10 : u / 10 ^ n % 10 < 10 := Nat.mod_lt _ (by omega)
  intro e
  have := congrArg UInt8.toNat e
  rw [ofNat_toNat_digit h10] at this
  have h45 : (45 : UInt8).toNat = 45 := rfl
  omega
theorem nshown_ok {z : Int} {k : Nat} (hz : z.natAbs < 10 ^ 90) (hk : k ≤ 30) : Gives CC 104 [encI z, .c (.int .i64 (k : Int))] [.c (.str (sgT z ++ shownU z.natAbs k))] := by
  generalize hU : z.natAbs = U at *
  have hL0 : Lib.nDigits U ≤ 90 := (nDigits_iff 89 U).2 hz
  have hLp := nDigits_pos U
  have hlt0 : U < 10 ^ Lib.nDigits U := by
    obtain ⟨n, hn⟩ : ∃ n, Lib.nDigits U = n + 1 := ⟨Lib.nDigits U - 1, by omega⟩
    rw [hn]; exact (nDigits_iff n U).1 (by omega)
  refine wpF_ok (anns := fun _ => ⟨[.slot 5 (.string ⟨#[]⟩)], [], fun _ ds => ∃ j : Nat, Lib.nDigits U ≤ j ∧ j ≤ max (Lib.nDigits U) (k + 1) ∧ ds = [.str (digF j U)], fun ds => 200 - (toS (nth .undef ds 0)).length⟩) mixedT Tryz.func104 ?_
  have hF := nFmtI_ok z (by
    have : (lim z.natAbs).length ≤ 10 := lim_length_le (by rw [hU]; exact Nat.lt_of_lt_of_le hz (by decide))
    omega)
  rw [encI_cells] at hF ⊢
  rw [vc_nshown]
  simp only [Int.ofNat_eq_natCast]
  have hmax : max (Lib.nDigits U) (k + 1) ≤ 90 := by omega
  have hfin : ∀ j, Lib.nDigits U ≤ j → j ≤ max (Lib.nDigits U) (k + 1) → ¬ (j ≤ k) → j = max (Lib.nDigits U) (k + 1) := fun j a b c => by omega
  have hpad : ∀ j, Lib.nDigits U ≤ j → 48 :: digF j U = digF (j + 1) U := fun j hj => by
    have := digF_pad j 1 U (Nat.lt_of_lt_of_le hlt0 (Nat.pow_le_pow_right (by omega) hj))
    rw [Nat.add_comm 1 j] at this
    rw [this]; rfl
  have hend0 : k = 0 → digF (max (Lib.nDigits U) (k + 1)) U = shownU U k := by
    rintro rfl
    rw [show max (Lib.nDigits U) (0 + 1) = Lib.nDigits U by omega, ← decDigits_digF]; rfl
  have hend : k ≠ 0 → (digF (max (Lib.nDigits U) (k + 1)) U).take (max (Lib.nDigits U) (k + 1) - k) ++ 46 :: (digF (max (Lib.nDigits U) (k + 1)) U).drop (max (Lib.nDigits U) (k + 1) - k) = shownU U k := fun h0 => by
    rw [shown_pad (u := U) (k := k) (L := max (Lib.nDigits U) (k + 1)) rfl]
    cases k with
    | zero => omega
    | succ k => rfl
  have hbody : ∀ (pre : List UInt8), pre.length ≤ 1 → sgT z = pre → ∀ (s : List UInt8), (∃ j : Nat, Lib.nDigits U ≤ j ∧ j ≤ max (Lib.nDigits U) (k + 1) ∧ [D.str s] = [.str (digF j U)]) →
      br (toB (D.bool (decide ((s.length : Int) ≤ (k : Int)))))
        (room (1 + s.length) ∧ (∃ j : Nat, Lib.nDigits U ≤ j ∧ j ≤ max (Lib.nDigits U) (k + 1) ∧ [D.str (48 :: s)] = [.str (digF j U)]) ∧ 200 - (toS (nth .undef [D.str (48 :: s)] 0)).length < 200 - (toS (nth .undef [D.str s] 0)).length)
        (br (toB (D.bool ((k : Int) == 0))) (room (pre.length + s.length) ∧ [A.c (D.str (pre ++ s))] = [A.c (D.str (sgT z ++ shownU U k))])
          ((0 ≤ (0 : Int) ∧ 0 ≤ IntKind.wrap .i64 ((s.length : Int) - k) ∧ IntKind.wrap .i64 ((s.length : Int) - k) ≤ s.length) ∧
            room (pre.length + ((s.take (IntKind.wrap .i64 ((s.length : Int) - k)).toNat).drop 0).length) ∧
            room ((pre ++ ((s.take (IntKind.wrap .i64 ((s.length : Int) - k)).toNat).drop 0)).length + 1) ∧
            (0 ≤ IntKind.wrap .i64 ((s.length : Int) - k) ∧ IntKind.wrap .i64 ((s.length : Int) - k) ≤ s.length ∧ (s.length : Int) ≤ s.length) ∧
            room ((pre ++ ((s.take (IntKind.wrap .i64 ((s.length : Int) - k)).toNat).drop 0) ++ [46]).length + ((s.take (Int.toNat s.length)).drop (IntKind.wrap .i64 ((s.length : Int) - k)).toNat).length) ∧
            [A.c (D.str (pre ++ ((s.take (IntKind.wrap .i64 ((s.length : Int) - k)).toNat).drop 0) ++ [46] ++ ((s.take (Int.toNat s.length)).drop (IntKind.wrap .i64 ((s.length : Int) - k)).toNat)))] = [A.c (D.str (sgT z ++ shownU U k))])) := by
    intro pre hpre hsg s ⟨j, hj1, hj2, he⟩
    simp only [List.cons.injEq, D.str.injEq, and_true] at he
    subst he
    rw [digF_len]
    refine brd (fun h => ?_) (fun h => ?_)
    · have hjk : j ≤ k := by omega
      refine ⟨by unfold room; omega, ⟨j + 1, by omega, by omega, by rw [hpad j hj1]⟩, by simp only [nth, toS, List.length_cons, digF_len]; omega⟩
    · have hjL := hfin j hj1 hj2 (by omega)
      have hw : IntKind.wrap .i64 ((j : Int) - k) = ((j - k : Nat) : Int) := by rw [i64w (by omega) (by omega)]; omega
      rw [hw, Int.toNat_natCast, Int.toNat_natCast]
      have e0 : ((k : Int) == 0) = decide (k = 0) := by rw [Bool.eq_iff_iff]; simp
      rw [e0]
      refine brd (fun h0 => ?_) (fun h0 => ?_)
      · refine ⟨by unfold room; omega, ?_⟩
        have := hend0 h0
        rw [← hjL] at this
        rw [this, hsg]
      · have := hend h0
        rw [← hjL] at this
        have ht : (digF j U).take j = digF j U := List.take_of_length_le (by rw [digF_len]; omega)
        refine ⟨⟨by omega, by omega, by omega⟩, ?_, ?_, ⟨by omega, by omega, by omega⟩, ?_, ?_⟩
        · unfold room; simp only [List.length_drop, List.length_take, digF_len]; omega
        · unfold room; simp only [List.length_append, List.length_drop, List.length_take, digF_len]; omega
        · unfold room; simp only [List.length_append, List.length_cons, List.length_nil, List.length_drop, List.length_take, digF_len]; omega
        · rw [List.drop_zero, ht, hsg, ← this, List.append_assoc, List.append_assoc]; rfl
  have hdl : (Lib.decDigits U).length = Lib.nDigits U := Lib.decDigits_length U
  by_cases hneg : z < 0
  · have hs : sgT z = [45] := by unfold sgT; rw [decide_eq_true hneg]
    have hz : decZt z = 45 :: Lib.decDigits U := by unfold decZt; rw [hs, hU]; rfl
    rw [hz] at hF
    refine ⟨_, hF, ⟨by omega, by simp⟩, brb (fun _ => ?_) (fun h => ?_)⟩
    · refine ⟨⟨by omega, by simp; omega, by omega⟩, ⟨Lib.nDigits U, by omega, by omega, ?_⟩, fun s hs2 => hbody [45] (by simp) hs s hs2⟩
      rw [Int.toNat_natCast, List.take_length, ← decDigits_digF]; rfl
    · exact absurd h (by simp [nth])
  · have hs : sgT z = [] := by unfold sgT; rw [decide_eq_false hneg]
    have hz : decZt z = Lib.decDigits U := by unfold decZt; rw [hs, hU]; rfl
    rw [hz] at hF
    refine ⟨_, hF, ⟨by omega, by omega⟩, ?_⟩
    rw [show (45 : Int) = ((45 : Nat) : Int) from rfl, u8_eq _ _ (by omega)]
    refine brd (fun h => absurd h (dec_head U)) (fun _ => ?_)
    exact ⟨⟨Lib.nDigits U, by omega, by omega, by rw [← decDigits_digF]⟩, fun s hs2 => hbody [] (by simp) hs s hs2⟩
end Eng
end

section
/- Setups: the reference's text of a length, both texts of a setup, and the law SetupValid. -/
namespace Eng
open Go Go.Proofs
set_option maxRecDepth 100000

theorem den_one (m : Int) : ((Rat.divInt m 1000).den : Int) = 1 ↔ m.natAbs % 1000 = 0 := by
  have h := (divInt_nd (n := m) (d := 1000) (by omega)).2
  rw [h]
  have e : (1000 : Int).natAbs = 1000 := rfl
  rw [e]
  obtain ⟨c, hc⟩ := Nat.gcd_dvd_right m.natAbs 1000
  have hg : 0 < Nat.gcd m.natAbs 1000 := Nat.gcd_pos_of_pos_right _ (by omega)
  have hdm := Nat.gcd_dvd_left m.natAbs 1000
  have hl : m.natAbs % 1000 = 0 → Nat.gcd m.natAbs 1000 = 1000 := fun h => Nat.gcd_eq_right (Nat.dvd_of_mod_eq_zero h)
  generalize Nat.gcd m.natAbs 1000 = g at *
  have hq : (1000 : Int) / (g : Int) = (c : Int) := by
    have : (1000 : Nat) / g = c := by rw [hc]; exact Nat.mul_div_cancel_left _ hg
    rw [← this, Int.natCast_ediv]; rfl
  rw [hq]
  constructor
  · intro h1
    have h1 : c = 1 := by omega
    subst h1
    have : g = 1000 := by omega
    subst this
    exact Nat.mod_eq_zero_of_dvd hdm
  · intro h1
    have := hl h1
    subst this
    omega
theorem num_one {m : Int} (h : m.natAbs % 1000 = 0) : (Rat.divInt m 1000).num = m / 1000 := by
  rw [(divInt_nd (n := m) (d := 1000) (by omega)).1]
  have e : (1000 : Int).natAbs = 1000 := rfl
  rw [e, Nat.gcd_eq_right (Nat.dvd_of_mod_eq_zero h)]
  rfl
theorem divInt_shift (n : Int) (j : Nat) : Rat.divInt n 1000 * ((10 ^ j : Nat) : Rat) = Rat.divInt (n * (10 ^ j : Nat)) 1000 := by
  have e : ((10 ^ j : Nat) : Rat) = Rat.divInt ((10 ^ j : Nat) : Int) 1 := by
    have := Rat.num_divInt_den ((10 ^ j : Nat) : Rat)
    rw [natR_num, natR_den] at this
    exact this.symm
  rw [e, Rat.divInt_mul_divInt, Int.mul_one]
theorem sr_mil {m : Int} (h : m.natAbs < 10 ^ 30) : Sr (Rat.divInt m 1000) := by
  have h1 := divInt_nd (n := m) (d := 1000) (by omega)
  refine ⟨?_, ?_⟩
  · rw [h1.1]
    refine sq_40 ?_
    have := Int.natAbs_ediv_le_natAbs m (Nat.gcd m.natAbs (1000 : Int).natAbs : Nat)
    omega
  · rw [h1.2]
    refine sq_40 ?_
    have := Int.natAbs_ediv_le_natAbs 1000 (Nat.gcd m.natAbs (1000 : Int).natAbs : Nat)
    omega

theorem mm_sg (n : Int) : mm n = sgT n ++ mmU n.natAbs := rfl

theorem nExact_ok {n : Int} (h : n.natAbs < 10 ^ 20) : Gives CC 63 [encR (Rat.divInt n 1000)] [.c (.str (mm n)), .c (.bool true)] := by
  obtain ⟨K, hK3, hK, hKl⟩ := mm_least n.natAbs
  refine wpF_ok (anns := fun _ => ⟨[.slot 4 (.int .i64 0)], [], fun _ ds => ∃ j : Nat, j ≤ K ∧ ds = [.int .i64 (j : Int)], fun ds => (100 - toI (nth .undef ds 0)).toNat⟩) mixedT Tryz.func63 ?_
  have hml := mm_len (n := n) (by omega)
  have hmul : ∀ j, j ≤ K → Gives CC 52 [encR (Rat.divInt n 1000), encR ((10 ^ j : Nat) : Rat)] [encR (Rat.divInt (n * (10 ^ j : Nat)) 1000)] := fun j hj => by
    have hp : 10 ^ j < 10 ^ 4 := Nat.pow_lt_pow_right (by omega) (by omega)
    have := uMul_ok partsOk (sr_mil (m := n) (by omega)) (sr_nat (m := 10 ^ j) (by omega))
    rw [divInt_shift] at this
    exact this
  have hpow : ∀ j, j ≤ K → Gives CC 102 [.c (.int .i64 (j : Int))] [encR ((10 ^ j : Nat) : Rat)] := fun j hj => nPower_ok (by omega)
  have habs : ∀ j : Nat, (n * (10 ^ j : Nat)).natAbs = n.natAbs * 10 ^ j := fun j => by rw [Int.natAbs_mul, Int.natAbs_natCast]
  have hsame : ∀ j, j ≤ K → Gives CC 103 [encI ((Rat.divInt (n * (10 ^ j : Nat)) 1000).den : Int), encI 1] [.c (.bool (decide (n.natAbs * 10 ^ j % 1000 = 0)))] := fun j hj => by
    have hp : 10 ^ j ≤ 10 ^ 3 := Nat.pow_le_pow_right (by omega) (by omega)
    have hb : n.natAbs * 10 ^ j ≤ n.natAbs * 10 ^ 3 := Nat.mul_le_mul_left _ hp
    have hs := (sr_mil (m := n * (10 ^ j : Nat)) (by rw [habs]; omega)).2
    have := nSame_ok hs.sm sm_one
    have e : decide (((Rat.divInt (n * (10 ^ j : Nat)) 1000).den : Int) = 1) = decide (n.natAbs * 10 ^ j % 1000 = 0) := by
      rw [decide_eq_decide, den_one, habs]
    rw [e] at this
    exact this
  rw [encR_cells, vc_nExact]
  refine ⟨⟨0, by omega, rfl⟩, ?_⟩
  rintro m ⟨j, hj, he⟩
  simp only [List.cons.injEq, D.int.injEq, true_and, and_true] at he
  subst he
  have hm := hmul j hj
  have hp := hpow j hj
  have hs := hsame j hj
  rw [encR_cells (Rat.divInt n 1000), encR_cells ((10 ^ j : Nat) : Rat), encR_cells] at hm
  rw [encR_cells] at hp
  rw [encI_cells] at hs
  have h1 := qFromInt64_ok (n := 1) (by omega) (by omega)
  refine brd (fun _ => ⟨_, _, _, _, hp, _, _, _, _, hm, _, _, h1, _, hs, brb' (fun h2 => ?_) (fun h2 => ?_)⟩) (fun h => absurd (by omega) h)
  · have h2 := of_decide_eq_true h2
    have hjK : j = K := by
      rcases Nat.lt_or_ge j K with h | h
      · exact absurd h2 (hKl j h)
      · omega
    subst hjK
    have hnum := num_one (m := n * (10 ^ j : Nat)) (by rw [habs]; exact h2)
    have hdiv : ∃ c : Int, n * (10 ^ j : Nat) = 1000 * c := by
      have : (1000 : Int) ∣ n * (10 ^ j : Nat) := by
        rw [← Int.natAbs_dvd_natAbs, habs]
        exact Nat.dvd_of_mod_eq_zero h2
      exact this
    obtain ⟨c, hc⟩ := hdiv
    have hcn : (Rat.divInt (n * (10 ^ j : Nat)) 1000).num = c := by
      rw [hnum, hc]; omega
    have hca : n.natAbs * 10 ^ j / 1000 = c.natAbs := by
      have : n.natAbs * 10 ^ j = 1000 * c.natAbs := by rw [← habs, hc, Int.natAbs_mul]; rfl
      omega
    have hsg : sgT c = sgT n := by
      have hpos : (0 : Int) < ((10 ^ j : Nat) : Int) := by have := Nat.pow_pos (a := 10) (n := j) (by omega); omega
      have : (c < 0) ↔ (n < 0) := by
        constructor
        · intro h
          have : n * ((10 ^ j : Nat) : Int) < 0 := by omega
          rcases Int.lt_or_le n 0 with h' | h'
          · exact h'
          · have := Int.mul_nonneg h' (Int.le_of_lt hpos); omega
        · intro h
          have : n * ((10 ^ j : Nat) : Int) < 0 := Int.mul_neg_of_neg_of_pos h hpos
          omega
      unfold sgT
      rw [decide_eq_decide.2 this]
    have hcb : c.natAbs < 10 ^ 90 := by
      rw [← hca]
      have h3 : 10 ^ j ≤ 10 ^ 3 := Nat.pow_le_pow_right (by omega) hK3
      have h4 : n.natAbs * 10 ^ j ≤ n.natAbs * 10 ^ 3 := Nat.mul_le_mul_left _ h3
      omega
    have hsh := nshown_ok (z := c) (k := j) hcb (by omega)
    rw [hsg, ← hca, ← trimR_digF3 n.natAbs j hK hKl hK3, ← mm_sg] at hsh
    rw [← hcn, encI_cells] at hsh
    refine ⟨_, hsh, brd (fun h => ?_) (fun _ => rfl)⟩
    simp only [Int.ofNat_eq_natCast] at h
    omega
  · have h2 := of_decide_eq_false h2
    have hjK : j < K := by
      rcases Nat.lt_or_ge j K with h | h
      · exact h
      · have : j = K := by omega
        subst this; exact absurd hK h2
    have hw : IntKind.wrap .i64 ((j : Int) + 1) = ((j + 1 : Nat) : Int) := by rw [i64w (by omega) (by omega)]; omega
    rw [hw]
    exact ⟨⟨j + 1, by omega, rfl⟩, by simp only [nth, toI]; omega⟩

theorem nMm_ok {n : Int} (h : n.natAbs < 1000000000000) : Gives CC 40 [.c (.int .i64 n)] [.c (.str (mm n))] := by
  refine wpF_ok (anns := fun _ => ⟨[], [], fun _ _ => True, fun _ => 0⟩) mixedT Tryz.func40 ?_
  rw [vc_nMm]
  have h1 := nFrac_ok (m := n) (d := 1000) (by omega) (by omega) (by omega) (by omega) (by omega)
  have h2 := nExact_ok (n := n) (by omega)
  rw [encR_cells] at h1 h2
  exact ⟨_, _, _, _, h1, _, _, h2, rfl⟩

theorem nwords_ok {l : List Int} (hl : l.length ≤ 1000) (hb : ∀ n ∈ l, n.natAbs < 1000000000000) : Gives CC 25 [.c (.sl (i64s l))] [.c (.str (wordsT l))] := by
  refine wpF_ok (anns := fun _ => ⟨[.slot 3 (.string ⟨#[]⟩), .slot 4 (.int .i64 0)], [], fun _ ds => ∃ k : Nat, k ≤ l.length ∧ ds = [.str (wordsT (l.take k)), .int .i64 (k : Int)], fun ds => (l.length - toI (nth .undef ds 1)).toNat⟩) mixedT Tryz.func25 ?_
  rw [vc_nwords]
  simp only [Int.ofNat_eq_natCast, i64s_length]
  refine ⟨⟨0, by omega, by simp [wordsT]⟩, ?_⟩
  rintro s n ⟨k, hk, he⟩
  simp only [List.cons.injEq, D.int.injEq, D.str.injEq, true_and, and_true] at he
  obtain ⟨rfl, rfl⟩ := he
  have hwl : (wordsT (l.take k)).length ≤ 26 * k := by
    have := wordsT_len (l := l.take k) fun m hm => by have := hb m (List.mem_of_mem_take hm); omega
    rw [List.length_take] at this; omega
  refine brd (fun h => ?_) (fun h => ?_)
  · have hkl : k < l.length := by omega
    have hw : IntKind.wrap .i64 ((k : Int) + 1) = ((k + 1 : Nat) : Int) := by rw [i64w (by omega) (by omega)]; omega
    rw [hw, Int.toNat_natCast, nth_i64s hkl]
    have hbk := hb _ (List.getElem_mem hkl)
    have hml := mm_len (n := l[k]) (by omega)
    refine ⟨⟨by omega, by omega, rfl⟩, _, ⟨rfl, by simp⟩, _, nMm_ok hbk, by unfold room; omega, by unfold room; simp only [List.length_cons]; omega, ⟨k + 1, by omega, ?_⟩, by simp only [nth, toI]; omega⟩
    rw [wordsT_take_succ l k hkl]
  · have hkl : k = l.length := by omega
    subst hkl
    rw [List.take_length]

/-! ## the text of a setup -/
def clT (c : Cl) : List UInt8 := [99, 108, 97, 109, 112] ++ wordsT [c.x0, c.y0, c.x1, c.y1, c.top] ++ [10]
def headT (s : Su) : List UInt8 := ([115, 116, 111, 99, 107] ++ wordsT [s.x0, s.y0, s.x1, s.y1, s.th, s.ga] ++ [10]) ++ ([115, 97, 102, 101] ++ wordsT [s.sf] ++ [10])
def clTs : List Cl → List UInt8
  | [] => []
  | c :: r => clT c ++ clTs r
theorem clTs_append : ∀ (a b : List Cl), clTs (a ++ b) = clTs a ++ clTs b
  | [], b => rfl
  | c :: a, b => by simp only [List.cons_append, clTs, clTs_append a b, List.append_assoc]
theorem clTs_take_succ (l : List Cl) (k : Nat) (h : k < l.length) : clTs (l.take (k + 1)) = clTs (l.take k) ++ clT l[k] := by
  rw [List.take_succ_eq_append_getElem h, clTs_append]
  simp [clTs]
def txt (s : Su) : List UInt8 := headT s ++ clTs s.cl

def small (n : Int) : Prop := -100000000 ≤ n ∧ n ≤ 100000000
def smallC (c : Cl) : Prop := small c.x0 ∧ small c.y0 ∧ small c.x1 ∧ small c.y1 ∧ small c.top
theorem valid_small {s : Su} (h : validB s = true) : small s.x0 ∧ small s.y0 ∧ small s.x1 ∧ small s.y1 ∧ small s.th ∧ small s.ga ∧ small s.sf ∧ s.cl.length ≤ 50 ∧ ∀ c ∈ s.cl, smallC c := by
  unfold validB headB rectB lenB at h
  simp only [Bool.and_eq_true, decide_eq_true_eq] at h
  obtain ⟨⟨⟨hx0, hy0, hx1, hy1, h5, h6⟩, hth, hga, hcl, hsf⟩, hall⟩ := h
  refine ⟨by unfold small; omega, by unfold small; omega, by unfold small; omega, by unfold small; omega, by unfold small; omega, by unfold small; omega, by unfold small; omega, by omega, fun c hc => ?_⟩
  have h2 := List.all_eq_true.1 hall c hc
  unfold clB rectB lenB tableZ at h2
  simp only [Bool.and_eq_true, decide_eq_true_eq] at h2
  obtain ⟨⟨g1, g2, g3, g4, _, _⟩, g5, g6⟩ := h2
  have e1 : IntKind.wrap .i64 (0 - s.th) = -s.th := by rw [i64w (by omega) (by omega)]; omega
  rw [e1, i64w (by omega) (by omega)] at g5
  exact ⟨by unfold small; omega, by unfold small; omega, by unfold small; omega, by unfold small; omega, by unfold small; omega⟩
theorem clT_len {c : Cl} (h : smallC c) : (clT c).length ≤ 136 := by
  obtain ⟨h1, h2, h3, h4, h5⟩ := h
  have := wordsT_len (l := [c.x0, c.y0, c.x1, c.y1, c.top]) fun n hn => by
    simp only [List.mem_cons, List.not_mem_nil, or_false] at hn
    unfold small at *
    rcases hn with rfl | rfl | rfl | rfl | rfl <;> omega
  unfold clT
  simp only [List.length_append, List.length_cons, List.length_nil] at this ⊢
  omega
theorem clTs_len : ∀ {l : List Cl}, (∀ c ∈ l, smallC c) → (clTs l).length ≤ 136 * l.length
  | [], _ => by simp [clTs]
  | c :: r, h => by
    have h1 := clT_len (h c (by simp))
    have h2 := clTs_len (l := r) fun c hc => h c (by simp [hc])
    simp only [clTs, List.length_append, List.length_cons]
    omega
theorem headT_len {s : Su} (h1 : small s.x0 ∧ small s.y0 ∧ small s.x1 ∧ small s.y1 ∧ small s.th ∧ small s.ga ∧ small s.sf) : (headT s).length ≤ 200 := by
  obtain ⟨h1, h2, h3, h4, h5, h6, h7⟩ := h1
  have a := wordsT_len (l := [s.x0, s.y0, s.x1, s.y1, s.th, s.ga]) fun n hn => by
    simp only [List.mem_cons, List.not_mem_nil, or_false] at hn
    unfold small at *
    rcases hn with rfl | rfl | rfl | rfl | rfl | rfl <;> omega
  have b := wordsT_len (l := [s.sf]) fun n hn => by
    simp only [List.mem_cons, List.not_mem_nil, or_false] at hn
    unfold small at *
    subst hn; omega
  unfold headT
  simp only [List.length_append, List.length_cons, List.length_nil] at a b ⊢
  omega
theorem rowsOf_append (a b : List UInt8) : rowsOf (a ++ b) = rowsOf a ++ rowsOf b := by simp [rowsOf]
theorem rowsOf_length (a : List UInt8) : (rowsOf a).length = a.length := by simp [rowsOf]

def okN (b : Bool) : Int := match b with | true => 0 | false => 1
def okT (b : Bool) (t : List UInt8) : List UInt8 := match b with | true => t | false => []

theorem mFormat_ok (s : Su) (hl : s.cl.length ≤ 1000000000) : Gives CC 8 [encS s] [.c (.str (okT (validB s) (txt s))), .c (.int .i64 (okN (validB s)))] := by
  have hV := mValid_ok s hl
  cases hv : validB s with
  | false =>
    rw [hv] at hV
    obtain ⟨x0, y0, x1, y1, th, ga, cl, sf⟩ := s
    refine wpF_ok (anns := fun _ => ⟨[.slot 36 (.int .i64 0), .bld 5 50 55], [], fun _ _ => False, fun _ => 0⟩) mixedT Tryz.func8 ?_
    simp only [encS] at hV ⊢
    rw [vc_mFormat]
    exact ⟨_, hV, brb (fun _ => rfl) (fun h => by simp at h)⟩
  | true =>
    rw [hv] at hV
    obtain ⟨b0, b1, b2, b3, b4, b5, b6, hl50, hcs⟩ := valid_small hv
    have hht := headT_len ⟨b0, b1, b2, b3, b4, b5, b6⟩
    have hT : txt s = headT s ++ clTs s.cl := rfl
    have hH : headT s = ([115, 116, 111, 99, 107] ++ wordsT [s.x0, s.y0, s.x1, s.y1, s.th, s.ga] ++ [10]) ++ ([115, 97, 102, 101] ++ wordsT [s.sf] ++ [10]) := rfl
    generalize hhT : headT s = hT0 at *
    generalize htT : txt s = tT0 at *
    obtain ⟨x0, y0, x1, y1, th, ga, cl, sf⟩ := s
    simp only at *
    refine wpF_ok (anns := fun _ => ⟨[.slot 36 (.int .i64 0), .bld 5 50 55], [], fun _ ds => ∃ k : Nat, k ≤ cl.length ∧ ds = [.int .i64 (k : Int), .sl (rowsOf (hT0 ++ clTs (cl.take k)))], fun ds => (cl.length - toI (nth .undef ds 0)).toNat⟩) mixedT Tryz.func8 ?_
    simp only [encS] at hV ⊢
    rw [vc_mFormat]
    simp only [Int.ofNat_eq_natCast, clRs_length]
    refine ⟨_, hV, brb (fun h => by simp at h) (fun _ => ?_)⟩
    have w1 := mline_ok (nm := [115, 116, 111, 99, 107]) (l := [x0, y0, x1, y1, th, ga]) (by simp) (by simp) (fun n hn => by
      simp only [List.mem_cons, List.not_mem_nil, or_false] at hn
      unfold small at *
      rcases hn with rfl | rfl | rfl | rfl | rfl | rfl <;> omega)
    have w2 := mline_ok (nm := [115, 97, 102, 101]) (l := [sf]) (by simp) (by simp) (fun n hn => by
      simp only [List.mem_cons, List.not_mem_nil, or_false] at hn
      unfold small at *
      subst hn; omega)
    refine ⟨_, w1, _, w2, ?_, ?_, ⟨0, by omega, ?_⟩, ?_⟩
    · rw [← List.length_append, ← hH]; unfold room; omega
    · rw [rowsOf_length, ← hH]; unfold room; omega
    · rw [← hH]; simp [clTs]
    rintro n es ⟨k, hk, he⟩
    simp only [List.cons.injEq, D.int.injEq, D.sl.injEq, true_and, and_true] at he
    obtain ⟨rfl, rfl⟩ := he
    have hcl := clTs_len (l := cl.take k) fun c hc => hcs c (List.mem_of_mem_take hc)
    rw [List.length_take] at hcl
    refine brd (fun h => ?_) (fun h => ?_)
    · have hkl : k < cl.length := by omega
      have hw : IntKind.wrap .i64 ((k : Int) + 1) = ((k + 1 : Nat) : Int) := by rw [i64w (by omega) (by omega)]; omega
      rw [hw, Int.toNat_natCast]
      have hc := hcs _ (List.getElem_mem hkl)
      have hcb := clT_len hc
      have w3 := mline_ok (nm := [99, 108, 97, 109, 112]) (l := [cl[k].x0, cl[k].y0, cl[k].x1, cl[k].y1, cl[k].top]) (by simp) (by simp) (fun n hn => by
        simp only [List.mem_cons, List.not_mem_nil, or_false] at hn
        obtain ⟨h1, h2, h3, h4, h5⟩ := hc
        unfold small at *
        rcases hn with rfl | rfl | rfl | rfl | rfl <;> omega)
      refine ⟨⟨by omega, by omega, len_cl hkl⟩, _, _, _, _, _, cut_cl hkl, _, w3, ?_, ⟨k + 1, by omega, ?_⟩, by simp only [nth, toI]; omega⟩
      · have e : (rowsOf ([99, 108, 97, 109, 112] ++ wordsT [cl[k].x0, cl[k].y0, cl[k].x1, cl[k].y1, cl[k].top] ++ [10])).length = (clT cl[k]).length := rowsOf_length _
        rw [e, rowsOf_length, List.length_append]; unfold room; omega
      · rw [clTs_take_succ cl k hkl, ← List.append_assoc, rowsOf_append (hT0 ++ clTs (cl.take k))]; rfl
    · have hkl : k = cl.length := by omega
      subst hkl
      rw [List.take_length, ← hT]
      refine ⟨⟨?_, bytesOk_rowsOf _⟩, ?_⟩
      · intro e
        have := congrArg List.length e
        rw [rowsOf_length, hT, hH] at this
        simp at this
      · rw [toBytes_rowsOf]; rfl

theorem nFormat_ok (s : Su) (hl : s.cl.length ≤ 1000000000) : Gives CC 9 [encS s] [.c (.str (okT (validB s) (txt s))), .c (.int .i64 (okN (validB s)))] := by
  have hV := rValid_ok s hl
  cases hv : validB s with
  | false =>
    rw [hv] at hV
    obtain ⟨x0, y0, x1, y1, th, ga, cl, sf⟩ := s
    refine wpF_ok (anns := fun _ => ⟨[.slot 5 (.string ⟨#[]⟩), .slot 6 (.int .i64 0)], [], fun _ _ => False, fun _ => 0⟩) mixedT Tryz.func9 ?_
    simp only [encS] at hV ⊢
    rw [vc_nFormat]
    exact ⟨_, hV, brb (fun _ => rfl) (fun h => by simp at h)⟩
  | true =>
    rw [hv] at hV
    obtain ⟨b0, b1, b2, b3, b4, b5, b6, hl50, hcs⟩ := valid_small hv
    have hht := headT_len ⟨b0, b1, b2, b3, b4, b5, b6⟩
    have hT : txt s = headT s ++ clTs s.cl := rfl
    have hH : headT s = ([115, 116, 111, 99, 107] ++ wordsT [s.x0, s.y0, s.x1, s.y1, s.th, s.ga] ++ [10]) ++ ([115, 97, 102, 101] ++ wordsT [s.sf] ++ [10]) := rfl
    generalize hhT : headT s = hT0 at *
    generalize htT : txt s = tT0 at *
    obtain ⟨x0, y0, x1, y1, th, ga, cl, sf⟩ := s
    simp only at *
    refine wpF_ok (anns := fun _ => ⟨[.slot 5 (.string ⟨#[]⟩), .slot 6 (.int .i64 0)], [], fun _ ds => ∃ k : Nat, k ≤ cl.length ∧ ds = [.str (hT0 ++ clTs (cl.take k)), .int .i64 (k : Int)], fun ds => (cl.length - toI (nth .undef ds 1)).toNat⟩) mixedT Tryz.func9 ?_
    simp only [encS] at hV ⊢
    rw [vc_nFormat]
    simp only [Int.ofNat_eq_natCast, clRs_length]
    refine ⟨_, hV, brb (fun h => by simp at h) (fun _ => ?_)⟩
    have w1 := nwords_ok (l := [x0, y0, x1, y1, th, ga]) (by simp) (fun n hn => by
      simp only [List.mem_cons, List.not_mem_nil, or_false] at hn
      unfold small at *
      rcases hn with rfl | rfl | rfl | rfl | rfl | rfl <;> omega)
    have w2 := nwords_ok (l := [sf]) (by simp) (fun n hn => by
      simp only [List.mem_cons, List.not_mem_nil, or_false] at hn
      unfold small at *
      subst hn; omega)
    have e1 : ([115, 116, 111, 99, 107] ++ wordsT [x0, y0, x1, y1, th, ga] ++ [10] ++ ([115, 97, 102, 101] ++ wordsT [sf] ++ [10]) : List UInt8).length = hT0.length := by rw [← hH]
    simp only [List.length_append, List.length_cons, List.length_nil] at e1
    refine ⟨_, w1, ?_, ?_, _, w2, ?_, ?_, ⟨0, by omega, ?_⟩, ?_⟩
    · unfold room; omega
    · unfold room; simp only [List.length_cons]; omega
    · unfold room; simp only [List.length_append, List.length_cons, List.length_nil]; omega
    · unfold room; simp only [List.length_append, List.length_cons, List.length_nil]; omega
    · rw [hH]; simp [clTs]
    rintro st n ⟨k, hk, he⟩
    simp only [List.cons.injEq, D.int.injEq, D.str.injEq, true_and, and_true] at he
    obtain ⟨rfl, rfl⟩ := he
    have hcl := clTs_len (l := cl.take k) fun c hc => hcs c (List.mem_of_mem_take hc)
    rw [List.length_take] at hcl
    refine brd (fun h => ?_) (fun h => ?_)
    · have hkl : k < cl.length := by omega
      have hw : IntKind.wrap .i64 ((k : Int) + 1) = ((k + 1 : Nat) : Int) := by rw [i64w (by omega) (by omega)]; omega
      rw [hw, Int.toNat_natCast]
      have hc := hcs _ (List.getElem_mem hkl)
      have hcb := clT_len hc
      have w3 := nwords_ok (l := [cl[k].x0, cl[k].y0, cl[k].x1, cl[k].y1, cl[k].top]) (by simp) (fun n hn => by
        simp only [List.mem_cons, List.not_mem_nil, or_false] at hn
        obtain ⟨h1, h2, h3, h4, h5⟩ := hc
        unfold small at *
        rcases hn with rfl | rfl | rfl | rfl | rfl <;> omega)
      have e2 : ([99, 108, 97, 109, 112] ++ wordsT [cl[k].x0, cl[k].y0, cl[k].x1, cl[k].y1, cl[k].top] ++ [10] : List UInt8).length = (clT cl[k]).length := rfl
      simp only [List.length_append, List.length_cons, List.length_nil] at e2
      refine ⟨⟨by omega, by omega, len_cl hkl⟩, _, _, _, _, _, cut_cl hkl, _, w3, ?_, ?_, ?_, ⟨k + 1, by omega, ?_⟩, by simp only [nth, toI]; omega⟩
      · unfold room; omega
      · unfold room; simp only [List.length_cons]; omega
      · unfold room; simp only [List.length_append, List.length_cons, List.length_nil]; omega
      · rw [clTs_take_succ cl k hkl, ← List.append_assoc]; rfl
    · have hkl : k = cl.length := by omega
      subst hkl
      rw [List.take_length, ← hT]; rfl

/-- SetupValid returns true. -/
theorem lValid_ok (haw : Gives CC 7 [] [.c (.bool true)]) (s : Su) : Gives CC 3 [encS s] [.c (.bool true)] := by
  have h0 : s.cl.length ≤ 60 → s.cl.length ≤ 1000000000 := fun h => by omega
  have hF := fun h => mFormat_ok s (h0 h)
  have hG := fun h => nFormat_ok s (h0 h)
  have hV := fun h => mValid_ok s (h0 h)
  have hW := fun h => rValid_ok s (h0 h)
  generalize okT (validB s) (txt s) = T at *
  generalize okN (validB s) = N at *
  obtain ⟨x0, y0, x1, y1, th, ga, cl, sf⟩ := s
  refine wpF_ok (anns := fun _ => ⟨[], [], fun _ _ => True, fun _ => 0⟩) mixedT Tryz.func3 ?_
  simp only [encS] at *
  rw [vc_lValid]
  simp only [Int.ofNat_eq_natCast, clRs_length]
  refine ⟨_, haw, brb (fun h => by simp at h) (fun _ => brd (fun h => ⟨_, haw, rfl⟩) (fun h => ?_))⟩
  have h : cl.length ≤ 60 := by omega
  refine ⟨_, _, hF h, _, _, hG h, _, hV h, _, hW h, brb (fun _ => brb (fun _ => ?_) (fun h => ?_)) (fun h => ?_)⟩
  · simp
  · simp at h
  · cases hv : validB ⟨x0, y0, x1, y1, th, ga, cl, sf⟩ <;> rw [hv] at h <;> simp at h
end Eng
end
