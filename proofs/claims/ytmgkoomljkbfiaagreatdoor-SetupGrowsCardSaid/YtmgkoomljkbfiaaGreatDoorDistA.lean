/- The verification conditions of functions, printed by a program (vcgen.py) and checked by the kernel. -/
import Derived.Test.YtmgkoomljkbfiaaGreatDoorCtxB
import Derived.Test.YtmgkoomljkbfiaaGreatDoorRatA
import Derived.Test.YtmgkoomljkbfiaaGreatDoorDivA
import Derived.Test.YtmgkoomljkbfiaaGreatDoorRefB
import Derived.KernelRfl
section
/- The verification conditions of functions, printed by a program (vcgen.py) and checked by the kernel. -/
open Go Go.Proofs Eng
set_option maxRecDepth 1000000
namespace Eng
theorem vc_dadd (Gv : Nat → List A → List A → Prop) (p q r s : Bool) (es fs gs hs : List (List D)) (Q : List A → Prop) :
    wpF CC Gv (fun _ => ⟨[], [], fun _ _ => True, fun _ => 0⟩) Tryz.f161 [.ag [.bool p, .sl es, .bool q, .sl fs], .ag [.bool r, .sl gs, .bool s, .sl hs]] Q = (
 ∃ b es_1 b_1 es_2,
  Gv (200 : Nat) [A.ag [D.bool p, D.sl es, D.bool q, D.sl fs], A.ag [D.bool r, D.sl gs, D.bool s, D.sl hs]]
      [A.ag [D.bool b, D.sl es_1, D.bool b_1, D.sl es_2]] ∧
    Q [A.ag [D.bool b, D.sl es_1, D.bool b_1, D.sl es_2]]) := by kernel_rfl
theorem vc_dsub (Gv : Nat → List A → List A → Prop) (p q r s : Bool) (es fs gs hs : List (List D)) (Q : List A → Prop) :
    wpF CC Gv (fun _ => ⟨[], [], fun _ _ => True, fun _ => 0⟩) Tryz.f160 [.ag [.bool p, .sl es, .bool q, .sl fs], .ag [.bool r, .sl gs, .bool s, .sl hs]] Q = (
 ∃ b es_1 b_1 es_2,
  Gv (199 : Nat) [A.ag [D.bool p, D.sl es, D.bool q, D.sl fs], A.ag [D.bool r, D.sl gs, D.bool s, D.sl hs]]
      [A.ag [D.bool b, D.sl es_1, D.bool b_1, D.sl es_2]] ∧
    Q [A.ag [D.bool b, D.sl es_1, D.bool b_1, D.sl es_2]]) := by kernel_rfl
theorem vc_dmul (Gv : Nat → List A → List A → Prop) (p q r s : Bool) (es fs gs hs : List (List D)) (Q : List A → Prop) :
    wpF CC Gv (fun _ => ⟨[], [], fun _ _ => True, fun _ => 0⟩) Tryz.f119 [.ag [.bool p, .sl es, .bool q, .sl fs], .ag [.bool r, .sl gs, .bool s, .sl hs]] Q = (
 ∃ b es_1 b_1 es_2,
  Gv (43 : Nat) [A.ag [D.bool p, D.sl es, D.bool q, D.sl fs], A.ag [D.bool r, D.sl gs, D.bool s, D.sl hs]] [A.ag [D.bool b, D.sl es_1, D.bool b_1, D.sl es_2]] ∧
    Q [A.ag [D.bool b, D.sl es_1, D.bool b_1, D.sl es_2]]) := by kernel_rfl
theorem vc_dover (Gv : Nat → List A → List A → Prop) (p q r s : Bool) (es fs gs hs : List (List D)) (Q : List A → Prop) :
    wpF CC Gv (fun _ => ⟨[], [], fun _ _ => True, fun _ => 0⟩) Tryz.f118 [.ag [.bool p, .sl es, .bool q, .sl fs], .ag [.bool r, .sl gs, .bool s, .sl hs]] Q = (
 ∃ b es_1 b_1 es_2 n,
  Gv (162 : Nat) [A.ag [D.bool p, D.sl es, D.bool q, D.sl fs], A.ag [D.bool r, D.sl gs, D.bool s, D.sl hs]]
      [A.ag [D.bool b, D.sl es_1, D.bool b_1, D.sl es_2], A.c (D.int IntKind.i64 n)] ∧
    br (toB (D.bool (n != (0 : Int))))
      (∃ b es b_2 es_3,
        Gv (42 : Nat) [A.c (D.int IntKind.i64 (0 : Int))] [A.ag [D.bool b, D.sl es, D.bool b_2, D.sl es_3]] ∧
          Q [A.ag [D.bool b, D.sl es, D.bool b_2, D.sl es_3]])
      (Q [A.ag [D.bool b, D.sl es_1, D.bool b_1, D.sl es_2]])) := by kernel_rfl
theorem vc_dway (Gv : Nat → List A → List A → Prop) (b1a b1b b1c b1d b2a b2b b2c b2d : Bool) (l1a l1b l1c l1d l2a l2b l2c l2d : List (List D)) (Q : List A → Prop) :
    wpF CC Gv (fun _ => ⟨[], [], fun _ _ => True, fun _ => 0⟩) Tryz.f115 [.ag [.bool b1a, .sl l1a, .bool b1b, .sl l1b, .bool b1c, .sl l1c, .bool b1d, .sl l1d], .ag [.bool b2a, .sl l2a, .bool b2b, .sl l2b, .bool b2c, .sl l2c, .bool b2d, .sl l2d]] Q = (
 ∃ b es b_1 es_1,
  Gv (160 : Nat) [A.ag [D.bool b2a, D.sl l2a, D.bool b2b, D.sl l2b], A.ag [D.bool b1a, D.sl l1a, D.bool b1b, D.sl l1b]]
      [A.ag [D.bool b, D.sl es, D.bool b_1, D.sl es_1]] ∧
    ∃ b_2 es_2 b_3 es_3,
      Gv (160 : Nat) [A.ag [D.bool b2c, D.sl l2c, D.bool b2d, D.sl l2d], A.ag [D.bool b1c, D.sl l1c, D.bool b1d, D.sl l1d]]
          [A.ag [D.bool b_2, D.sl es_2, D.bool b_3, D.sl es_3]] ∧
        Q [A.ag [D.bool b, D.sl es, D.bool b_1, D.sl es_1, D.bool b_2, D.sl es_2, D.bool b_3, D.sl es_3]]) := by kernel_rfl
theorem vc_ddot (Gv : Nat → List A → List A → Prop) (b1a b1b b1c b1d b2a b2b b2c b2d : Bool) (l1a l1b l1c l1d l2a l2b l2c l2d : List (List D)) (Q : List A → Prop) :
    wpF CC Gv (fun _ => ⟨[], [], fun _ _ => True, fun _ => 0⟩) Tryz.f117 [.ag [.bool b1a, .sl l1a, .bool b1b, .sl l1b, .bool b1c, .sl l1c, .bool b1d, .sl l1d], .ag [.bool b2a, .sl l2a, .bool b2b, .sl l2b, .bool b2c, .sl l2c, .bool b2d, .sl l2d]] Q = (
 ∃ b es b_1 es_1,
  Gv (119 : Nat) [A.ag [D.bool b1a, D.sl l1a, D.bool b1b, D.sl l1b], A.ag [D.bool b2a, D.sl l2a, D.bool b2b, D.sl l2b]]
      [A.ag [D.bool b, D.sl es, D.bool b_1, D.sl es_1]] ∧
    ∃ b_2 es_2 b_3 es_3,
      Gv (119 : Nat) [A.ag [D.bool b1c, D.sl l1c, D.bool b1d, D.sl l1d], A.ag [D.bool b2c, D.sl l2c, D.bool b2d, D.sl l2d]]
          [A.ag [D.bool b_2, D.sl es_2, D.bool b_3, D.sl es_3]] ∧
        ∃ b_4 es_4 b_5 es_5,
          Gv (161 : Nat) [A.ag [D.bool b, D.sl es, D.bool b_1, D.sl es_1], A.ag [D.bool b_2, D.sl es_2, D.bool b_3, D.sl es_3]]
              [A.ag [D.bool b_4, D.sl es_4, D.bool b_5, D.sl es_5]] ∧
            Q [A.ag [D.bool b_4, D.sl es_4, D.bool b_5, D.sl es_5]]) := by kernel_rfl
theorem vc_dcross (Gv : Nat → List A → List A → Prop) (b1a b1b b1c b1d b2a b2b b2c b2d : Bool) (l1a l1b l1c l1d l2a l2b l2c l2d : List (List D)) (Q : List A → Prop) :
    wpF CC Gv (fun _ => ⟨[], [], fun _ _ => True, fun _ => 0⟩) Tryz.f116 [.ag [.bool b1a, .sl l1a, .bool b1b, .sl l1b, .bool b1c, .sl l1c, .bool b1d, .sl l1d], .ag [.bool b2a, .sl l2a, .bool b2b, .sl l2b, .bool b2c, .sl l2c, .bool b2d, .sl l2d]] Q = (
 ∃ b es b_1 es_1,
  Gv (119 : Nat) [A.ag [D.bool b1a, D.sl l1a, D.bool b1b, D.sl l1b], A.ag [D.bool b2c, D.sl l2c, D.bool b2d, D.sl l2d]]
      [A.ag [D.bool b, D.sl es, D.bool b_1, D.sl es_1]] ∧
    ∃ b_2 es_2 b_3 es_3,
      Gv (119 : Nat) [A.ag [D.bool b1c, D.sl l1c, D.bool b1d, D.sl l1d], A.ag [D.bool b2a, D.sl l2a, D.bool b2b, D.sl l2b]]
          [A.ag [D.bool b_2, D.sl es_2, D.bool b_3, D.sl es_3]] ∧
        ∃ b_4 es_4 b_5 es_5,
          Gv (160 : Nat) [A.ag [D.bool b, D.sl es, D.bool b_1, D.sl es_1], A.ag [D.bool b_2, D.sl es_2, D.bool b_3, D.sl es_3]]
              [A.ag [D.bool b_4, D.sl es_4, D.bool b_5, D.sl es_5]] ∧
            Q [A.ag [D.bool b_4, D.sl es_4, D.bool b_5, D.sl es_5]]) := by kernel_rfl
theorem vc_dto (Gv : Nat → List A → List A → Prop) (b1a b1b b1c b1d b2a b2b b2c b2d b3a b3b b3c b3d : Bool) (l1a l1b l1c l1d l2a l2b l2c l2d l3a l3b l3c l3d : List (List D)) (Q : List A → Prop) :
    wpF CC Gv (fun _ => ⟨[], [], fun _ _ => True, fun _ => 0⟩) Tryz.f73 [.ag [.bool b1a, .sl l1a, .bool b1b, .sl l1b, .bool b1c, .sl l1c, .bool b1d, .sl l1d], .ag [.bool b2a, .sl l2a, .bool b2b, .sl l2b, .bool b2c, .sl l2c, .bool b2d, .sl l2d], .ag [.bool b3a, .sl l3a, .bool b3b, .sl l3b, .bool b3c, .sl l3c, .bool b3d, .sl l3d]] Q = (
 ∃ b es b_1 es_1 b_2 es_2 b_3 es_3,
  Gv (115 : Nat)
      [A.ag [D.bool b1a, D.sl l1a, D.bool b1b, D.sl l1b, D.bool b1c, D.sl l1c, D.bool b1d, D.sl l1d],
        A.ag [D.bool b2a, D.sl l2a, D.bool b2b, D.sl l2b, D.bool b2c, D.sl l2c, D.bool b2d, D.sl l2d]]
      [A.ag [D.bool b, D.sl es, D.bool b_1, D.sl es_1, D.bool b_2, D.sl es_2, D.bool b_3, D.sl es_3]] ∧
    ∃ b_4 es_4 b_5 es_5 b_6 es_6 b_7 es_7,
      Gv (115 : Nat)
          [A.ag [D.bool b1a, D.sl l1a, D.bool b1b, D.sl l1b, D.bool b1c, D.sl l1c, D.bool b1d, D.sl l1d],
            A.ag [D.bool b3a, D.sl l3a, D.bool b3b, D.sl l3b, D.bool b3c, D.sl l3c, D.bool b3d, D.sl l3d]]
          [A.ag [D.bool b_4, D.sl es_4, D.bool b_5, D.sl es_5, D.bool b_6, D.sl es_6, D.bool b_7, D.sl es_7]] ∧
        ∃ b_8 es_8 b_9 es_9,
          Gv (117 : Nat)
              [A.ag [D.bool b, D.sl es, D.bool b_1, D.sl es_1, D.bool b_2, D.sl es_2, D.bool b_3, D.sl es_3],
                A.ag [D.bool b, D.sl es, D.bool b_1, D.sl es_1, D.bool b_2, D.sl es_2, D.bool b_3, D.sl es_3]]
              [A.ag [D.bool b_8, D.sl es_8, D.bool b_9, D.sl es_9]] ∧
            ∃ b_10 es_10 b_11 es_11,
              Gv (117 : Nat)
                  [A.ag [D.bool b, D.sl es, D.bool b_1, D.sl es_1, D.bool b_2, D.sl es_2, D.bool b_3, D.sl es_3],
                    A.ag [D.bool b_4, D.sl es_4, D.bool b_5, D.sl es_5, D.bool b_6, D.sl es_6, D.bool b_7, D.sl es_7]]
                  [A.ag [D.bool b_10, D.sl es_10, D.bool b_11, D.sl es_11]] ∧
                ∃ n,
                  Gv (70 : Nat) [A.ag [D.bool b_10, D.sl es_10, D.bool b_11, D.sl es_11]] [A.c (D.int IntKind.i64 n)] ∧
                    br (toB (D.bool (decide (n ≤ (0 : Int)))))
                      (∃ b es b_12 es_12,
                        Gv (117 : Nat)
                            [A.ag [D.bool b_4, D.sl es_4, D.bool b_5, D.sl es_5, D.bool b_6, D.sl es_6, D.bool b_7, D.sl es_7],
                              A.ag [D.bool b_4, D.sl es_4, D.bool b_5, D.sl es_5, D.bool b_6, D.sl es_6, D.bool b_7, D.sl es_7]]
                            [A.ag [D.bool b, D.sl es, D.bool b_12, D.sl es_12]] ∧
                          Q [A.ag [D.bool b, D.sl es, D.bool b_12, D.sl es_12]])
                      (∃ n,
                        Gv (45 : Nat) [A.ag [D.bool b_10, D.sl es_10, D.bool b_11, D.sl es_11], A.ag [D.bool b_8, D.sl es_8, D.bool b_9, D.sl es_9]]
                            [A.c (D.int IntKind.i64 n)] ∧
                          br (toB (D.bool (decide (n ≥ (0 : Int)))))
                            (∃ b es b_12 es_12 b_13 es_13 b_14 es_14,
                              Gv (115 : Nat)
                                  [A.ag [D.bool b2a, D.sl l2a, D.bool b2b, D.sl l2b, D.bool b2c, D.sl l2c, D.bool b2d, D.sl l2d],
                                    A.ag [D.bool b3a, D.sl l3a, D.bool b3b, D.sl l3b, D.bool b3c, D.sl l3c, D.bool b3d, D.sl l3d]]
                                  [A.ag [D.bool b, D.sl es, D.bool b_12, D.sl es_12, D.bool b_13, D.sl es_13, D.bool b_14, D.sl es_14]] ∧
                                ∃ b_15 es_15 b_16 es_16,
                                  Gv (117 : Nat)
                                      [A.ag [D.bool b, D.sl es, D.bool b_12, D.sl es_12, D.bool b_13, D.sl es_13, D.bool b_14, D.sl es_14],
                                        A.ag [D.bool b, D.sl es, D.bool b_12, D.sl es_12, D.bool b_13, D.sl es_13, D.bool b_14, D.sl es_14]]
                                      [A.ag [D.bool b_15, D.sl es_15, D.bool b_16, D.sl es_16]] ∧
                                    Q [A.ag [D.bool b_15, D.sl es_15, D.bool b_16, D.sl es_16]])
                            (∃ b_12 es_12 b_13 es_13,
                              Gv (116 : Nat)
                                  [A.ag [D.bool b, D.sl es, D.bool b_1, D.sl es_1, D.bool b_2, D.sl es_2, D.bool b_3, D.sl es_3],
                                    A.ag [D.bool b_4, D.sl es_4, D.bool b_5, D.sl es_5, D.bool b_6, D.sl es_6, D.bool b_7, D.sl es_7]]
                                  [A.ag [D.bool b_12, D.sl es_12, D.bool b_13, D.sl es_13]] ∧
                                ∃ b es b_14 es_14,
                                  Gv (119 : Nat)
                                      [A.ag [D.bool b_12, D.sl es_12, D.bool b_13, D.sl es_13], A.ag [D.bool b_12, D.sl es_12, D.bool b_13, D.sl es_13]]
                                      [A.ag [D.bool b, D.sl es, D.bool b_14, D.sl es_14]] ∧
                                    ∃ b_15 es_15 b_16 es_16,
                                      Gv (118 : Nat) [A.ag [D.bool b, D.sl es, D.bool b_14, D.sl es_14], A.ag [D.bool b_8, D.sl es_8, D.bool b_9, D.sl es_9]]
                                          [A.ag [D.bool b_15, D.sl es_15, D.bool b_16, D.sl es_16]] ∧
                                        Q [A.ag [D.bool b_15, D.sl es_15, D.bool b_16, D.sl es_16]]))) := by kernel_rfl
theorem vc_dcrossing (Gv : Nat → List A → List A → Prop) (b1a b1b b1c b1d b2a b2b b2c b2d b3a b3b b3c b3d b4a b4b b4c b4d : Bool) (l1a l1b l1c l1d l2a l2b l2c l2d l3a l3b l3c l3d l4a l4b l4c l4d : List (List D)) (Q : List A → Prop) :
    wpF CC Gv (fun _ => ⟨[], [], fun _ _ => True, fun _ => 0⟩) Tryz.f72 [.ag [.bool b1a, .sl l1a, .bool b1b, .sl l1b, .bool b1c, .sl l1c, .bool b1d, .sl l1d], .ag [.bool b2a, .sl l2a, .bool b2b, .sl l2b, .bool b2c, .sl l2c, .bool b2d, .sl l2d], .ag [.bool b3a, .sl l3a, .bool b3b, .sl l3b, .bool b3c, .sl l3c, .bool b3d, .sl l3d], .ag [.bool b4a, .sl l4a, .bool b4b, .sl l4b, .bool b4c, .sl l4c, .bool b4d, .sl l4d]] Q = (
 ∃ b es b_1 es_1 b_2 es_2 b_3 es_3,
  Gv (115 : Nat)
      [A.ag [D.bool b1a, D.sl l1a, D.bool b1b, D.sl l1b, D.bool b1c, D.sl l1c, D.bool b1d, D.sl l1d],
        A.ag [D.bool b2a, D.sl l2a, D.bool b2b, D.sl l2b, D.bool b2c, D.sl l2c, D.bool b2d, D.sl l2d]]
      [A.ag [D.bool b, D.sl es, D.bool b_1, D.sl es_1, D.bool b_2, D.sl es_2, D.bool b_3, D.sl es_3]] ∧
    ∃ b_4 es_4 b_5 es_5 b_6 es_6 b_7 es_7,
      Gv (115 : Nat)
          [A.ag [D.bool b3a, D.sl l3a, D.bool b3b, D.sl l3b, D.bool b3c, D.sl l3c, D.bool b3d, D.sl l3d],
            A.ag [D.bool b4a, D.sl l4a, D.bool b4b, D.sl l4b, D.bool b4c, D.sl l4c, D.bool b4d, D.sl l4d]]
          [A.ag [D.bool b_4, D.sl es_4, D.bool b_5, D.sl es_5, D.bool b_6, D.sl es_6, D.bool b_7, D.sl es_7]] ∧
        ∃ b_8 es_8 b_9 es_9 b_10 es_10 b_11 es_11,
          Gv (115 : Nat)
              [A.ag [D.bool b1a, D.sl l1a, D.bool b1b, D.sl l1b, D.bool b1c, D.sl l1c, D.bool b1d, D.sl l1d],
                A.ag [D.bool b3a, D.sl l3a, D.bool b3b, D.sl l3b, D.bool b3c, D.sl l3c, D.bool b3d, D.sl l3d]]
              [A.ag [D.bool b_8, D.sl es_8, D.bool b_9, D.sl es_9, D.bool b_10, D.sl es_10, D.bool b_11, D.sl es_11]] ∧
            ∃ b_12 es_12 b_13 es_13,
              Gv (116 : Nat)
                  [A.ag [D.bool b, D.sl es, D.bool b_1, D.sl es_1, D.bool b_2, D.sl es_2, D.bool b_3, D.sl es_3],
                    A.ag [D.bool b_8, D.sl es_8, D.bool b_9, D.sl es_9, D.bool b_10, D.sl es_10, D.bool b_11, D.sl es_11]]
                  [A.ag [D.bool b_12, D.sl es_12, D.bool b_13, D.sl es_13]] ∧
                ∃ n,
                  Gv (70 : Nat) [A.ag [D.bool b_12, D.sl es_12, D.bool b_13, D.sl es_13]] [A.c (D.int IntKind.i64 n)] ∧
                    ∃ b_14 es_14 b_15 es_15 b_16 es_16 b_17 es_17,
                      Gv (115 : Nat)
                          [A.ag [D.bool b1a, D.sl l1a, D.bool b1b, D.sl l1b, D.bool b1c, D.sl l1c, D.bool b1d, D.sl l1d],
                            A.ag [D.bool b4a, D.sl l4a, D.bool b4b, D.sl l4b, D.bool b4c, D.sl l4c, D.bool b4d, D.sl l4d]]
                          [A.ag [D.bool b_14, D.sl es_14, D.bool b_15, D.sl es_15, D.bool b_16, D.sl es_16, D.bool b_17, D.sl es_17]] ∧
                        ∃ b_18 es_18 b_19 es_19,
                          Gv (116 : Nat)
                              [A.ag [D.bool b, D.sl es, D.bool b_1, D.sl es_1, D.bool b_2, D.sl es_2, D.bool b_3, D.sl es_3],
                                A.ag [D.bool b_14, D.sl es_14, D.bool b_15, D.sl es_15, D.bool b_16, D.sl es_16, D.bool b_17, D.sl es_17]]
                              [A.ag [D.bool b_18, D.sl es_18, D.bool b_19, D.sl es_19]] ∧
                            ∃ n_1,
                              Gv (70 : Nat) [A.ag [D.bool b_18, D.sl es_18, D.bool b_19, D.sl es_19]] [A.c (D.int IntKind.i64 n_1)] ∧
                                br (toB (D.bool (decide (IntKind.wrap IntKind.i64 (n * n_1) < (0 : Int)))))
                                  (∃ b es b_20 es_20 b_21 es_21 b_22 es_22,
                                    Gv (115 : Nat)
                                        [A.ag [D.bool b3a, D.sl l3a, D.bool b3b, D.sl l3b, D.bool b3c, D.sl l3c, D.bool b3d, D.sl l3d],
                                          A.ag [D.bool b1a, D.sl l1a, D.bool b1b, D.sl l1b, D.bool b1c, D.sl l1c, D.bool b1d, D.sl l1d]]
                                        [A.ag [D.bool b, D.sl es, D.bool b_20, D.sl es_20, D.bool b_21, D.sl es_21, D.bool b_22, D.sl es_22]] ∧
                                      ∃ b_23 es_23 b_24 es_24,
                                        Gv (116 : Nat)
                                            [A.ag [D.bool b_4, D.sl es_4, D.bool b_5, D.sl es_5, D.bool b_6, D.sl es_6, D.bool b_7, D.sl es_7],
                                              A.ag [D.bool b, D.sl es, D.bool b_20, D.sl es_20, D.bool b_21, D.sl es_21, D.bool b_22, D.sl es_22]]
                                            [A.ag [D.bool b_23, D.sl es_23, D.bool b_24, D.sl es_24]] ∧
                                          ∃ n,
                                            Gv (70 : Nat) [A.ag [D.bool b_23, D.sl es_23, D.bool b_24, D.sl es_24]] [A.c (D.int IntKind.i64 n)] ∧
                                              ∃ b es b_25 es_25 b_26 es_26 b_27 es_27,
                                                Gv (115 : Nat)
                                                    [A.ag [D.bool b3a, D.sl l3a, D.bool b3b, D.sl l3b, D.bool b3c, D.sl l3c, D.bool b3d, D.sl l3d],
                                                      A.ag [D.bool b2a, D.sl l2a, D.bool b2b, D.sl l2b, D.bool b2c, D.sl l2c, D.bool b2d, D.sl l2d]]
                                                    [A.ag [D.bool b, D.sl es, D.bool b_25, D.sl es_25, D.bool b_26, D.sl es_26, D.bool b_27, D.sl es_27]] ∧
                                                  ∃ b_28 es_28 b_29 es_29,
                                                    Gv (116 : Nat)
                                                        [A.ag [D.bool b_4, D.sl es_4, D.bool b_5, D.sl es_5, D.bool b_6, D.sl es_6, D.bool b_7, D.sl es_7],
                                                          A.ag [D.bool b, D.sl es, D.bool b_25, D.sl es_25, D.bool b_26, D.sl es_26, D.bool b_27, D.sl es_27]]
                                                        [A.ag [D.bool b_28, D.sl es_28, D.bool b_29, D.sl es_29]] ∧
                                                      ∃ n_2,
                                                        Gv (70 : Nat) [A.ag [D.bool b_28, D.sl es_28, D.bool b_29, D.sl es_29]] [A.c (D.int IntKind.i64 n_2)] ∧
                                                          Q [A.c (D.bool (decide (IntKind.wrap IntKind.i64 (n * n_2) < (0 : Int))))])
                                  (Q [A.c (D.bool false)])) := by kernel_rfl
theorem vc_dSegments (Gv : Nat → List A → List A → Prop) (I0 : List D → List D → Prop) (M0 : List D → Nat) (b1a b1b b1c b1d b2a b2b b2c b2d b3a b3b b3c b3d b4a b4b b4c b4d : Bool) (l1a l1b l1c l1d l2a l2b l2c l2d l3a l3b l3c l3d l4a l4b l4c l4d : List (List D)) (Q : List A → Prop) :
    wpF CC Gv (fun _ => ⟨[.slot 36 (.int .i64 0), .box 9 [.bool false, .slice none 0 0, .bool false, .slice none 0 0]], [], I0, M0⟩) Tryz.f46 [.ag [.bool b1a, .sl l1a, .bool b1b, .sl l1b, .bool b1c, .sl l1c, .bool b1d, .sl l1d], .ag [.bool b2a, .sl l2a, .bool b2b, .sl l2b, .bool b2c, .sl l2c, .bool b2d, .sl l2d], .ag [.bool b3a, .sl l3a, .bool b3b, .sl l3b, .bool b3c, .sl l3c, .bool b3d, .sl l3d], .ag [.bool b4a, .sl l4a, .bool b4b, .sl l4b, .bool b4c, .sl l4c, .bool b4d, .sl l4d]] Q = (
 ∃ b,
  Gv (72 : Nat)
      [A.ag [D.bool b1a, D.sl l1a, D.bool b1b, D.sl l1b, D.bool b1c, D.sl l1c, D.bool b1d, D.sl l1d],
        A.ag [D.bool b2a, D.sl l2a, D.bool b2b, D.sl l2b, D.bool b2c, D.sl l2c, D.bool b2d, D.sl l2d],
        A.ag [D.bool b3a, D.sl l3a, D.bool b3b, D.sl l3b, D.bool b3c, D.sl l3c, D.bool b3d, D.sl l3d],
        A.ag [D.bool b4a, D.sl l4a, D.bool b4b, D.sl l4b, D.bool b4c, D.sl l4c, D.bool b4d, D.sl l4d]]
      [A.c (D.bool b)] ∧
    br b
      (∃ b es b_1 es_1,
        Gv (42 : Nat) [A.c (D.int IntKind.i64 (0 : Int))] [A.ag [D.bool b, D.sl es, D.bool b_1, D.sl es_1]] ∧
          Q [A.ag [D.bool b, D.sl es, D.bool b_1, D.sl es_1]])
      (∃ b es b_1 es_1,
        Gv (73 : Nat)
            [A.ag [D.bool b1a, D.sl l1a, D.bool b1b, D.sl l1b, D.bool b1c, D.sl l1c, D.bool b1d, D.sl l1d],
              A.ag [D.bool b2a, D.sl l2a, D.bool b2b, D.sl l2b, D.bool b2c, D.sl l2c, D.bool b2d, D.sl l2d],
              A.ag [D.bool b3a, D.sl l3a, D.bool b3b, D.sl l3b, D.bool b3c, D.sl l3c, D.bool b3d, D.sl l3d]]
            [A.ag [D.bool b, D.sl es, D.bool b_1, D.sl es_1]] ∧
          ∃ b_2 es_2 b_3 es_3,
            Gv (73 : Nat)
                [A.ag [D.bool b1a, D.sl l1a, D.bool b1b, D.sl l1b, D.bool b1c, D.sl l1c, D.bool b1d, D.sl l1d],
                  A.ag [D.bool b2a, D.sl l2a, D.bool b2b, D.sl l2b, D.bool b2c, D.sl l2c, D.bool b2d, D.sl l2d],
                  A.ag [D.bool b4a, D.sl l4a, D.bool b4b, D.sl l4b, D.bool b4c, D.sl l4c, D.bool b4d, D.sl l4d]]
                [A.ag [D.bool b_2, D.sl es_2, D.bool b_3, D.sl es_3]] ∧
              ∃ b_4 es_4 b_5 es_5,
                Gv (73 : Nat)
                    [A.ag [D.bool b3a, D.sl l3a, D.bool b3b, D.sl l3b, D.bool b3c, D.sl l3c, D.bool b3d, D.sl l3d],
                      A.ag [D.bool b4a, D.sl l4a, D.bool b4b, D.sl l4b, D.bool b4c, D.sl l4c, D.bool b4d, D.sl l4d],
                      A.ag [D.bool b1a, D.sl l1a, D.bool b1b, D.sl l1b, D.bool b1c, D.sl l1c, D.bool b1d, D.sl l1d]]
                    [A.ag [D.bool b_4, D.sl es_4, D.bool b_5, D.sl es_5]] ∧
                  ∃ b_6 es_6 b_7 es_7,
                    Gv (73 : Nat)
                        [A.ag [D.bool b3a, D.sl l3a, D.bool b3b, D.sl l3b, D.bool b3c, D.sl l3c, D.bool b3d, D.sl l3d],
                          A.ag [D.bool b4a, D.sl l4a, D.bool b4b, D.sl l4b, D.bool b4c, D.sl l4c, D.bool b4d, D.sl l4d],
                          A.ag [D.bool b2a, D.sl l2a, D.bool b2b, D.sl l2b, D.bool b2c, D.sl l2c, D.bool b2d, D.sl l2d]]
                        [A.ag [D.bool b_6, D.sl es_6, D.bool b_7, D.sl es_7]] ∧
                      I0 [] [D.int IntKind.i64 (0 : Int), D.bool b, D.sl es, D.bool b_1, D.sl es_1] ∧
                        ∀ (n : Int) (b : Bool) (es : List (List D)) (b_8 : Bool) (es_8 : List (List D)),
                          I0 [] [D.int IntKind.i64 n, D.bool b, D.sl es, D.bool b_8, D.sl es_8] →
                            br (toB (D.bool (decide (n < (3 : Int)))))
                              (((0 : Int) ≤ n ∧ n < (3 : Int)) ∧
                                ∃ b_9 es_9 b_10 es_10,
                                  cut
                                      (nth []
                                        [[D.bool b_2, D.sl es_2, D.bool b_3, D.sl es_3], [D.bool b_4, D.sl es_4, D.bool b_5, D.sl es_5],
                                          [D.bool b_6, D.sl es_6, D.bool b_7, D.sl es_7]]
                                        (Int.toNat n))
                                      (0 : Nat) (4 : Nat) [D.bool b_9, D.sl es_9, D.bool b_10, D.sl es_10] ∧
                                    ∃ n_1,
                                      Gv (45 : Nat) [A.ag [D.bool b_9, D.sl es_9, D.bool b_10, D.sl es_10], A.ag [D.bool b, D.sl es, D.bool b_8, D.sl es_8]]
                                          [A.c (D.int IntKind.i64 n_1)] ∧
                                        br (toB (D.bool (decide (n_1 < (0 : Int)))))
                                          (I0 []
                                              [D.int IntKind.i64 (IntKind.wrap IntKind.i64 (n + (1 : Int))), D.bool b_9, D.sl es_9, D.bool b_10, D.sl es_10] ∧
                                            M0 [D.int IntKind.i64 (IntKind.wrap IntKind.i64 (n + (1 : Int))), D.bool b_9, D.sl es_9, D.bool b_10, D.sl es_10] <
                                              M0 [D.int IntKind.i64 n, D.bool b, D.sl es, D.bool b_8, D.sl es_8])
                                          (I0 [] [D.int IntKind.i64 (IntKind.wrap IntKind.i64 (n + (1 : Int))), D.bool b, D.sl es, D.bool b_8, D.sl es_8] ∧
                                            M0 [D.int IntKind.i64 (IntKind.wrap IntKind.i64 (n + (1 : Int))), D.bool b, D.sl es, D.bool b_8, D.sl es_8] <
                                              M0 [D.int IntKind.i64 n, D.bool b, D.sl es, D.bool b_8, D.sl es_8]))
                              (Q [A.ag [D.bool b, D.sl es, D.bool b_8, D.sl es_8]]))) := by kernel_rfl
theorem vc_eadd (Gv : Nat → List A → List A → Prop) (p q r s : Bool) (es fs gs hs : List (List D)) (Q : List A → Prop) :
    wpF CC Gv (fun _ => ⟨[], [], fun _ _ => True, fun _ => 0⟩) Tryz.f164 [.ag [.bool p, .sl es, .bool q, .sl fs], .ag [.bool r, .sl gs, .bool s, .sl hs]] Q = (
 ∃ b es_1 b_1 es_2,
  Gv (202 : Nat) [A.ag [D.bool p, D.sl es, D.bool q, D.sl fs], A.ag [D.bool r, D.sl gs, D.bool s, D.sl hs]]
      [A.ag [D.bool b, D.sl es_1, D.bool b_1, D.sl es_2]] ∧
    Q [A.ag [D.bool b, D.sl es_1, D.bool b_1, D.sl es_2]]) := by kernel_rfl
theorem vc_esub (Gv : Nat → List A → List A → Prop) (p q r s : Bool) (es fs gs hs : List (List D)) (Q : List A → Prop) :
    wpF CC Gv (fun _ => ⟨[], [], fun _ _ => True, fun _ => 0⟩) Tryz.f163 [.ag [.bool p, .sl es, .bool q, .sl fs], .ag [.bool r, .sl gs, .bool s, .sl hs]] Q = (
 ∃ b es_1 b_1 es_2,
  Gv (201 : Nat) [A.ag [D.bool p, D.sl es, D.bool q, D.sl fs], A.ag [D.bool r, D.sl gs, D.bool s, D.sl hs]]
      [A.ag [D.bool b, D.sl es_1, D.bool b_1, D.sl es_2]] ∧
    Q [A.ag [D.bool b, D.sl es_1, D.bool b_1, D.sl es_2]]) := by kernel_rfl
theorem vc_emul (Gv : Nat → List A → List A → Prop) (p q r s : Bool) (es fs gs hs : List (List D)) (Q : List A → Prop) :
    wpF CC Gv (fun _ => ⟨[], [], fun _ _ => True, fun _ => 0⟩) Tryz.f126 [.ag [.bool p, .sl es, .bool q, .sl fs], .ag [.bool r, .sl gs, .bool s, .sl hs]] Q = (
 ∃ b es_1 b_1 es_2,
  Gv (52 : Nat) [A.ag [D.bool p, D.sl es, D.bool q, D.sl fs], A.ag [D.bool r, D.sl gs, D.bool s, D.sl hs]] [A.ag [D.bool b, D.sl es_1, D.bool b_1, D.sl es_2]] ∧
    Q [A.ag [D.bool b, D.sl es_1, D.bool b_1, D.sl es_2]]) := by kernel_rfl
theorem vc_eWay (Gv : Nat → List A → List A → Prop) (b1a b1b b1c b1d b2a b2b b2c b2d : Bool) (l1a l1b l1c l1d l2a l2b l2c l2d : List (List D)) (Q : List A → Prop) :
    wpF CC Gv (fun _ => ⟨[], [], fun _ _ => True, fun _ => 0⟩) Tryz.f123 [.ag [.bool b1a, .sl l1a, .bool b1b, .sl l1b, .bool b1c, .sl l1c, .bool b1d, .sl l1d], .ag [.bool b2a, .sl l2a, .bool b2b, .sl l2b, .bool b2c, .sl l2c, .bool b2d, .sl l2d]] Q = (
 ∃ b es b_1 es_1,
  Gv (163 : Nat) [A.ag [D.bool b2a, D.sl l2a, D.bool b2b, D.sl l2b], A.ag [D.bool b1a, D.sl l1a, D.bool b1b, D.sl l1b]]
      [A.ag [D.bool b, D.sl es, D.bool b_1, D.sl es_1]] ∧
    ∃ b_2 es_2 b_3 es_3,
      Gv (163 : Nat) [A.ag [D.bool b2c, D.sl l2c, D.bool b2d, D.sl l2d], A.ag [D.bool b1c, D.sl l1c, D.bool b1d, D.sl l1d]]
          [A.ag [D.bool b_2, D.sl es_2, D.bool b_3, D.sl es_3]] ∧
        Q [A.ag [D.bool b, D.sl es, D.bool b_1, D.sl es_1, D.bool b_2, D.sl es_2, D.bool b_3, D.sl es_3]]) := by kernel_rfl
theorem vc_eDot (Gv : Nat → List A → List A → Prop) (b1a b1b b1c b1d b2a b2b b2c b2d : Bool) (l1a l1b l1c l1d l2a l2b l2c l2d : List (List D)) (Q : List A → Prop) :
    wpF CC Gv (fun _ => ⟨[], [], fun _ _ => True, fun _ => 0⟩) Tryz.f124 [.ag [.bool b1a, .sl l1a, .bool b1b, .sl l1b, .bool b1c, .sl l1c, .bool b1d, .sl l1d], .ag [.bool b2a, .sl l2a, .bool b2b, .sl l2b, .bool b2c, .sl l2c, .bool b2d, .sl l2d]] Q = (
 ∃ b es b_1 es_1,
  Gv (126 : Nat) [A.ag [D.bool b1a, D.sl l1a, D.bool b1b, D.sl l1b], A.ag [D.bool b2a, D.sl l2a, D.bool b2b, D.sl l2b]]
      [A.ag [D.bool b, D.sl es, D.bool b_1, D.sl es_1]] ∧
    ∃ b_2 es_2 b_3 es_3,
      Gv (126 : Nat) [A.ag [D.bool b1c, D.sl l1c, D.bool b1d, D.sl l1d], A.ag [D.bool b2c, D.sl l2c, D.bool b2d, D.sl l2d]]
          [A.ag [D.bool b_2, D.sl es_2, D.bool b_3, D.sl es_3]] ∧
        ∃ b_4 es_4 b_5 es_5,
          Gv (164 : Nat) [A.ag [D.bool b, D.sl es, D.bool b_1, D.sl es_1], A.ag [D.bool b_2, D.sl es_2, D.bool b_3, D.sl es_3]]
              [A.ag [D.bool b_4, D.sl es_4, D.bool b_5, D.sl es_5]] ∧
            Q [A.ag [D.bool b_4, D.sl es_4, D.bool b_5, D.sl es_5]]) := by kernel_rfl
theorem vc_eCross (Gv : Nat → List A → List A → Prop) (b1a b1b b1c b1d b2a b2b b2c b2d : Bool) (l1a l1b l1c l1d l2a l2b l2c l2d : List (List D)) (Q : List A → Prop) :
    wpF CC Gv (fun _ => ⟨[], [], fun _ _ => True, fun _ => 0⟩) Tryz.f122 [.ag [.bool b1a, .sl l1a, .bool b1b, .sl l1b, .bool b1c, .sl l1c, .bool b1d, .sl l1d], .ag [.bool b2a, .sl l2a, .bool b2b, .sl l2b, .bool b2c, .sl l2c, .bool b2d, .sl l2d]] Q = (
 ∃ b es b_1 es_1,
  Gv (126 : Nat) [A.ag [D.bool b1a, D.sl l1a, D.bool b1b, D.sl l1b], A.ag [D.bool b2c, D.sl l2c, D.bool b2d, D.sl l2d]]
      [A.ag [D.bool b, D.sl es, D.bool b_1, D.sl es_1]] ∧
    ∃ b_2 es_2 b_3 es_3,
      Gv (126 : Nat) [A.ag [D.bool b1c, D.sl l1c, D.bool b1d, D.sl l1d], A.ag [D.bool b2a, D.sl l2a, D.bool b2b, D.sl l2b]]
          [A.ag [D.bool b_2, D.sl es_2, D.bool b_3, D.sl es_3]] ∧
        ∃ b_4 es_4 b_5 es_5,
          Gv (163 : Nat) [A.ag [D.bool b, D.sl es, D.bool b_1, D.sl es_1], A.ag [D.bool b_2, D.sl es_2, D.bool b_3, D.sl es_3]]
              [A.ag [D.bool b_4, D.sl es_4, D.bool b_5, D.sl es_5]] ∧
            Q [A.ag [D.bool b_4, D.sl es_4, D.bool b_5, D.sl es_5]]) := by kernel_rfl
theorem vc_eto (Gv : Nat → List A → List A → Prop) (b1a b1b b1c b1d b2a b2b b2c b2d b3a b3b b3c b3d : Bool) (l1a l1b l1c l1d l2a l2b l2c l2d l3a l3b l3c l3d : List (List D)) (Q : List A → Prop) :
    wpF CC Gv (fun _ => ⟨[], [], fun _ _ => True, fun _ => 0⟩) Tryz.f78 [.ag [.bool b1a, .sl l1a, .bool b1b, .sl l1b, .bool b1c, .sl l1c, .bool b1d, .sl l1d], .ag [.bool b2a, .sl l2a, .bool b2b, .sl l2b, .bool b2c, .sl l2c, .bool b2d, .sl l2d], .ag [.bool b3a, .sl l3a, .bool b3b, .sl l3b, .bool b3c, .sl l3c, .bool b3d, .sl l3d]] Q = (
 ∃ b es b_1 es_1 b_2 es_2 b_3 es_3,
  Gv (123 : Nat)
      [A.ag [D.bool b1a, D.sl l1a, D.bool b1b, D.sl l1b, D.bool b1c, D.sl l1c, D.bool b1d, D.sl l1d],
        A.ag [D.bool b2a, D.sl l2a, D.bool b2b, D.sl l2b, D.bool b2c, D.sl l2c, D.bool b2d, D.sl l2d]]
      [A.ag [D.bool b, D.sl es, D.bool b_1, D.sl es_1, D.bool b_2, D.sl es_2, D.bool b_3, D.sl es_3]] ∧
    ∃ b_4 es_4 b_5 es_5 b_6 es_6 b_7 es_7,
      Gv (123 : Nat)
          [A.ag [D.bool b1a, D.sl l1a, D.bool b1b, D.sl l1b, D.bool b1c, D.sl l1c, D.bool b1d, D.sl l1d],
            A.ag [D.bool b3a, D.sl l3a, D.bool b3b, D.sl l3b, D.bool b3c, D.sl l3c, D.bool b3d, D.sl l3d]]
          [A.ag [D.bool b_4, D.sl es_4, D.bool b_5, D.sl es_5, D.bool b_6, D.sl es_6, D.bool b_7, D.sl es_7]] ∧
        ∃ b_8 es_8 b_9 es_9,
          Gv (124 : Nat)
              [A.ag [D.bool b, D.sl es, D.bool b_1, D.sl es_1, D.bool b_2, D.sl es_2, D.bool b_3, D.sl es_3],
                A.ag [D.bool b, D.sl es, D.bool b_1, D.sl es_1, D.bool b_2, D.sl es_2, D.bool b_3, D.sl es_3]]
              [A.ag [D.bool b_8, D.sl es_8, D.bool b_9, D.sl es_9]] ∧
            ∃ b_10 es_10 b_11 es_11,
              Gv (124 : Nat)
                  [A.ag [D.bool b, D.sl es, D.bool b_1, D.sl es_1, D.bool b_2, D.sl es_2, D.bool b_3, D.sl es_3],
                    A.ag [D.bool b_4, D.sl es_4, D.bool b_5, D.sl es_5, D.bool b_6, D.sl es_6, D.bool b_7, D.sl es_7]]
                  [A.ag [D.bool b_10, D.sl es_10, D.bool b_11, D.sl es_11]] ∧
                ∃ n,
                  Gv (121 : Nat) [A.ag [D.bool b_10, D.sl es_10, D.bool b_11, D.sl es_11]] [A.c (D.int IntKind.i64 n)] ∧
                    br (toB (D.bool (decide (n ≤ (0 : Int)))))
                      (∃ b es b_12 es_12,
                        Gv (124 : Nat)
                            [A.ag [D.bool b_4, D.sl es_4, D.bool b_5, D.sl es_5, D.bool b_6, D.sl es_6, D.bool b_7, D.sl es_7],
                              A.ag [D.bool b_4, D.sl es_4, D.bool b_5, D.sl es_5, D.bool b_6, D.sl es_6, D.bool b_7, D.sl es_7]]
                            [A.ag [D.bool b, D.sl es, D.bool b_12, D.sl es_12]] ∧
                          Q [A.ag [D.bool b, D.sl es, D.bool b_12, D.sl es_12]])
                      (∃ n,
                        Gv (32 : Nat) [A.ag [D.bool b_10, D.sl es_10, D.bool b_11, D.sl es_11], A.ag [D.bool b_8, D.sl es_8, D.bool b_9, D.sl es_9]]
                            [A.c (D.int IntKind.i64 n)] ∧
                          br (toB (D.bool (decide (n ≥ (0 : Int)))))
                            (∃ b es b_12 es_12 b_13 es_13 b_14 es_14,
                              Gv (123 : Nat)
                                  [A.ag [D.bool b2a, D.sl l2a, D.bool b2b, D.sl l2b, D.bool b2c, D.sl l2c, D.bool b2d, D.sl l2d],
                                    A.ag [D.bool b3a, D.sl l3a, D.bool b3b, D.sl l3b, D.bool b3c, D.sl l3c, D.bool b3d, D.sl l3d]]
                                  [A.ag [D.bool b, D.sl es, D.bool b_12, D.sl es_12, D.bool b_13, D.sl es_13, D.bool b_14, D.sl es_14]] ∧
                                ∃ b_15 es_15 b_16 es_16,
                                  Gv (124 : Nat)
                                      [A.ag [D.bool b, D.sl es, D.bool b_12, D.sl es_12, D.bool b_13, D.sl es_13, D.bool b_14, D.sl es_14],
                                        A.ag [D.bool b, D.sl es, D.bool b_12, D.sl es_12, D.bool b_13, D.sl es_13, D.bool b_14, D.sl es_14]]
                                      [A.ag [D.bool b_15, D.sl es_15, D.bool b_16, D.sl es_16]] ∧
                                    Q [A.ag [D.bool b_15, D.sl es_15, D.bool b_16, D.sl es_16]])
                            (∃ b_12 es_12 b_13 es_13,
                              Gv (122 : Nat)
                                  [A.ag [D.bool b, D.sl es, D.bool b_1, D.sl es_1, D.bool b_2, D.sl es_2, D.bool b_3, D.sl es_3],
                                    A.ag [D.bool b_4, D.sl es_4, D.bool b_5, D.sl es_5, D.bool b_6, D.sl es_6, D.bool b_7, D.sl es_7]]
                                  [A.ag [D.bool b_12, D.sl es_12, D.bool b_13, D.sl es_13]] ∧
                                ∃ b es b_14 es_14,
                                  Gv (126 : Nat)
                                      [A.ag [D.bool b_12, D.sl es_12, D.bool b_13, D.sl es_13], A.ag [D.bool b_12, D.sl es_12, D.bool b_13, D.sl es_13]]
                                      [A.ag [D.bool b, D.sl es, D.bool b_14, D.sl es_14]] ∧
                                    ∃ b_15 es_15 b_16 es_16,
                                      Gv (125 : Nat) [A.ag [D.bool b, D.sl es, D.bool b_14, D.sl es_14], A.ag [D.bool b_8, D.sl es_8, D.bool b_9, D.sl es_9]]
                                          [A.ag [D.bool b_15, D.sl es_15, D.bool b_16, D.sl es_16]] ∧
                                        Q [A.ag [D.bool b_15, D.sl es_15, D.bool b_16, D.sl es_16]]))) := by kernel_rfl
theorem vc_ecross (Gv : Nat → List A → List A → Prop) (b1a b1b b1c b1d b2a b2b b2c b2d b3a b3b b3c b3d b4a b4b b4c b4d : Bool) (l1a l1b l1c l1d l2a l2b l2c l2d l3a l3b l3c l3d l4a l4b l4c l4d : List (List D)) (Q : List A → Prop) :
    wpF CC Gv (fun _ => ⟨[], [], fun _ _ => True, fun _ => 0⟩) Tryz.f77 [.ag [.bool b1a, .sl l1a, .bool b1b, .sl l1b, .bool b1c, .sl l1c, .bool b1d, .sl l1d], .ag [.bool b2a, .sl l2a, .bool b2b, .sl l2b, .bool b2c, .sl l2c, .bool b2d, .sl l2d], .ag [.bool b3a, .sl l3a, .bool b3b, .sl l3b, .bool b3c, .sl l3c, .bool b3d, .sl l3d], .ag [.bool b4a, .sl l4a, .bool b4b, .sl l4b, .bool b4c, .sl l4c, .bool b4d, .sl l4d]] Q = (
 ∃ b es b_1 es_1 b_2 es_2 b_3 es_3,
  Gv (123 : Nat)
      [A.ag [D.bool b1a, D.sl l1a, D.bool b1b, D.sl l1b, D.bool b1c, D.sl l1c, D.bool b1d, D.sl l1d],
        A.ag [D.bool b2a, D.sl l2a, D.bool b2b, D.sl l2b, D.bool b2c, D.sl l2c, D.bool b2d, D.sl l2d]]
      [A.ag [D.bool b, D.sl es, D.bool b_1, D.sl es_1, D.bool b_2, D.sl es_2, D.bool b_3, D.sl es_3]] ∧
    ∃ b_4 es_4 b_5 es_5 b_6 es_6 b_7 es_7,
      Gv (123 : Nat)
          [A.ag [D.bool b1a, D.sl l1a, D.bool b1b, D.sl l1b, D.bool b1c, D.sl l1c, D.bool b1d, D.sl l1d],
            A.ag [D.bool b3a, D.sl l3a, D.bool b3b, D.sl l3b, D.bool b3c, D.sl l3c, D.bool b3d, D.sl l3d]]
          [A.ag [D.bool b_4, D.sl es_4, D.bool b_5, D.sl es_5, D.bool b_6, D.sl es_6, D.bool b_7, D.sl es_7]] ∧
        ∃ b_8 es_8 b_9 es_9,
          Gv (122 : Nat)
              [A.ag [D.bool b, D.sl es, D.bool b_1, D.sl es_1, D.bool b_2, D.sl es_2, D.bool b_3, D.sl es_3],
                A.ag [D.bool b_4, D.sl es_4, D.bool b_5, D.sl es_5, D.bool b_6, D.sl es_6, D.bool b_7, D.sl es_7]]
              [A.ag [D.bool b_8, D.sl es_8, D.bool b_9, D.sl es_9]] ∧
            ∃ n,
              Gv (121 : Nat) [A.ag [D.bool b_8, D.sl es_8, D.bool b_9, D.sl es_9]] [A.c (D.int IntKind.i64 n)] ∧
                ∃ b es b_10 es_10 b_11 es_11 b_12 es_12,
                  Gv (123 : Nat)
                      [A.ag [D.bool b1a, D.sl l1a, D.bool b1b, D.sl l1b, D.bool b1c, D.sl l1c, D.bool b1d, D.sl l1d],
                        A.ag [D.bool b2a, D.sl l2a, D.bool b2b, D.sl l2b, D.bool b2c, D.sl l2c, D.bool b2d, D.sl l2d]]
                      [A.ag [D.bool b, D.sl es, D.bool b_10, D.sl es_10, D.bool b_11, D.sl es_11, D.bool b_12, D.sl es_12]] ∧
                    ∃ b_13 es_13 b_14 es_14 b_15 es_15 b_16 es_16,
                      Gv (123 : Nat)
                          [A.ag [D.bool b1a, D.sl l1a, D.bool b1b, D.sl l1b, D.bool b1c, D.sl l1c, D.bool b1d, D.sl l1d],
                            A.ag [D.bool b4a, D.sl l4a, D.bool b4b, D.sl l4b, D.bool b4c, D.sl l4c, D.bool b4d, D.sl l4d]]
                          [A.ag [D.bool b_13, D.sl es_13, D.bool b_14, D.sl es_14, D.bool b_15, D.sl es_15, D.bool b_16, D.sl es_16]] ∧
                        ∃ b_17 es_17 b_18 es_18,
                          Gv (122 : Nat)
                              [A.ag [D.bool b, D.sl es, D.bool b_10, D.sl es_10, D.bool b_11, D.sl es_11, D.bool b_12, D.sl es_12],
                                A.ag [D.bool b_13, D.sl es_13, D.bool b_14, D.sl es_14, D.bool b_15, D.sl es_15, D.bool b_16, D.sl es_16]]
                              [A.ag [D.bool b_17, D.sl es_17, D.bool b_18, D.sl es_18]] ∧
                            ∃ n_1,
                              Gv (121 : Nat) [A.ag [D.bool b_17, D.sl es_17, D.bool b_18, D.sl es_18]] [A.c (D.int IntKind.i64 n_1)] ∧
                                ∃ b es b_19 es_19 b_20 es_20 b_21 es_21,
                                  Gv (123 : Nat)
                                      [A.ag [D.bool b3a, D.sl l3a, D.bool b3b, D.sl l3b, D.bool b3c, D.sl l3c, D.bool b3d, D.sl l3d],
                                        A.ag [D.bool b4a, D.sl l4a, D.bool b4b, D.sl l4b, D.bool b4c, D.sl l4c, D.bool b4d, D.sl l4d]]
                                      [A.ag [D.bool b, D.sl es, D.bool b_19, D.sl es_19, D.bool b_20, D.sl es_20, D.bool b_21, D.sl es_21]] ∧
                                    ∃ b_22 es_22 b_23 es_23 b_24 es_24 b_25 es_25,
                                      Gv (123 : Nat)
                                          [A.ag [D.bool b3a, D.sl l3a, D.bool b3b, D.sl l3b, D.bool b3c, D.sl l3c, D.bool b3d, D.sl l3d],
                                            A.ag [D.bool b1a, D.sl l1a, D.bool b1b, D.sl l1b, D.bool b1c, D.sl l1c, D.bool b1d, D.sl l1d]]
                                          [A.ag [D.bool b_22, D.sl es_22, D.bool b_23, D.sl es_23, D.bool b_24, D.sl es_24, D.bool b_25, D.sl es_25]] ∧
                                        ∃ b_26 es_26 b_27 es_27,
                                          Gv (122 : Nat)
                                              [A.ag [D.bool b, D.sl es, D.bool b_19, D.sl es_19, D.bool b_20, D.sl es_20, D.bool b_21, D.sl es_21],
                                                A.ag [D.bool b_22, D.sl es_22, D.bool b_23, D.sl es_23, D.bool b_24, D.sl es_24, D.bool b_25, D.sl es_25]]
                                              [A.ag [D.bool b_26, D.sl es_26, D.bool b_27, D.sl es_27]] ∧
                                            ∃ n_2,
                                              Gv (121 : Nat) [A.ag [D.bool b_26, D.sl es_26, D.bool b_27, D.sl es_27]] [A.c (D.int IntKind.i64 n_2)] ∧
                                                ∃ b es b_28 es_28 b_29 es_29 b_30 es_30,
                                                  Gv (123 : Nat)
                                                      [A.ag [D.bool b3a, D.sl l3a, D.bool b3b, D.sl l3b, D.bool b3c, D.sl l3c, D.bool b3d, D.sl l3d],
                                                        A.ag [D.bool b4a, D.sl l4a, D.bool b4b, D.sl l4b, D.bool b4c, D.sl l4c, D.bool b4d, D.sl l4d]]
                                                      [A.ag [D.bool b, D.sl es, D.bool b_28, D.sl es_28, D.bool b_29, D.sl es_29, D.bool b_30, D.sl es_30]] ∧
                                                    ∃ b_31 es_31 b_32 es_32 b_33 es_33 b_34 es_34,
                                                      Gv (123 : Nat)
                                                          [A.ag [D.bool b3a, D.sl l3a, D.bool b3b, D.sl l3b, D.bool b3c, D.sl l3c, D.bool b3d, D.sl l3d],
                                                            A.ag [D.bool b2a, D.sl l2a, D.bool b2b, D.sl l2b, D.bool b2c, D.sl l2c, D.bool b2d, D.sl l2d]]
                                                          [A.ag
                                                              [D.bool b_31, D.sl es_31, D.bool b_32, D.sl es_32, D.bool b_33, D.sl es_33, D.bool b_34,
                                                                D.sl es_34]] ∧
                                                        ∃ b_35 es_35 b_36 es_36,
                                                          Gv (122 : Nat)
                                                              [A.ag
                                                                  [D.bool b, D.sl es, D.bool b_28, D.sl es_28, D.bool b_29, D.sl es_29, D.bool b_30,
                                                                    D.sl es_30],
                                                                A.ag
                                                                  [D.bool b_31, D.sl es_31, D.bool b_32, D.sl es_32, D.bool b_33, D.sl es_33, D.bool b_34,
                                                                    D.sl es_34]]
                                                              [A.ag [D.bool b_35, D.sl es_35, D.bool b_36, D.sl es_36]] ∧
                                                            ∃ n_3,
                                                              Gv (121 : Nat) [A.ag [D.bool b_35, D.sl es_35, D.bool b_36, D.sl es_36]]
                                                                  [A.c (D.int IntKind.i64 n_3)] ∧
                                                                br (toB (D.bool (decide (IntKind.wrap IntKind.i64 (n * n_1) < (0 : Int)))))
                                                                  (Q [A.c (D.bool (decide (IntKind.wrap IntKind.i64 (n_2 * n_3) < (0 : Int))))])
                                                                  (Q [A.c (D.bool false)])) := by kernel_rfl
theorem vc_eSegments (Gv : Nat → List A → List A → Prop) (I0 : List D → List D → Prop) (M0 : List D → Nat) (b1a b1b b1c b1d b2a b2b b2c b2d b3a b3b b3c b3d b4a b4b b4c b4d : Bool) (l1a l1b l1c l1d l2a l2b l2c l2d l3a l3b l3c l3d l4a l4b l4c l4d : List (List D)) (Q : List A → Prop) :
    wpF CC Gv (fun _ => ⟨[.slot 11 (.int .i64 0), .box 9 [.bool false, .slice none 0 0, .bool false, .slice none 0 0]], [], I0, M0⟩) Tryz.f51 [.ag [.bool b1a, .sl l1a, .bool b1b, .sl l1b, .bool b1c, .sl l1c, .bool b1d, .sl l1d], .ag [.bool b2a, .sl l2a, .bool b2b, .sl l2b, .bool b2c, .sl l2c, .bool b2d, .sl l2d], .ag [.bool b3a, .sl l3a, .bool b3b, .sl l3b, .bool b3c, .sl l3c, .bool b3d, .sl l3d], .ag [.bool b4a, .sl l4a, .bool b4b, .sl l4b, .bool b4c, .sl l4c, .bool b4d, .sl l4d]] Q = (
 ∃ b,
  Gv (77 : Nat)
      [A.ag [D.bool b1a, D.sl l1a, D.bool b1b, D.sl l1b, D.bool b1c, D.sl l1c, D.bool b1d, D.sl l1d],
        A.ag [D.bool b2a, D.sl l2a, D.bool b2b, D.sl l2b, D.bool b2c, D.sl l2c, D.bool b2d, D.sl l2d],
        A.ag [D.bool b3a, D.sl l3a, D.bool b3b, D.sl l3b, D.bool b3c, D.sl l3c, D.bool b3d, D.sl l3d],
        A.ag [D.bool b4a, D.sl l4a, D.bool b4b, D.sl l4b, D.bool b4c, D.sl l4c, D.bool b4d, D.sl l4d]]
      [A.c (D.bool b)] ∧
    br b
      (∃ b es b_1 es_1,
        Gv (35 : Nat) [A.c (D.int IntKind.i64 (0 : Int))] [A.ag [D.bool b, D.sl es, D.bool b_1, D.sl es_1]] ∧
          Q [A.ag [D.bool b, D.sl es, D.bool b_1, D.sl es_1]])
      (∃ b es b_1 es_1,
        Gv (78 : Nat)
            [A.ag [D.bool b1a, D.sl l1a, D.bool b1b, D.sl l1b, D.bool b1c, D.sl l1c, D.bool b1d, D.sl l1d],
              A.ag [D.bool b2a, D.sl l2a, D.bool b2b, D.sl l2b, D.bool b2c, D.sl l2c, D.bool b2d, D.sl l2d],
              A.ag [D.bool b3a, D.sl l3a, D.bool b3b, D.sl l3b, D.bool b3c, D.sl l3c, D.bool b3d, D.sl l3d]]
            [A.ag [D.bool b, D.sl es, D.bool b_1, D.sl es_1]] ∧
          ∃ b_2 es_2 b_3 es_3,
            Gv (78 : Nat)
                [A.ag [D.bool b1a, D.sl l1a, D.bool b1b, D.sl l1b, D.bool b1c, D.sl l1c, D.bool b1d, D.sl l1d],
                  A.ag [D.bool b2a, D.sl l2a, D.bool b2b, D.sl l2b, D.bool b2c, D.sl l2c, D.bool b2d, D.sl l2d],
                  A.ag [D.bool b4a, D.sl l4a, D.bool b4b, D.sl l4b, D.bool b4c, D.sl l4c, D.bool b4d, D.sl l4d]]
                [A.ag [D.bool b_2, D.sl es_2, D.bool b_3, D.sl es_3]] ∧
              ∃ b_4 es_4 b_5 es_5,
                Gv (78 : Nat)
                    [A.ag [D.bool b3a, D.sl l3a, D.bool b3b, D.sl l3b, D.bool b3c, D.sl l3c, D.bool b3d, D.sl l3d],
                      A.ag [D.bool b4a, D.sl l4a, D.bool b4b, D.sl l4b, D.bool b4c, D.sl l4c, D.bool b4d, D.sl l4d],
                      A.ag [D.bool b1a, D.sl l1a, D.bool b1b, D.sl l1b, D.bool b1c, D.sl l1c, D.bool b1d, D.sl l1d]]
                    [A.ag [D.bool b_4, D.sl es_4, D.bool b_5, D.sl es_5]] ∧
                  ∃ b_6 es_6 b_7 es_7,
                    Gv (78 : Nat)
                        [A.ag [D.bool b3a, D.sl l3a, D.bool b3b, D.sl l3b, D.bool b3c, D.sl l3c, D.bool b3d, D.sl l3d],
                          A.ag [D.bool b4a, D.sl l4a, D.bool b4b, D.sl l4b, D.bool b4c, D.sl l4c, D.bool b4d, D.sl l4d],
                          A.ag [D.bool b2a, D.sl l2a, D.bool b2b, D.sl l2b, D.bool b2c, D.sl l2c, D.bool b2d, D.sl l2d]]
                        [A.ag [D.bool b_6, D.sl es_6, D.bool b_7, D.sl es_7]] ∧
                      I0 [] [D.int IntKind.i64 (0 : Int), D.bool b, D.sl es, D.bool b_1, D.sl es_1] ∧
                        ∀ (n : Int) (b : Bool) (es : List (List D)) (b_8 : Bool) (es_8 : List (List D)),
                          I0 [] [D.int IntKind.i64 n, D.bool b, D.sl es, D.bool b_8, D.sl es_8] →
                            br (toB (D.bool (decide (n < (3 : Int)))))
                              (((0 : Int) ≤ n ∧ n < (3 : Int)) ∧
                                ∃ b_9 es_9 b_10 es_10,
                                  cut
                                      (nth []
                                        [[D.bool b_2, D.sl es_2, D.bool b_3, D.sl es_3], [D.bool b_4, D.sl es_4, D.bool b_5, D.sl es_5],
                                          [D.bool b_6, D.sl es_6, D.bool b_7, D.sl es_7]]
                                        (Int.toNat n))
                                      (0 : Nat) (4 : Nat) [D.bool b_9, D.sl es_9, D.bool b_10, D.sl es_10] ∧
                                    ∃ n_1,
                                      Gv (32 : Nat) [A.ag [D.bool b_9, D.sl es_9, D.bool b_10, D.sl es_10], A.ag [D.bool b, D.sl es, D.bool b_8, D.sl es_8]]
                                          [A.c (D.int IntKind.i64 n_1)] ∧
                                        br (toB (D.bool (decide (n_1 < (0 : Int)))))
                                          (((0 : Int) ≤ n ∧ n < (3 : Int)) ∧
                                            ∃ b_11 es_11 b_12 es_12,
                                              cut
                                                  (nth []
                                                    [[D.bool b_2, D.sl es_2, D.bool b_3, D.sl es_3], [D.bool b_4, D.sl es_4, D.bool b_5, D.sl es_5],
                                                      [D.bool b_6, D.sl es_6, D.bool b_7, D.sl es_7]]
                                                    (Int.toNat n))
                                                  (0 : Nat) (4 : Nat) [D.bool b_11, D.sl es_11, D.bool b_12, D.sl es_12] ∧
                                                I0 []
                                                    [D.int IntKind.i64 (IntKind.wrap IntKind.i64 (n + (1 : Int))), D.bool b_11, D.sl es_11, D.bool b_12,
                                                      D.sl es_12] ∧
                                                  M0
                                                      [D.int IntKind.i64 (IntKind.wrap IntKind.i64 (n + (1 : Int))), D.bool b_11, D.sl es_11, D.bool b_12,
                                                        D.sl es_12] <
                                                    M0 [D.int IntKind.i64 n, D.bool b, D.sl es, D.bool b_8, D.sl es_8])
                                          (I0 [] [D.int IntKind.i64 (IntKind.wrap IntKind.i64 (n + (1 : Int))), D.bool b, D.sl es, D.bool b_8, D.sl es_8] ∧
                                            M0 [D.int IntKind.i64 (IntKind.wrap IntKind.i64 (n + (1 : Int))), D.bool b, D.sl es, D.bool b_8, D.sl es_8] <
                                              M0 [D.int IntKind.i64 n, D.bool b, D.sl es, D.bool b_8, D.sl es_8]))
                              (Q [A.ag [D.bool b, D.sl es, D.bool b_8, D.sl es_8]]))) := by kernel_rfl
end Eng
end

section
/- Distances of segments, over rational numbers; their sizes. -/
namespace Eng
open Go Go.Proofs

structure V2 where
  x : Rat
  y : Rat
def encV (v : V2) : A := .ag (cR v.x ++ cR v.y)
def wayV (a b : V2) : V2 := ⟨b.x - a.x, b.y - a.y⟩
def dotV (a b : V2) : Rat := a.x * b.x + a.y * b.y
def crossV (a b : V2) : Rat := a.x * b.y - a.y * b.x
def toSeg (a b p : V2) : Rat :=
  if dotV (wayV a b) (wayV a p) ≤ 0 then dotV (wayV a p) (wayV a p)
  else if dotV (wayV a b) (wayV a b) ≤ dotV (wayV a b) (wayV a p) then dotV (wayV b p) (wayV b p)
  else crossV (wayV a b) (wayV a p) * crossV (wayV a b) (wayV a p) / dotV (wayV a b) (wayV a b)
def sgR (x : Rat) : Int := sgn x.num
def crossB (a b c d : V2) : Bool :=
  decide (sgR (crossV (wayV a b) (wayV a c)) * sgR (crossV (wayV a b) (wayV a d)) < 0) &&
  decide (sgR (crossV (wayV c d) (wayV c a)) * sgR (crossV (wayV c d) (wayV c b)) < 0)
def mn (x a : Rat) : Rat := if x < a then x else a
def segs (a b c d : V2) : Rat :=
  bif crossB a b c d then 0 else mn (toSeg c d b) (mn (toSeg c d a) (mn (toSeg a b d) (toSeg a b c)))

/- sizes -/
def Sz (k : Nat) (r : Rat) : Prop := r.num.natAbs ≤ 10 ^ k ∧ r.den ≤ 10 ^ k
theorem Sz.mono {k m : Nat} {r : Rat} (h : Sz k r) (hk : k ≤ m) : Sz m r :=
  ⟨Nat.le_trans h.1 (Nat.pow_le_pow_right (by omega) hk), Nat.le_trans h.2 (Nat.pow_le_pow_right (by omega) hk)⟩
theorem ten_half : 10 ^ 250 < halfN := by decide
theorem Sz.sr {k : Nat} {r : Rat} (h : Sz k r) (hk : k ≤ 250) : Sr r := by
  have h2 := h.mono hk
  refine ⟨Nat.lt_of_le_of_lt h2.1 ten_half, Nat.lt_of_le_of_lt ?_ ten_half⟩
  rw [Int.natAbs_natCast]; exact h2.2
theorem Sz.divInt {n d : Int} {k : Nat} (hd : 0 < d) (h1 : n.natAbs ≤ 10 ^ k) (h2 : d.natAbs ≤ 10 ^ k) : Sz k (Rat.divInt n d) := by
  obtain ⟨e1, e2⟩ := divInt_nd (n := n) hd
  constructor
  · rw [e1]; exact Nat.le_trans (Int.natAbs_ediv_le_natAbs _ _) h1
  · have : ((Rat.divInt n d).den : Int).natAbs ≤ d.natAbs := by rw [e2]; exact Int.natAbs_ediv_le_natAbs _ _
    rw [Int.natAbs_natCast] at this
    exact Nat.le_trans this h2
theorem Sz.neg {k : Nat} {r : Rat} (h : Sz k r) : Sz k (-r) := by
  refine ⟨?_, h.2⟩
  rw [Rat.neg_num, Int.natAbs_neg]; exact h.1
theorem Sz.mul {k : Nat} {x y : Rat} (hx : Sz k x) (hy : Sz k y) : Sz (2 * k) (x * y) := by
  have e : x * y = Rat.divInt (x.num * y.num) (x.den * y.den) := by
    rw [← Rat.divInt_mul_divInt, Rat.num_divInt_den, Rat.num_divInt_den]
  have px := den_pos x
  have py := den_pos y
  rw [e, Nat.two_mul]
  refine Sz.divInt (Int.mul_pos px py) ?_ ?_
  · rw [Int.natAbs_mul, Nat.pow_add]; exact Nat.mul_le_mul hx.1 hy.1
  · rw [Int.natAbs_mul, Nat.pow_add, Int.natAbs_natCast, Int.natAbs_natCast]; exact Nat.mul_le_mul hx.2 hy.2
theorem Sz.add {k : Nat} {x y : Rat} (hx : Sz k x) (hy : Sz k y) : Sz (2 * k + 1) (x + y) := by
  have px := den_pos x
  have py := den_pos y
  have e0 : x + y = Rat.divInt (x.num * y.den + y.num * x.den) (x.den * y.den) := by
    rw [← Rat.divInt_add_divInt _ _ (by omega) (by omega), Rat.num_divInt_den, Rat.num_divInt_den]
  rw [e0]
  have hp : 10 ^ (2 * k + 1) = 10 * (10 ^ k * 10 ^ k) := by rw [Nat.pow_succ, Nat.two_mul, Nat.pow_add, Nat.mul_comm]
  have a1 : (x.num * y.den).natAbs ≤ 10 ^ k * 10 ^ k := by rw [Int.natAbs_mul, Int.natAbs_natCast]; exact Nat.mul_le_mul hx.1 hy.2
  have a2 : (y.num * x.den).natAbs ≤ 10 ^ k * 10 ^ k := by rw [Int.natAbs_mul, Int.natAbs_natCast]; exact Nat.mul_le_mul hy.1 hx.2
  have a3 : ((x.den : Int) * y.den).natAbs ≤ 10 ^ k * 10 ^ k := by rw [Int.natAbs_mul, Int.natAbs_natCast, Int.natAbs_natCast]; exact Nat.mul_le_mul hx.2 hy.2
  refine Sz.divInt (Int.mul_pos px py) ?_ ?_
  · rw [hp]; generalize 10 ^ k * 10 ^ k = T at *
    have := Int.natAbs_add_le (x.num * y.den) (y.num * x.den)
    omega
  · rw [hp]; generalize 10 ^ k * 10 ^ k = T at *
    omega
theorem Sz.sub {k : Nat} {x y : Rat} (hx : Sz k x) (hy : Sz k y) : Sz (2 * k + 1) (x - y) := by
  rw [Rat.sub_eq_add_neg]; exact hx.add hy.neg
theorem num_pos {y : Rat} (h : 0 < y) : 0 < y.num := by
  have h1 : 0 ≤ y.num := Rat.num_nonneg.2 (Rat.le_of_lt h)
  have h2 : y.num ≠ 0 := fun h0 => by rw [Rat.num_eq_zero.1 h0] at h; exact Rat.lt_irrefl h
  omega
theorem Sz.div {j k : Nat} {x y : Rat} (hx : Sz j x) (hy : Sz k y) (h : 0 < y) : Sz (j + k) (x / y) := by
  have px := den_pos x
  have py : 0 < y.num := num_pos h
  have e : x / y = Rat.divInt (x.num * y.den) (x.den * y.num) := by
    rw [Rat.div_def, ← Rat.divInt_mul_divInt, Rat.num_divInt_den, ← Rat.inv_divInt, Rat.num_divInt_den]
  rw [e]
  refine Sz.divInt (Int.mul_pos px py) ?_ ?_
  · rw [Int.natAbs_mul, Nat.pow_add, Int.natAbs_natCast]; exact Nat.mul_le_mul hx.1 hy.2
  · rw [Int.natAbs_mul, Nat.pow_add, Int.natAbs_natCast]; exact Nat.mul_le_mul hx.2 hy.1
theorem Sz.int {n : Int} {k : Nat} (h : n.natAbs ≤ 10 ^ k) : Sz k (n : Rat) := by
  refine ⟨by rw [Rat.num_intCast]; exact h, by rw [Rat.den_intCast]; exact Nat.pow_pos (by omega)⟩

def Sv (k : Nat) (v : V2) : Prop := Sz k v.x ∧ Sz k v.y
theorem Sv.way {k : Nat} {a b : V2} (ha : Sv k a) (hb : Sv k b) : Sv (2 * k + 1) (wayV a b) := ⟨hb.1.sub ha.1, hb.2.sub ha.2⟩
theorem Sv.dot {k : Nat} {a b : V2} (ha : Sv k a) (hb : Sv k b) : Sz (2 * (2 * k) + 1) (dotV a b) := (ha.1.mul hb.1).add (ha.2.mul hb.2)
theorem Sv.cross {k : Nat} {a b : V2} (ha : Sv k a) (hb : Sv k b) : Sz (2 * (2 * k) + 1) (crossV a b) := (ha.1.mul hb.2).sub (ha.2.mul hb.1)

theorem sq_nonneg (x : Rat) : 0 ≤ x * x := by
  rcases Rat.le_total (a := 0) (b := x) with h | h
  · exact Rat.mul_nonneg h h
  · have h2 : 0 ≤ -x := by grind
    have := Rat.mul_nonneg h2 h2
    grind
theorem dot_nonneg (a : V2) : 0 ≤ dotV a a := by
  have h1 := sq_nonneg a.x
  have h2 := sq_nonneg a.y
  unfold dotV; grind
theorem Sz.toSeg {a b p : V2} (ha : Sv 8 a) (hb : Sv 8 b) (hp : Sv 8 p) : Sz 207 (toSeg a b p) := by
  unfold Eng.toSeg
  split
  · exact ((ha.way hp).dot (ha.way hp)).mono (by omega)
  · split
    · exact ((hb.way hp).dot (hb.way hp)).mono (by omega)
    · rename_i h1 h2
      have hc := (ha.way hb).cross (ha.way hp)
      have hn := (ha.way hb).dot (ha.way hb)
      exact ((hc.mul hc).div hn (by grind)).mono (by omega)
theorem Sz.mn {k : Nat} {x y : Rat} (hx : Sz k x) (hy : Sz k y) : Sz k (mn x y) := by
  unfold Eng.mn; split
  · exact hx
  · exact hy
theorem Sz.segs {a b c d : V2} (ha : Sv 8 a) (hb : Sv 8 b) (hc : Sv 8 c) (hd : Sv 8 d) : Sz 207 (segs a b c d) := by
  unfold Eng.segs
  cases crossB a b c d
  · exact (Sz.toSeg hc hd hb).mn ((Sz.toSeg hc hd ha).mn ((Sz.toSeg ha hb hd).mn (Sz.toSeg ha hb hc)))
  · exact Sz.int (n := 0) (by decide)
end Eng
end

section
/- The contracts of distances (the program's and the reference's). -/
namespace Eng
open Go Go.Proofs
set_option maxRecDepth 100000

theorem encV_cells (v : V2) : encV v = .ag [.bool (decide (v.x.num < 0)), .sl (raw (lim v.x.num.natAbs)), .bool (decide ((v.x.den : Int) < 0)), .sl (raw (lim (v.x.den : Int).natAbs)),
  .bool (decide (v.y.num < 0)), .sl (raw (lim v.y.num.natAbs)), .bool (decide ((v.y.den : Int) < 0)), .sl (raw (lim (v.y.den : Int).natAbs))] := rfl

theorem sgR_pos {x : Rat} : (sgR x ≤ 0) ↔ x ≤ 0 := by
  have h0 : x.num = 0 ↔ x = 0 := Rat.num_eq_zero
  have h1 : 0 ≤ x.num ↔ 0 ≤ x := Rat.num_nonneg
  have h2 : sgR x ≤ 0 ↔ x.num ≤ 0 := by
    unfold sgR sgn
    split
    · omega
    · split <;> omega
  rw [h2]
  constructor
  · intro h
    rcases Int.lt_or_eq_of_le h with h3 | h3
    · have : ¬ 0 ≤ x := fun h4 => by have := h1.2 h4; omega
      grind
    · rw [h0.1 h3]; exact Rat.le_refl
  · intro h
    rcases Int.le_total x.num 0 with h3 | h3
    · exact h3
    · have := h1.1 h3
      have : x = 0 := by grind
      rw [h0.2 this]; omega
theorem cmpR_ge {x y : Rat} : (cmpR x y ≥ 0) ↔ y ≤ x := by
  unfold cmpR
  split
  · constructor
    · intro h; omega
    · intro h; grind
  · split
    · constructor
      · intro _; grind
      · intro _; omega
    · constructor
      · intro _; grind
      · intro _; omega
theorem cmpR_lt {x y : Rat} : (cmpR x y < 0) ↔ x < y := by
  have := cmpR_ge (x := x) (y := y)
  constructor
  · intro h; have h2 : ¬ y ≤ x := fun h3 => by have := this.2 h3; omega
    grind
  · intro h
    have h2 : ¬ y ≤ x := by grind
    have : ¬ cmpR x y ≥ 0 := fun h3 => h2 (this.1 h3)
    omega
theorem sgR_mul {x y : Rat} : IntKind.wrap .i64 (sgR x * sgR y) = sgR x * sgR y := by
  have h : ∀ z : Rat, -1 ≤ sgR z ∧ sgR z ≤ 1 := by
    intro z; unfold sgR sgn
    split
    · omega
    · split <;> omega
  have h1 := h x
  have h2 := h y
  have : sgR x = -1 ∨ sgR x = 0 ∨ sgR x = 1 := by omega
  apply i64w
  · rcases this with e | e | e <;> rw [e] <;> omega
  · rcases this with e | e | e <;> rw [e] <;> omega

section prog
theorem dadd_ok {x y : Rat} (hx : Sr x) (hy : Sr y) : Gives CC 161 [encR x, encR y] [encR (x + y)] := by
  refine wpF_ok (anns := fun _ => ⟨[], [], fun _ _ => True, fun _ => 0⟩) mixedT Tryz.func161 ?_
  rw [encR_cells, encR_cells, vc_dadd]
  exact ⟨_, _, _, _, rAdd_ok divOk hx hy, rfl⟩
theorem dsub_ok {x y : Rat} (hx : Sr x) (hy : Sr y) : Gives CC 160 [encR x, encR y] [encR (x - y)] := by
  refine wpF_ok (anns := fun _ => ⟨[], [], fun _ _ => True, fun _ => 0⟩) mixedT Tryz.func160 ?_
  rw [encR_cells, encR_cells, vc_dsub]
  exact ⟨_, _, _, _, rSub_ok divOk hx hy, rfl⟩
theorem dmul_ok {x y : Rat} (hx : Sr x) (hy : Sr y) : Gives CC 119 [encR x, encR y] [encR (x * y)] := by
  refine wpF_ok (anns := fun _ => ⟨[], [], fun _ _ => True, fun _ => 0⟩) mixedT Tryz.func119 ?_
  rw [encR_cells, encR_cells, vc_dmul]
  exact ⟨_, _, _, _, rMul_ok divOk hx hy, rfl⟩
theorem dover_ok {x y : Rat} (hx : Sr x) (hy : Sr y) (hy0 : y ≠ 0) : Gives CC 118 [encR x, encR y] [encR (x / y)] := by
  refine wpF_ok (anns := fun _ => ⟨[], [], fun _ _ => True, fun _ => 0⟩) mixedT Tryz.func118 ?_
  have hm := rDiv_ok divOk hx hy
  rw [if_neg hy0] at hm
  rw [encR_cells, encR_cells, vc_dover]
  exact ⟨_, _, _, _, _, hm, brb (fun h => by simp at h) (fun _ => rfl)⟩
theorem dway_ok {k : Nat} {a b : V2} (ha : Sv k a) (hb : Sv k b) (hk : k ≤ 250) : Gives CC 115 [encV a, encV b] [encV (wayV a b)] := by
  refine wpF_ok (anns := fun _ => ⟨[], [], fun _ _ => True, fun _ => 0⟩) mixedT Tryz.func115 ?_
  rw [encV_cells, encV_cells, vc_dway]
  exact ⟨_, _, _, _, dsub_ok (hb.1.sr hk) (ha.1.sr hk), _, _, _, _, dsub_ok (hb.2.sr hk) (ha.2.sr hk), rfl⟩
theorem ddot_ok {k : Nat} {a b : V2} (ha : Sv k a) (hb : Sv k b) (hk : k ≤ 100) : Gives CC 117 [encV a, encV b] [encR (dotV a b)] := by
  refine wpF_ok (anns := fun _ => ⟨[], [], fun _ _ => True, fun _ => 0⟩) mixedT Tryz.func117 ?_
  rw [encV_cells, encV_cells, vc_ddot]
  exact ⟨_, _, _, _, dmul_ok (ha.1.sr (by omega)) (hb.1.sr (by omega)), _, _, _, _, dmul_ok (ha.2.sr (by omega)) (hb.2.sr (by omega)), _, _, _, _, dadd_ok ((ha.1.mul hb.1).sr (by omega)) ((ha.2.mul hb.2).sr (by omega)), rfl⟩
theorem dcross_ok {k : Nat} {a b : V2} (ha : Sv k a) (hb : Sv k b) (hk : k ≤ 100) : Gives CC 116 [encV a, encV b] [encR (crossV a b)] := by
  refine wpF_ok (anns := fun _ => ⟨[], [], fun _ _ => True, fun _ => 0⟩) mixedT Tryz.func116 ?_
  rw [encV_cells, encV_cells, vc_dcross]
  exact ⟨_, _, _, _, dmul_ok (ha.1.sr (by omega)) (hb.2.sr (by omega)), _, _, _, _, dmul_ok (ha.2.sr (by omega)) (hb.1.sr (by omega)), _, _, _, _, dsub_ok ((ha.1.mul hb.2).sr (by omega)) ((ha.2.mul hb.1).sr (by omega)), rfl⟩
theorem dto_ok {a b p : V2} (ha : Sv 8 a) (hb : Sv 8 b) (hp : Sv 8 p) : Gives CC 73 [encV a, encV b, encV p] [encR (toSeg a b p)] := by
  refine wpF_ok (anns := fun _ => ⟨[], [], fun _ _ => True, fun _ => 0⟩) mixedT Tryz.func73 ?_
  rw [encV_cells a, encV_cells b, encV_cells p, vc_dto]
  have hab := ha.way hb
  have hap := ha.way hp
  have hbp := hb.way hp
  refine ⟨_, _, _, _, _, _, _, _, dway_ok ha hb (by omega), _, _, _, _, _, _, _, _, dway_ok ha hp (by omega), _, _, _, _, ddot_ok hab hab (by omega), _, _, _, _, ddot_ok hab hap (by omega), _, rSign_ok _, ?_⟩
  refine brd (fun h => ?_) (fun h => ?_)
  · have h1 := sgR_pos.1 h
    refine ⟨_, _, _, _, ddot_ok hap hap (by omega), ?_⟩
    unfold toSeg; rw [if_pos h1]; rfl
  · have h1 : ¬ dotV (wayV a b) (wayV a p) ≤ 0 := fun h2 => h (sgR_pos.2 h2)
    refine ⟨_, rCmp_ok ((hab.dot hap).sr (by omega)) ((hab.dot hab).sr (by omega)), ?_⟩
    refine brd (fun h => ?_) (fun h => ?_)
    · have h2 := cmpR_ge.1 h
      refine ⟨_, _, _, _, _, _, _, _, dway_ok hb hp (by omega), _, _, _, _, ddot_ok hbp hbp (by omega), ?_⟩
      unfold toSeg; rw [if_neg h1, if_pos h2]; rfl
    · have h2 : ¬ dotV (wayV a b) (wayV a b) ≤ dotV (wayV a b) (wayV a p) := fun h3 => h (cmpR_ge.2 h3)
      have hc := hab.cross hap
      refine ⟨_, _, _, _, dcross_ok hab hap (by omega), _, _, _, _, dmul_ok (hc.sr (by omega)) (hc.sr (by omega)), _, _, _, _, dover_ok ((hc.mul hc).sr (by omega)) ((hab.dot hab).sr (by omega)) (by grind), ?_⟩
      unfold toSeg; rw [if_neg h1, if_neg h2]; rfl
theorem dcrossing_ok {a b c d : V2} (ha : Sv 8 a) (hb : Sv 8 b) (hc : Sv 8 c) (hd : Sv 8 d) : Gives CC 72 [encV a, encV b, encV c, encV d] [.c (.bool (crossB a b c d))] := by
  refine wpF_ok (anns := fun _ => ⟨[], [], fun _ _ => True, fun _ => 0⟩) mixedT Tryz.func72 ?_
  rw [encV_cells a, encV_cells b, encV_cells c, encV_cells d, vc_dcrossing]
  have hab := ha.way hb
  have hac := ha.way hc
  have had := ha.way hd
  have hcd := hc.way hd
  have hca := hc.way ha
  have hcb := hc.way hb
  refine ⟨_, _, _, _, _, _, _, _, dway_ok ha hb (by omega), _, _, _, _, _, _, _, _, dway_ok hc hd (by omega), _, _, _, _, _, _, _, _, dway_ok ha hc (by omega), _, _, _, _, dcross_ok hab hac (by omega), _, rSign_ok _,
    _, _, _, _, _, _, _, _, dway_ok ha hd (by omega), _, _, _, _, dcross_ok hab had (by omega), _, rSign_ok _, ?_⟩
  refine brd (fun h => ?_) (fun h => ?_)
  · refine ⟨_, _, _, _, _, _, _, _, dway_ok hc ha (by omega), _, _, _, _, dcross_ok hcd hca (by omega), _, rSign_ok _, _, _, _, _, _, _, _, _, dway_ok hc hb (by omega), _, _, _, _, dcross_ok hcd hcb (by omega), _, rSign_ok _, ?_⟩
    have h1 := h
    change IntKind.wrap .i64 (sgR _ * sgR _) < 0 at h1
    rw [sgR_mul] at h1
    have h2 := sgR_mul (x := crossV (wayV c d) (wayV c a)) (y := crossV (wayV c d) (wayV c b))
    show [A.c (D.bool (decide (IntKind.wrap .i64 (sgR (crossV (wayV c d) (wayV c a)) * sgR (crossV (wayV c d) (wayV c b))) < 0)))] = _
    rw [h2]
    unfold crossB
    rw [decide_eq_true h1, Bool.true_and]
  · have h1 := h
    change ¬ IntKind.wrap .i64 (sgR _ * sgR _) < 0 at h1
    rw [sgR_mul] at h1
    unfold crossB
    rw [decide_eq_false h1, Bool.false_and]
def mn3 (t0 t1 t2 t3 : Rat) : Nat → Rat
  | 0 => t0
  | 1 => mn t1 t0
  | 2 => mn t2 (mn t1 t0)
  | _ => mn t3 (mn t2 (mn t1 t0))
def nth3 (t1 t2 t3 : Rat) : Nat → Rat
  | 0 => t1
  | 1 => t2
  | _ => t3
theorem mn3_succ {t0 t1 t2 t3 : Rat} : ∀ {i : Nat}, i < 3 → mn3 t0 t1 t2 t3 (i + 1) = mn (nth3 t1 t2 t3 i) (mn3 t0 t1 t2 t3 i)
  | 0, _ => rfl
  | 1, _ => rfl
  | 2, _ => rfl
theorem nth3_cR {t1 t2 t3 : Rat} : ∀ {i : Nat}, i < 3 → nth [] [cR t1, cR t2, cR t3] i = cR (nth3 t1 t2 t3 i)
  | 0, _ => rfl
  | 1, _ => rfl
  | 2, _ => rfl
theorem cut_cR {r : Rat} : cut (cR r) 0 4 (cR r) := ⟨rfl, Nat.le_refl 4⟩
theorem Sz.mn3 {k : Nat} {t0 t1 t2 t3 : Rat} (h0 : Sz k t0) (h1 : Sz k t1) (h2 : Sz k t2) (h3 : Sz k t3) : ∀ i, Sz k (mn3 t0 t1 t2 t3 i)
  | 0 => h0
  | 1 => h1.mn h0
  | 2 => h2.mn (h1.mn h0)
  | _ + 3 => h3.mn (h2.mn (h1.mn h0))
theorem Sz.nth3 {k : Nat} {t1 t2 t3 : Rat} (h1 : Sz k t1) (h2 : Sz k t2) (h3 : Sz k t3) : ∀ i, Sz k (nth3 t1 t2 t3 i)
  | 0 => h1
  | 1 => h2
  | _ + 2 => h3
theorem cR_inj {n m : Int} {x y : List D} (h : D.int .i64 n :: x = D.int .i64 m :: y) : n = m ∧ x = y := by
  simp at h; exact h
def segInv (t0 t1 t2 t3 : Rat) : List D → Prop := fun ds => ∃ i : Nat, i ≤ 3 ∧ ds = .int .i64 (i : Int) :: cR (mn3 t0 t1 t2 t3 i)
theorem dSegments_ok {a b c d : V2} (ha : Sv 8 a) (hb : Sv 8 b) (hc : Sv 8 c) (hd : Sv 8 d) : Gives CC 46 [encV a, encV b, encV c, encV d] [encR (segs a b c d)] := by
  refine wpF_ok (anns := fun _ => ⟨[.slot 36 (.int .i64 0), .box 9 [.bool false, .slice none 0 0, .bool false, .slice none 0 0]], [], fun _ ds => segInv (toSeg a b c) (toSeg a b d) (toSeg c d a) (toSeg c d b) ds, fun ds => (3 - toI (nth .undef ds 0)).toNat⟩) mixedT Tryz.func46 ?_
  rw [encV_cells a, encV_cells b, encV_cells c, encV_cells d, vc_dSegments]
  have z0 := Sz.toSeg ha hb hc
  have z1 := Sz.toSeg ha hb hd
  have z2 := Sz.toSeg hc hd ha
  have z3 := Sz.toSeg hc hd hb
  refine ⟨_, dcrossing_ok ha hb hc hd, brb' (fun h => ?_) (fun h => ?_)⟩
  · refine ⟨_, _, _, _, rFromInt64_ok (by omega) (by omega), ?_⟩
    unfold segs; rw [h]; rfl
  · refine ⟨_, _, _, _, dto_ok ha hb hc, _, _, _, _, dto_ok ha hb hd, _, _, _, _, dto_ok hc hd ha, _, _, _, _, dto_ok hc hd hb, ⟨0, by omega, rfl⟩, ?_⟩
    rintro n p es q fs ⟨i, hi, he0⟩
    obtain ⟨rfl, he⟩ := cR_inj he0
    clear he0
    refine brd (fun h9 => ?_) (fun h9 => ?_)
    · have hi3 : i < 3 := by omega
      have hw : IntKind.wrap .i64 ((i : Int) + 1) = ((i + 1 : Nat) : Int) := by rw [i64w (by omega) (by omega)]; rfl
      have hcut : cut (nth [] [cR (toSeg a b d), cR (toSeg c d a), cR (toSeg c d b)] (i : Int).toNat) 0 4 (cR (nth3 (toSeg a b d) (toSeg c d a) (toSeg c d b) i)) := by
        rw [Int.toNat_natCast, nth3_cR hi3]; exact cut_cR
      have hcmp := rCmp_ok ((Sz.nth3 z1 z2 z3 i).sr (by omega)) ((Sz.mn3 z0 z1 z2 z3 i).sr (by omega))
      refine ⟨⟨by omega, by omega⟩, _, _, _, _, hcut, ?_⟩
      rw [show (A.ag [D.bool p, D.sl es, D.bool q, D.sl fs]) = encR (mn3 (toSeg a b c) (toSeg a b d) (toSeg c d a) (toSeg c d b) i) from congrArg A.ag he]
      refine ⟨_, hcmp, ?_⟩
      rw [hw]
      refine brd (fun h2 => ?_) (fun h2 => ?_)
      · refine ⟨⟨i + 1, by omega, ?_⟩, by simp only [nth, toI]; omega⟩
        rw [mn3_succ hi3, mn, if_pos (cmpR_lt.1 h2)]; rfl
      · refine ⟨⟨i + 1, by omega, ?_⟩, by simp only [nth, toI]; omega⟩
        rw [mn3_succ hi3, mn, if_neg (fun h3 => h2 (cmpR_lt.2 h3)), he]
    · have : i = 3 := by omega
      subst this
      unfold segs; rw [h, cond_false]
      show [A.ag [D.bool p, D.sl es, D.bool q, D.sl fs]] = _
      rw [he]; rfl
end prog
end Eng
end

section
/- The contracts of distances: the reference's. -/
namespace Eng
open Go Go.Proofs
set_option maxRecDepth 100000

section refr
theorem eadd_ok (hp : PartsOk) {x y : Rat} (hx : Sr x) (hy : Sr y) : Gives CC 164 [encR x, encR y] [encR (x + y)] := by
  refine wpF_ok (anns := fun _ => ⟨[], [], fun _ _ => True, fun _ => 0⟩) mixedT Tryz.func164 ?_
  rw [encR_cells, encR_cells, vc_eadd]
  exact ⟨_, _, _, _, uAdd_ok hp hx hy, rfl⟩
theorem esub_ok (hp : PartsOk) {x y : Rat} (hx : Sr x) (hy : Sr y) : Gives CC 163 [encR x, encR y] [encR (x - y)] := by
  refine wpF_ok (anns := fun _ => ⟨[], [], fun _ _ => True, fun _ => 0⟩) mixedT Tryz.func163 ?_
  rw [encR_cells, encR_cells, vc_esub]
  exact ⟨_, _, _, _, uSub_ok hp hx hy, rfl⟩
theorem emul_ok (hp : PartsOk) {x y : Rat} (hx : Sr x) (hy : Sr y) : Gives CC 126 [encR x, encR y] [encR (x * y)] := by
  refine wpF_ok (anns := fun _ => ⟨[], [], fun _ _ => True, fun _ => 0⟩) mixedT Tryz.func126 ?_
  rw [encR_cells, encR_cells, vc_emul]
  exact ⟨_, _, _, _, uMul_ok hp hx hy, rfl⟩
theorem eWay_ok (hp : PartsOk) {k : Nat} {a b : V2} (ha : Sv k a) (hb : Sv k b) (hk : k ≤ 250) : Gives CC 123 [encV a, encV b] [encV (wayV a b)] := by
  refine wpF_ok (anns := fun _ => ⟨[], [], fun _ _ => True, fun _ => 0⟩) mixedT Tryz.func123 ?_
  rw [encV_cells, encV_cells, vc_eWay]
  exact ⟨_, _, _, _, esub_ok hp (hb.1.sr hk) (ha.1.sr hk), _, _, _, _, esub_ok hp (hb.2.sr hk) (ha.2.sr hk), rfl⟩
theorem eDot_ok (hp : PartsOk) {k : Nat} {a b : V2} (ha : Sv k a) (hb : Sv k b) (hk : k ≤ 100) : Gives CC 124 [encV a, encV b] [encR (dotV a b)] := by
  refine wpF_ok (anns := fun _ => ⟨[], [], fun _ _ => True, fun _ => 0⟩) mixedT Tryz.func124 ?_
  rw [encV_cells, encV_cells, vc_eDot]
  exact ⟨_, _, _, _, emul_ok hp (ha.1.sr (by omega)) (hb.1.sr (by omega)), _, _, _, _, emul_ok hp (ha.2.sr (by omega)) (hb.2.sr (by omega)), _, _, _, _, eadd_ok hp ((ha.1.mul hb.1).sr (by omega)) ((ha.2.mul hb.2).sr (by omega)), rfl⟩
theorem eCross_ok (hp : PartsOk) {k : Nat} {a b : V2} (ha : Sv k a) (hb : Sv k b) (hk : k ≤ 100) : Gives CC 122 [encV a, encV b] [encR (crossV a b)] := by
  refine wpF_ok (anns := fun _ => ⟨[], [], fun _ _ => True, fun _ => 0⟩) mixedT Tryz.func122 ?_
  rw [encV_cells, encV_cells, vc_eCross]
  exact ⟨_, _, _, _, emul_ok hp (ha.1.sr (by omega)) (hb.2.sr (by omega)), _, _, _, _, emul_ok hp (ha.2.sr (by omega)) (hb.1.sr (by omega)), _, _, _, _, esub_ok hp ((ha.1.mul hb.2).sr (by omega)) ((ha.2.mul hb.1).sr (by omega)), rfl⟩
theorem eto_ok (hp : PartsOk) {a b p : V2} (ha : Sv 8 a) (hb : Sv 8 b) (hpp : Sv 8 p) : Gives CC 78 [encV a, encV b, encV p] [encR (toSeg a b p)] := by
  refine wpF_ok (anns := fun _ => ⟨[], [], fun _ _ => True, fun _ => 0⟩) mixedT Tryz.func78 ?_
  rw [encV_cells a, encV_cells b, encV_cells p, vc_eto]
  have hab := ha.way hb
  have hap := ha.way hpp
  have hbp := hb.way hpp
  refine ⟨_, _, _, _, _, _, _, _, eWay_ok hp ha hb (by omega), _, _, _, _, _, _, _, _, eWay_ok hp ha hpp (by omega), _, _, _, _, eDot_ok hp hab hab (by omega), _, _, _, _, eDot_ok hp hab hap (by omega), _, uSign_ok _, ?_⟩
  refine brd (fun h => ?_) (fun h => ?_)
  · have h1 := sgR_pos.1 h
    refine ⟨_, _, _, _, eDot_ok hp hap hap (by omega), ?_⟩
    unfold toSeg; rw [if_pos h1]; rfl
  · have h1 : ¬ dotV (wayV a b) (wayV a p) ≤ 0 := fun h2 => h (sgR_pos.2 h2)
    refine ⟨_, uCmp_ok ((hab.dot hap).sr (by omega)) ((hab.dot hab).sr (by omega)), ?_⟩
    refine brd (fun h => ?_) (fun h => ?_)
    · have h2 := cmpR_ge.1 h
      refine ⟨_, _, _, _, _, _, _, _, eWay_ok hp hb hpp (by omega), _, _, _, _, eDot_ok hp hbp hbp (by omega), ?_⟩
      unfold toSeg; rw [if_neg h1, if_pos h2]; rfl
    · have h2 : ¬ dotV (wayV a b) (wayV a b) ≤ dotV (wayV a b) (wayV a p) := fun h3 => h (cmpR_ge.2 h3)
      have hc := hab.cross hap
      refine ⟨_, _, _, _, eCross_ok hp hab hap (by omega), _, _, _, _, emul_ok hp (hc.sr (by omega)) (hc.sr (by omega)), _, _, _, _, uOver_ok hp ((hc.mul hc).sr (by omega)) ((hab.dot hab).sr (by omega)) (by grind), ?_⟩
      unfold toSeg; rw [if_neg h1, if_neg h2]; rfl
theorem ecross_ok (hp : PartsOk) {a b c d : V2} (ha : Sv 8 a) (hb : Sv 8 b) (hc : Sv 8 c) (hd : Sv 8 d) : Gives CC 77 [encV a, encV b, encV c, encV d] [.c (.bool (crossB a b c d))] := by
  refine wpF_ok (anns := fun _ => ⟨[], [], fun _ _ => True, fun _ => 0⟩) mixedT Tryz.func77 ?_
  rw [encV_cells a, encV_cells b, encV_cells c, encV_cells d, vc_ecross]
  have hab := ha.way hb
  have hac := ha.way hc
  have had := ha.way hd
  have hcd := hc.way hd
  have hca := hc.way ha
  have hcb := hc.way hb
  refine ⟨_, _, _, _, _, _, _, _, eWay_ok hp ha hb (by omega), _, _, _, _, _, _, _, _, eWay_ok hp ha hc (by omega), _, _, _, _, eCross_ok hp hab hac (by omega), _, uSign_ok _,
    _, _, _, _, _, _, _, _, eWay_ok hp ha hb (by omega), _, _, _, _, _, _, _, _, eWay_ok hp ha hd (by omega), _, _, _, _, eCross_ok hp hab had (by omega), _, uSign_ok _,
    _, _, _, _, _, _, _, _, eWay_ok hp hc hd (by omega), _, _, _, _, _, _, _, _, eWay_ok hp hc ha (by omega), _, _, _, _, eCross_ok hp hcd hca (by omega), _, uSign_ok _,
    _, _, _, _, _, _, _, _, eWay_ok hp hc hd (by omega), _, _, _, _, _, _, _, _, eWay_ok hp hc hb (by omega), _, _, _, _, eCross_ok hp hcd hcb (by omega), _, uSign_ok _, ?_⟩
  refine brd (fun h => ?_) (fun h => ?_)
  · have h1 := h
    change IntKind.wrap .i64 (sgR _ * sgR _) < 0 at h1
    rw [sgR_mul] at h1
    have h2 := sgR_mul (x := crossV (wayV c d) (wayV c a)) (y := crossV (wayV c d) (wayV c b))
    show [A.c (D.bool (decide (IntKind.wrap .i64 (sgR (crossV (wayV c d) (wayV c a)) * sgR (crossV (wayV c d) (wayV c b))) < 0)))] = _
    rw [h2]
    unfold crossB
    rw [decide_eq_true h1, Bool.true_and]
  · have h1 := h
    change ¬ IntKind.wrap .i64 (sgR _ * sgR _) < 0 at h1
    rw [sgR_mul] at h1
    unfold crossB
    rw [decide_eq_false h1, Bool.false_and]
theorem eSegments_ok (hp : PartsOk) {a b c d : V2} (ha : Sv 8 a) (hb : Sv 8 b) (hc : Sv 8 c) (hd : Sv 8 d) : Gives CC 51 [encV a, encV b, encV c, encV d] [encR (segs a b c d)] := by
  refine wpF_ok (anns := fun _ => ⟨[.slot 11 (.int .i64 0), .box 9 [.bool false, .slice none 0 0, .bool false, .slice none 0 0]], [], fun _ ds => segInv (toSeg a b c) (toSeg a b d) (toSeg c d a) (toSeg c d b) ds, fun ds => (3 - toI (nth .undef ds 0)).toNat⟩) mixedT Tryz.func51 ?_
  rw [encV_cells a, encV_cells b, encV_cells c, encV_cells d, vc_eSegments]
  have z0 := Sz.toSeg ha hb hc
  have z1 := Sz.toSeg ha hb hd
  have z2 := Sz.toSeg hc hd ha
  have z3 := Sz.toSeg hc hd hb
  refine ⟨_, ecross_ok hp ha hb hc hd, brb' (fun h => ?_) (fun h => ?_)⟩
  · refine ⟨_, _, _, _, uFromInt64_ok (by omega) (by omega), ?_⟩
    unfold segs; rw [h]; rfl
  · refine ⟨_, _, _, _, eto_ok hp ha hb hc, _, _, _, _, eto_ok hp ha hb hd, _, _, _, _, eto_ok hp hc hd ha, _, _, _, _, eto_ok hp hc hd hb, ⟨0, by omega, rfl⟩, ?_⟩
    rintro n p es q fs ⟨i, hi, he0⟩
    obtain ⟨rfl, he⟩ := cR_inj he0
    clear he0
    refine brd (fun h9 => ?_) (fun h9 => ?_)
    · have hi3 : i < 3 := by omega
      have hw : IntKind.wrap .i64 ((i : Int) + 1) = ((i + 1 : Nat) : Int) := by rw [i64w (by omega) (by omega)]; rfl
      have hcut : cut (nth [] [cR (toSeg a b d), cR (toSeg c d a), cR (toSeg c d b)] (i : Int).toNat) 0 4 (cR (nth3 (toSeg a b d) (toSeg c d a) (toSeg c d b) i)) := by
        rw [Int.toNat_natCast, nth3_cR hi3]; exact cut_cR
      have hcmp := uCmp_ok ((Sz.nth3 z1 z2 z3 i).sr (by omega)) ((Sz.mn3 z0 z1 z2 z3 i).sr (by omega))
      refine ⟨⟨by omega, by omega⟩, _, _, _, _, hcut, ?_⟩
      rw [show (A.ag [D.bool p, D.sl es, D.bool q, D.sl fs]) = encR (mn3 (toSeg a b c) (toSeg a b d) (toSeg c d a) (toSeg c d b) i) from congrArg A.ag he]
      refine ⟨_, hcmp, ?_⟩
      rw [hw]
      refine brd (fun h2 => ?_) (fun h2 => ?_)
      · refine ⟨⟨by omega, by omega⟩, _, _, _, _, hcut, ⟨i + 1, by omega, ?_⟩, by simp only [nth, toI]; omega⟩
        rw [mn3_succ hi3, mn, if_pos (cmpR_lt.1 h2)]; rfl
      · refine ⟨⟨i + 1, by omega, ?_⟩, by simp only [nth, toI]; omega⟩
        rw [mn3_succ hi3, mn, if_neg (fun h3 => h2 (cmpR_lt.2 h3)), he]
    · have : i = 3 := by omega
      subst this
      unfold segs; rw [h, cond_false]
      show [A.ag [D.bool p, D.sl es, D.bool q, D.sl fs]] = _
      rw [he]; rfl
end refr
end Eng
end
