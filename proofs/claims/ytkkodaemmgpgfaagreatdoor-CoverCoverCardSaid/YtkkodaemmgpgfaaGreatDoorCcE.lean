/- The verification conditions of functions, printed by a program (vcgen.py) and checked by the kernel. -/
import Derived.Test.YtkkodaemmgpgfaaGreatDoorCqA
import Derived.Test.YtkkodaemmgpgfaaGreatDoorCcA
import Derived.KernelRfl
section
open Go Go.Proofs Eng
set_option maxRecDepth 1000000
namespace Eng
theorem vc_lCover (Gv : Nat → List A → List A → Prop) (I0 : List D → List D → Prop) (M0 : List D → Nat) (ck : Ck1) (mk : Mk1) (cd : Ck2) (md : Mk2) (p1 q1 p2 q2 p3 q3 p4 q4 : Bool) (l1 m1 l2 m2 l3 m3 l4 m4 : List (List D)) (es : List (List D)) (Q : List A → Prop) :
 wpF (CQx ck mk cd md) Gv (fun _ => ⟨[.slot 22 (.int .i64 0)], [], I0, M0⟩) Tryz.f4 [.ag [.bool p1, .sl l1, .bool q1, .sl m1, .bool p2, .sl l2, .bool q2, .sl m2, .bool p3, .sl l3, .bool q3, .sl m3, .bool p4, .sl l4, .bool q4, .sl m4], .c (.sl es)] Q = (
 ∃ b,
 Gv 9 [] [A.c (D.bool b)] ∧
 br (toB (D.bool !b)) (∃ b, Gv 9 [] [A.c (D.bool b)] ∧ Q [A.c (D.bool b)])
 (∃ b,
 Gv 10
 [A.ag
 [D.bool p1, D.sl l1, D.bool q1, D.sl m1, D.bool p2, D.sl l2, D.bool q2, D.sl m2, D.bool p3, D.sl l3, D.bool q3, D.sl m3, D.bool p4, D.sl l4,
 D.bool q4, D.sl m4],
 A.c (D.int .i64 (2 : Int))]
 [A.c (D.bool b)] ∧
 br (toB (D.bool !b)) (∃ b, Gv 9 [] [A.c (D.bool b)] ∧ Q [A.c (D.bool b)])
 (br (toB (D.bool (decide ((Int.ofNat (List.length es)) > (16 : Int))))) (∃ b, Gv 9 [] [A.c (D.bool b)] ∧ Q [A.c (D.bool b)])
 (I0 [] [D.int .i64 (0 : Int)] ∧
 ∀ (n : Int),
 I0 [] [D.int .i64 n] →
 br (toB (D.bool (decide (n < (Int.ofNat (List.length es))))))
 (((0 : Int) ≤ n ∧ n < (Int.ofNat (List.length es)) ∧ List.length (nth [] es (Int.toNat n)) = 16) ∧
 ∃ b es_1 b_1 es_2 b_2 es_3 b_3 es_4 b_4 es_5 b_5 es_6 b_6 es_7 b_7 es_8,
 cut (nth [] es (Int.toNat n)) 0 16
 [D.bool b, D.sl es_1, D.bool b_1, D.sl es_2, D.bool b_2, D.sl es_3, D.bool b_3, D.sl es_4, D.bool b_4, D.sl es_5, D.bool b_5,
 D.sl es_6, D.bool b_6, D.sl es_7, D.bool b_7, D.sl es_8] ∧
 ∃ b_8,
 Gv 10
 [A.ag
 [D.bool b, D.sl es_1, D.bool b_1, D.sl es_2, D.bool b_2, D.sl es_3, D.bool b_3, D.sl es_4, D.bool b_4, D.sl es_5,
 D.bool b_5, D.sl es_6, D.bool b_6, D.sl es_7, D.bool b_7, D.sl es_8],
 A.c (D.int .i64 (2 : Int))]
 [A.c (D.bool b_8)] ∧
 br (toB (D.bool !b_8)) (Q [A.c (D.bool true)])
 (I0 [] [D.int .i64 (IntKind.wrap .i64 (n + (1 : Int)))] ∧
 M0 [D.int .i64 (IntKind.wrap .i64 (n + (1 : Int)))] < M0 [D.int .i64 n]))
 (ck [A.c (D.sl es)] = true ∧
 ∃ b,
 Gv 17
 [A.ag
 [D.bool p1, D.sl l1, D.bool q1, D.sl m1, D.bool p2, D.sl l2, D.bool q2, D.sl m2, D.bool p3, D.sl l3, D.bool q3, D.sl m3,
 D.bool p4, D.sl l4, D.bool q4, D.sl m4],
 A.c (D.sl (mk [A.c (D.sl es)]))]
 [A.c (D.bool b)] ∧
 ∃ b_1,
 Gv 19
 [A.ag
 [D.bool p1, D.sl l1, D.bool q1, D.sl m1, D.bool p2, D.sl l2, D.bool q2, D.sl m2, D.bool p3, D.sl l3, D.bool q3, D.sl m3,
 D.bool p4, D.sl l4, D.bool q4, D.sl m4],
 A.c (D.sl es)]
 [A.c (D.bool b_1)] ∧
 Q [A.c (D.bool (b == b_1))]))))) := by kernel_rfl
end Eng
end

section
namespace Eng
open Go Go.Proofs
set_option maxRecDepth 100000
noncomputable def ckC (l : List Rb) : Ck1 := fun al => yesB (al = [.c (.sl (rbs l))] ∧ l.length ≤ 1073741824)
noncomputable def mkC (l : List Rb) : Mk1 := fun _ => rbs l
theorem lens_rbs (l : List Rb) : lens 16 (rbs l) := fun e he => by
 simp only [rbs, List.mem_map] at he
 obtain ⟨r, _, rfl⟩ := he
 rfl
theorem cloneR_ok {l : List Rb} (hne : l ≠ []) (hl : l.length ≤ 1073741824) : GivesC CC 18 [.c (.sl (rbs l))] none [] 16 (rbs l) := by
 refine wpFc_ok (C := CC) (anns := fun _ => ⟨[], [], fun _ _ => True, fun _ => 0⟩) mixedT Tryz.func18 ?_
 rw [vc_cloneB]
 refine ⟨?_, ⟨?_, lens_rbs l⟩, fun e => hne (by simpa [rbs] using e), rfl, rfl⟩
 ·rw [rbs_length]; exact List.length_pos_iff.2 hne
 ·unfold room; rw [rbs_length]; omega
theorem eff_c {l : List Rb} (hne : l ≠ []) : EffOk (CQx (ckC l) (mkC l) no2 nm2) :=
 eff_cq (fun al h => by
  obtain ⟨h, hl⟩ : al = [.c (.sl (rbs l))] ∧ l.length ≤ 1073741824 := yesB_iff.1 h
  subst h
  exact ⟨fun e => hne (by simpa [mkC, rbs] using e), cloneR_ok hne hl⟩) (fun _ _ h => by simp at h)
theorem Rb.few_iff {x : Rb} : (fewN x.a 2 && (fewN x.b 2 && (fewN x.c 2 && fewN x.d 2))) = true ↔ x.few := by
 simp only [Bool.and_eq_true]
 rw [Eng.few_iff, Eng.few_iff, Eng.few_iff, Eng.few_iff]
 exact Iff.rfl
theorem few_mid {x : Rb} (h : x.few) : x.mid := ⟨h.1.mid, h.2.1.mid, h.2.2.1.mid, h.2.2.2.mid⟩
theorem lCover_ne (haw : Gives CC 9 [] [.c (.bool true)]) (b : Rb) {l : List Rb} (hne : l ≠ []) : Gives CC 4 [.ag b.cs, .c (.sl (rbs l))] [.c (.bool true)] := by
 have hS : ∀ x : Rb, Gives CC 10 [.ag x.cs, .c (.int .i64 2)] [.c (.bool (fewN x.a 2 && (fewN x.b 2 && (fewN x.c 2 && fewN x.d 2))))] := fun x => cSmall_ok x.a x.b x.c x.d 2
 haveI : EffOk (CQx (ckC l) (mkC l) no2 nm2) := eff_c hne
 have up : ∀ {f : Nat} {al rs : List A}, Gives CC f al rs → Gives (CQx (ckC l) (mkC l) no2 nm2) f al rs := fun h => gives_cx (C := CC) rfl rfl h
 refine gives_cx (C := CQx (ckC l) (mkC l) no2 nm2) rfl rfl
  (wpF_ok (C := CQx (ckC l) (mkC l) no2 nm2) (anns := fun _ => ⟨[.slot 22 (.int .i64 0)], [], fun _ ds => ∃ k : Nat, k ≤ l.length ∧ ds = [.int .i64 (k : Int)] ∧ ∀ j (hj : j < l.length), j < k → l[j].few, fun ds => (l.length - toI (nth .undef ds 0)).toNat⟩) mixedT Tryz.func4 ?_)
 rw [Rb.cs_eq, vc_lCover, ← Rb.cs_eq]
 simp only [Int.ofNat_eq_natCast, rbs_length]
 refine ⟨_, up haw, brb (fun h => by simp at h) (fun _ => ⟨_, up (hS b), brb (fun _ => ⟨_, up haw, rfl⟩) (fun hf => brd (fun _ => ⟨_, up haw, rfl⟩) (fun h16 => ⟨⟨0, by omega, rfl, by omega⟩, ?_⟩))⟩)⟩
 have hfb : b.few := Rb.few_iff.1 (by simpa using hf)
 rintro n ⟨k, hk, he, hT⟩
 simp only [List.cons.injEq, D.int.injEq, true_and, and_true] at he
 subst he
 refine brd (fun h => ?_) (fun h => ?_)
 ·have hkl : k < l.length := by omega
  have hw : IntKind.wrap .i64 ((k : Int) + 1) = ((k + 1 : Nat) : Int) := by rw [i64w (by omega) (by omega)]; omega
  rw [hw, Int.toNat_natCast, nth_rbs hkl]
  refine ⟨⟨by omega, by omega, rfl⟩, _, _, _, _, _, _, _, _, _, _, _, _, _, _, _, _, cut_all (l := l[k].cs) rfl, _, up (hS l[k]), brb (fun _ => by trivial) (fun h2 => ⟨⟨k + 1, by omega, rfl, fun j hj hjk => ?_⟩, by simp only [nth, toI]; omega⟩)⟩
  rcases Nat.lt_or_ge j k with h3 | h3
  ·exact hT j hj h3
  ·have : j = k := by omega
   subst this; exact Rb.few_iff.1 (by simpa using h2)
 ·have hkl : k = l.length := by omega
  subst hkl
  have hfl : ∀ x ∈ l, x.few := fun x hx => by
   obtain ⟨j, hj, rfl⟩ := List.getElem_of_mem hx
   exact hT j hj hj
  have c1 := cover_ok (few_mid hfb) (fun x hx => few_mid (hfl x hx)) (by omega) hne
  have c2 := eCover_ok hfb hfl (by omega)
  refine ⟨yesB_iff.2 ⟨rfl, by omega⟩, _, up c1, _, up c2, ?_⟩
  rw [beq_self_eq_true]
end Eng
end

section
open Go Go.Proofs Eng
set_option maxRecDepth 1000000
namespace Eng
theorem vc_lCover0 (Gv : Nat → List A → List A → Prop) (I0 : List D → List D → Prop) (M0 : List D → Nat) (p1 q1 p2 q2 p3 q3 p4 q4 : Bool) (l1 m1 l2 m2 l3 m3 l4 m4 : List (List D)) (Q : List A → Prop) :
 wpF CC Gv (fun _ => ⟨[.slot 22 (.int .i64 0)], [], I0, M0⟩) Tryz.f4 [.ag [.bool p1, .sl l1, .bool q1, .sl m1, .bool p2, .sl l2, .bool q2, .sl m2, .bool p3, .sl l3, .bool q3, .sl m3, .bool p4, .sl l4, .bool q4, .sl m4], .c (.sl [])] Q = (
 ∃ b,
 Gv 9 [] [A.c (D.bool b)] ∧
 br (toB (D.bool !b)) (∃ b, Gv 9 [] [A.c (D.bool b)] ∧ Q [A.c (D.bool b)])
 (∃ b,
 Gv 10
 [A.ag
 [D.bool p1, D.sl l1, D.bool q1, D.sl m1, D.bool p2, D.sl l2, D.bool q2, D.sl m2, D.bool p3, D.sl l3, D.bool q3, D.sl m3, D.bool p4, D.sl l4,
 D.bool q4, D.sl m4],
 A.c (D.int .i64 (2 : Int))]
 [A.c (D.bool b)] ∧
 br (toB (D.bool !b)) (∃ b, Gv 9 [] [A.c (D.bool b)] ∧ Q [A.c (D.bool b)])
 (I0 [] [D.int .i64 (0 : Int)] ∧
 ∀ (n : Int),
 I0 [] [D.int .i64 n] →
 br (toB (D.bool (decide (n < (0 : Int)))))
 (((0 : Int) ≤ n ∧ n < (0 : Int) ∧ 0 = 16) ∧
 ∃ b es b_1 es_1 b_2 es_2 b_3 es_3 b_4 es_4 b_5 es_5 b_6 es_6 b_7 es_7,
 cut [] 0 16
 [D.bool b, D.sl es, D.bool b_1, D.sl es_1, D.bool b_2, D.sl es_2, D.bool b_3, D.sl es_3, D.bool b_4, D.sl es_4, D.bool b_5,
 D.sl es_5, D.bool b_6, D.sl es_6, D.bool b_7, D.sl es_7] ∧
 ∃ b_8,
 Gv 10
 [A.ag
 [D.bool b, D.sl es, D.bool b_1, D.sl es_1, D.bool b_2, D.sl es_2, D.bool b_3, D.sl es_3, D.bool b_4, D.sl es_4, D.bool b_5,
 D.sl es_5, D.bool b_6, D.sl es_6, D.bool b_7, D.sl es_7],
 A.c (D.int .i64 (2 : Int))]
 [A.c (D.bool b_8)] ∧
 br (toB (D.bool !b_8)) (Q [A.c (D.bool true)])
 (I0 [] [D.int .i64 (IntKind.wrap .i64 (n + (1 : Int)))] ∧
 M0 [D.int .i64 (IntKind.wrap .i64 (n + (1 : Int)))] < M0 [D.int .i64 n]))
 (∃ es,
 Gv 18 [A.c (D.sl [])] [A.c (D.sl es)] ∧
 ∃ b,
 Gv 17
 [A.ag
 [D.bool p1, D.sl l1, D.bool q1, D.sl m1, D.bool p2, D.sl l2, D.bool q2, D.sl m2, D.bool p3, D.sl l3, D.bool q3, D.sl m3,
 D.bool p4, D.sl l4, D.bool q4, D.sl m4],
 A.c (D.sl es)]
 [A.c (D.bool b)] ∧
 ∃ b_1,
 Gv 19
 [A.ag
 [D.bool p1, D.sl l1, D.bool q1, D.sl m1, D.bool p2, D.sl l2, D.bool q2, D.sl m2, D.bool p3, D.sl l3, D.bool q3, D.sl m3,
 D.bool p4, D.sl l4, D.bool q4, D.sl m4],
 A.c (D.sl [])]
 [A.c (D.bool b_1)] ∧
 Q [A.c (D.bool (b == b_1))])))) := by kernel_rfl
theorem vc_cover0 (Gv : Nat → List A → List A → Prop) (I0 : List D → List D → Prop) (M0 : List D → Nat) (I1 : List D → List D → Prop) (M1 : List D → Nat) (I2 : List D → List D → Prop) (M2 : List D → Nat) (I3 : List D → List D → Prop) (M3 : List D → Nat) (p1 q1 p2 q2 p3 q3 p4 q4 : Bool) (l1 m1 l2 m2 l3 m3 l4 m4 : List (List D)) (Q : List A → Prop) :
 wpF CC Gv (ann4 ⟨[.slot 42 (.int .i64 0), .cel 5 125 4, .cel 6 126 4], [], I0, M0⟩ ⟨[.slot 71 (.int .i64 0), .own 11 127 4], [], I1, M1⟩ ⟨[.slot 14 (.int .i64 0)], [], I2, M2⟩ ⟨[.slot 15 (.int .i64 0), .slot 96 (.int .i64 0)], [.slot 14 (.int .i64 0)], I3, M3⟩) Tryz.f17 [.ag [.bool p1, .sl l1, .bool q1, .sl m1, .bool p2, .sl l2, .bool q2, .sl m2, .bool p3, .sl l3, .bool q3, .sl m3, .bool p4, .sl l4, .bool q4, .sl m4], .c (.sl [])] Q = (
 ∃ b,
 Gv 46
 [A.ag
 [D.bool p1, D.sl l1, D.bool q1, D.sl m1, D.bool p2, D.sl l2, D.bool q2, D.sl m2, D.bool p3, D.sl l3, D.bool q3, D.sl m3, D.bool p4, D.sl l4,
 D.bool q4, D.sl m4]]
 [A.c (D.bool b)] ∧
 br (toB (D.bool !b)) (Q [A.c (D.bool false)])
 (∃ b,
 Gv 58 [A.c (D.sl []), A.c (D.fn 59)] [A.c (D.bool b)] ∧
 br b (Q [A.c (D.bool false)])
 (I0 []
 [D.int .i64 (0 : Int), D.sl [[D.bool p1, D.sl l1, D.bool q1, D.sl m1], [D.bool p3, D.sl l3, D.bool q3, D.sl m3]],
 D.sl [[D.bool p2, D.sl l2, D.bool q2, D.sl m2], [D.bool p4, D.sl l4, D.bool q4, D.sl m4]]] ∧
 ∀ (n : Int) (es es_1 : List (List D)),
 I0 [] [D.int .i64 n, D.sl es, D.sl es_1] →
 br (toB (D.bool (decide (n < (0 : Int)))))
 (((0 : Int) ≤ n ∧ n < (0 : Int) ∧ 0 = 16) ∧
 ∃ b es_2 b_1 es_3 b_2 es_4 b_3 es_5 b_4 es_6 b_5 es_7 b_6 es_8 b_7 es_9,
 cut [] 0 16
 [D.bool b, D.sl es_2, D.bool b_1, D.sl es_3, D.bool b_2, D.sl es_4, D.bool b_3, D.sl es_5, D.bool b_4, D.sl es_6, D.bool b_5,
 D.sl es_7, D.bool b_6, D.sl es_8, D.bool b_7, D.sl es_9] ∧
 (room (List.length es + 2) ∧
 lens 4 [[D.bool b, D.sl es_2, D.bool b_1, D.sl es_3], [D.bool b_4, D.sl es_6, D.bool b_5, D.sl es_7]]) ∧
 (room (List.length es_1 + 2) ∧
 lens 4 [[D.bool b_2, D.sl es_4, D.bool b_3, D.sl es_5], [D.bool b_6, D.sl es_8, D.bool b_7, D.sl es_9]]) ∧
 I0 []
 [D.int .i64 (IntKind.wrap .i64 (n + (1 : Int))),
 D.sl (es ++ [[D.bool b, D.sl es_2, D.bool b_1, D.sl es_3], [D.bool b_4, D.sl es_6, D.bool b_5, D.sl es_7]]),
 D.sl (es_1 ++ [[D.bool b_2, D.sl es_4, D.bool b_3, D.sl es_5], [D.bool b_6, D.sl es_8, D.bool b_7, D.sl es_9]])] ∧
 M0
 [D.int .i64 (IntKind.wrap .i64 (n + (1 : Int))),
 D.sl (es ++ [[D.bool b, D.sl es_2, D.bool b_1, D.sl es_3], [D.bool b_4, D.sl es_6, D.bool b_5, D.sl es_7]]),
 D.sl (es_1 ++ [[D.bool b_2, D.sl es_4, D.bool b_3, D.sl es_5], [D.bool b_6, D.sl es_8, D.bool b_7, D.sl es_9]])] <
 M0 [D.int .i64 n, D.sl es, D.sl es_1])
 (∃ es_2,
 Gv 60 [A.c (D.sl es)] [A.c (D.sl es_2)] ∧
 ∃ es,
 Gv 60 [A.c (D.sl es_1)] [A.c (D.sl es)] ∧
 ∃ n n_1 n_2 n_3,
 Gv 61
 [A.ag
 [D.bool p1, D.sl l1, D.bool q1, D.sl m1, D.bool p2, D.sl l2, D.bool q2, D.sl m2, D.bool p3, D.sl l3, D.bool q3, D.sl m3,
 D.bool p4, D.sl l4, D.bool q4, D.sl m4],
 A.c (D.ptr [D.sl es_2]), A.c (D.ptr [D.sl es])]
 [A.ag [D.int .i64 n, D.int .i64 n_1, D.int .i64 n_2, D.int .i64 n_3]] ∧
 I1 [] [D.int .i64 (0 : Int), D.sl []] ∧
 ∀ (n_4 : Int) (es_3 : List (List D)),
 I1 [] [D.int .i64 n_4, D.sl es_3] →
 br (toB (D.bool (decide (n_4 < (0 : Int)))))
 (((0 : Int) ≤ n_4 ∧ n_4 < (0 : Int) ∧ 0 = 16) ∧
 ∃ b es_4 b_1 es_5 b_2 es_6 b_3 es_7 b_4 es_8 b_5 es_9 b_6 es_10 b_7 es_11,
 cut [] 0 16
 [D.bool b, D.sl es_4, D.bool b_1, D.sl es_5, D.bool b_2, D.sl es_6, D.bool b_3, D.sl es_7, D.bool b_4,
 D.sl es_8, D.bool b_5, D.sl es_9, D.bool b_6, D.sl es_10, D.bool b_7, D.sl es_11] ∧
 ∃ n n_5 n_6 n_7,
 Gv 61
 [A.ag
 [D.bool b, D.sl es_4, D.bool b_1, D.sl es_5, D.bool b_2, D.sl es_6, D.bool b_3, D.sl es_7, D.bool b_4,
 D.sl es_8, D.bool b_5, D.sl es_9, D.bool b_6, D.sl es_10, D.bool b_7, D.sl es_11],
 A.c (D.ptr [D.sl es_2]), A.c (D.ptr [D.sl es])]
 [A.ag [D.int .i64 n, D.int .i64 n_5, D.int .i64 n_6, D.int .i64 n_7]] ∧
 (room (List.length es_3 + 1) ∧
 lens 4
 [[D.int .i64 n, D.int .i64 n_5, D.int .i64 n_6, D.int .i64 n_7]]) ∧
 I1 []
 [D.int .i64 (IntKind.wrap .i64 (n_4 + (1 : Int))),
 D.sl
 (es_3 ++
 [[D.int .i64 n, D.int .i64 n_5, D.int .i64 n_6, D.int .i64 n_7]])] ∧
 M1
 [D.int .i64 (IntKind.wrap .i64 (n_4 + (1 : Int))),
 D.sl
 (es_3 ++
 [[D.int .i64 n, D.int .i64 n_5, D.int .i64 n_6, D.int .i64 n_7]])] <
 M1 [D.int .i64 n_4, D.sl es_3])
 (Gv 63 [A.c (D.sl es_3), A.c (D.fn 64)] [] ∧
 I2 [] [D.int .i64 n] ∧
 ∀ (n : Int),
 I2 [] [D.int .i64 n] →
 br (toB (D.bool (decide (n < n_2))))
 (I3 [D.int .i64 n] [D.int .i64 n_1, D.int .i64 (0 : Int)] ∧
 ∀ (n_5 n_6 : Int),
 I3 [D.int .i64 n] [D.int .i64 n_5, D.int .i64 n_6] →
 br (toB (D.bool (decide (n_6 < (Int.ofNat (List.length es_3))))))
 (((0 : Int) ≤ n_6 ∧ n_6 < (Int.ofNat (List.length es_3))) ∧
 ∃ n_7 n_8 n_9 n_10,
 cut (nth [] es_3 (Int.toNat n_6)) 0 4
 [D.int .i64 n_7, D.int .i64 n_8, D.int .i64 n_9,
 D.int .i64 n_10] ∧
 br (toB (D.bool (decide (n_7 ≤ n))))
 (br (toB (D.bool (decide (n < n_9))))
 (br (toB (D.bool (decide (n_8 ≤ n_5))))
 (I3 [D.int .i64 n]
 [D.int .i64
 (match decide (n_5 < n_10) with
 | true => n_10
 | false => n_5),
 D.int .i64 (IntKind.wrap .i64 (n_6 + (1 : Int)))] ∧
 M3
 [D.int .i64
 (match decide (n_5 < n_10) with
 | true => n_10
 | false => n_5),
 D.int .i64 (IntKind.wrap .i64 (n_6 + (1 : Int)))] <
 M3 [D.int .i64 n_5, D.int .i64 n_6])
 (I3 [D.int .i64 n]
 [D.int .i64 n_5,
 D.int .i64 (IntKind.wrap .i64 (n_6 + (1 : Int)))] ∧
 M3
 [D.int .i64 n_5,
 D.int .i64 (IntKind.wrap .i64 (n_6 + (1 : Int)))] <
 M3 [D.int .i64 n_5, D.int .i64 n_6]))
 (I3 [D.int .i64 n]
 [D.int .i64 n_5,
 D.int .i64 (IntKind.wrap .i64 (n_6 + (1 : Int)))] ∧
 M3
 [D.int .i64 n_5,
 D.int .i64 (IntKind.wrap .i64 (n_6 + (1 : Int)))] <
 M3 [D.int .i64 n_5, D.int .i64 n_6]))
 (I3 [D.int .i64 n]
 [D.int .i64 n_5, D.int .i64 (IntKind.wrap .i64 (n_6 + (1 : Int)))] ∧
 M3 [D.int .i64 n_5, D.int .i64 (IntKind.wrap .i64 (n_6 + (1 : Int)))] <
 M3 [D.int .i64 n_5, D.int .i64 n_6]))
 (br (toB (D.bool (decide (n_5 < n_3)))) (Q [A.c (D.bool false)])
 (I2 [] [D.int .i64 (IntKind.wrap .i64 (n + (1 : Int)))] ∧
 M2 [D.int .i64 (IntKind.wrap .i64 (n + (1 : Int)))] < M2 [D.int .i64 n])))
 (Q [A.c (D.bool true)])))))) := by kernel_rfl
end Eng
end

section
namespace Eng
open Go Go.Proofs Go.RowKit Go.Lib Go.Shelf
set_option maxRecDepth 1000000
set_option maxHeartbeats 4000000 in
theorem clone_nil (c : Nat) (w : World) : Calls Tryz.prog 18 #[.slice none 0 c] w fun e w' => e = .returned (.slice none 0 0) ∧ w' = w := by
 have mixed : Tryz.prog.follows .mixedOrders = true := by kernel_rfl
 have t36 := und36
 have he : ∀ w, (binOp .eql 36 (.slice none 0 c) (.slice none 0 0)).run Tryz.prog w = .ok (.bool true) w := fun w => by have := run_eql_slice_nil (P := Tryz.prog) w 36 28 none 0 c 0 0 und36; simpa using this
 go_enter Tryz.func18, Tryz.ntmps18
 go_wp2
 all_goals (go_ret; exact ⟨rfl, rfl⟩)
set_option maxHeartbeats 4000000 in
theorem clone_emp (a : Addr) (c : Nat) (w : World) : Calls Tryz.prog 18 #[.slice (some a) 0 c] w fun e w' => ∃ b, e = .returned (.slice (some b) 0 0) ∧ w' = w.alloc (.cells #[] 28) := by
 have mixed : Tryz.prog.follows .mixedOrders = true := by kernel_rfl
 have t36 := und36
 have he : ∀ w, (binOp .eql 36 (.slice (some a) 0 c) (.slice none 0 0)).run Tryz.prog w = .ok (.bool false) w := fun w => by have := run_eql_slice_nil (P := Tryz.prog) w 36 28 (some a) 0 c 0 0 und36; simpa using this
 have z28 : ∀ w, (Go.sizeOf 28).run Tryz.prog w = .ok 16 w := fun w => run_sizeOf' zeros28 w
 go_enter Tryz.func18, Tryz.ntmps18
 go_wp2
 go_ret
 exact ⟨_, rfl, rfl⟩
theorem cloneE_ok : Gives CC 18 [.c (.sl [])] [.c (.sl [])] := by
 intro w F vs _ _ ha
 match vs, ha with
 | [v], ⟨h, _⟩ =>
  obtain ⟨ad, c, rfl, _⟩ := CD.slice_inv (show CD w F (.sl []) v from h)
  have hP : CC.P = Tryz.prog := rfl
  rw [hP]
  cases ad with
  | none =>
   refine (clone_nil c w).mono ?_
   rintro e w' ⟨rfl, rfl⟩
   exact ⟨Below.refl _ _, _, rfl, CD.nil _ _⟩
  | some a =>
   refine (clone_emp a c w).mono ?_
   rintro e w' ⟨b, rfl, rfl⟩
   exact ⟨(Below.refl _ _).alloc (Nat.le_refl _) _, _, rfl, CD.nil _ _⟩
theorem sortE_ok : Gives CC 63 [.c (.sl []), .c (.fn 64)] [] := by
 intro w F vs _ _ ha
 match vs, ha with
 | [v, u], ⟨h, _⟩ =>
  obtain ⟨ad, c, rfl, _⟩ := CD.slice_inv (show CD w F (.sl []) v from h)
  have hP : CC.P = Tryz.prog := rfl
  rw [hP]
  refine (AnyF.slices_SortFunc_none Tryz.sortStrip ad c u w).mono ?_
  rintro e w' ⟨rfl, rfl⟩
  exact ⟨Below.refl _ _, _, rfl, #[], rfl, trivial⟩
end Eng
end

section
namespace Eng
open Go Go.Proofs
set_option maxRecDepth 100000
theorem sortS_nil : sortS [] = [] := List.eq_nil_of_length_eq_zero (Eng.pdqL_ok swo_cfS []).1.length_eq
theorem cover0_ok {b : Rb} (hb : b.mid) : Gives CC 17 [.ag b.cs, .c (.sl [])] [.c (.bool (b.ok && coverP b.bx []))] := by
 have g46 : Gives CC 46 [.ag b.cs] [.c (.bool b.ok)] := cvalidBox_mid hb.1 hb.2.1 hb.2.2.1 hb.2.2.2
 have g58 : Gives CC 58 [.c (.sl []), .c (.fn 59)] [.c (.bool false)] := contf_ok (l := []) (by simp) (by simp)
 by_cases hbo : b.ok = true
 rotate_left
 ·refine wpF_ok (C := CC) (anns := ann4
   ⟨[.slot 42 (.int .i64 0), .cel 5 125 4, .cel 6 126 4], [], fun _ _ => False, fun _ => 0⟩
   ⟨[.slot 71 (.int .i64 0), .own 11 127 4], [], fun _ _ => False, fun _ => 0⟩
   ⟨[.slot 14 (.int .i64 0)], [], fun _ _ => False, fun _ => 0⟩
   ⟨[.slot 15 (.int .i64 0), .slot 96 (.int .i64 0)], [.slot 14 (.int .i64 0)], fun _ _ => False, fun _ => 0⟩) mixedT Tryz.func17 ?_
  rw [Rb.cs_eq, vc_cover0]
  refine ⟨_, g46, brb (fun h => ?_) (fun h => ?_)⟩
  ·have : b.ok = false := by simpa using h
   rw [this]; rfl
  ·exact absurd (by simpa using h) hbo
 obtain ⟨eb, sb⟩ := bx_cs hbo hb
 rw [hbo] at g46 ⊢
 simp only [Bool.true_and]
 generalize hB : b.bx = B at *
 rw [eb] at g46 ⊢
 clear eb hB hbo hb
 have hxsr : ∀ y ∈ xsOf B [], Sr y := fun y hy => by
  simp only [xsOf, List.flatMap_nil, List.append_nil, List.mem_cons, List.not_mem_nil, or_false] at hy
  rcases hy with rfl | rfl
  ·exact sb.1
  ·exact sb.2.2.1
 have hysr : ∀ y ∈ ysOf B [], Sr y := fun y hy => by
  simp only [ysOf, List.flatMap_nil, List.append_nil, List.mem_cons, List.not_mem_nil, or_false] at hy
  rcases hy with rfl | rfl
  ·exact sb.2.1
  ·exact sb.2.2.2
 obtain ⟨lx, ly⟩ := xsOf_len B []
 simp only [List.length_nil, Nat.mul_zero, Nat.add_zero] at lx ly
 have r1 : Gives CC 60 [.c (.sl (rats (xsOf B [])))] [.c (.sl (rats (ranksP (xsOf B []))))] := ranks_ok (by simp [xsOf]) hxsr (by omega)
 have r2 : Gives CC 60 [.c (.sl (rats (ysOf B [])))] [.c (.sl (rats (ranksP (ysOf B []))))] := ranks_ok (by simp [ysOf]) hysr (by omega)
 have px := ranksP_len (xsOf B [])
 have py := ranksP_len (ysOf B [])
 have mx : ∀ y ∈ ranksP (xsOf B []), Sr y := fun y hy => hxsr y (ranksP_mem.1 hy)
 have my : ∀ y ∈ ranksP (ysOf B []), Sr y := fun y hy => hysr y (ranksP_mem.1 hy)
 have sx := ranksP_sorted (xsOf B [])
 have sy := ranksP_sorted (ysOf B [])
 have c0 : Gives CC 61 [.ag B.cs, .c (.ptr [.sl (rats (ranksP (xsOf B [])))]), .c (.ptr [.sl (rats (ranksP (ysOf B [])))])] [.ag (strip (ranksP (xsOf B [])) (ranksP (ysOf B [])) B).cs] :=
  cov2_ok sb sx sy mx my (by omega) (by omega)
 have hbd : (strip (ranksP (xsOf B [])) (ranksP (ysOf B [])) B).c < 2147483648 := by
  have a4 := rnk_le (ranksP (xsOf B [])) B.x1
  simp only [strip]
  omega
 have hcov : coverP B [] = ((List.range' (strip (ranksP (xsOf B [])) (ranksP (ysOf B [])) B).a ((strip (ranksP (xsOf B [])) (ranksP (ysOf B [])) B).c - (strip (ranksP (xsOf B [])) (ranksP (ysOf B [])) B).a)).all fun x =>
  decide ((strip (ranksP (xsOf B [])) (ranksP (ysOf B [])) B).d ≤ sweep x (strip (ranksP (xsOf B [])) (ranksP (ysOf B [])) B).b (sortS []))) := rfl
 rw [sortS_nil] at hcov
 have hsw : ∀ x t, sweep x t [] = t := fun _ _ => rfl
 simp only [hsw] at hcov
 generalize hS : strip (ranksP (xsOf B [])) (ranksP (ysOf B [])) B = S at *
 refine wpF_ok (C := CC) (anns := ann4
  ⟨[.slot 42 (.int .i64 0), .cel 5 125 4, .cel 6 126 4], [], fun _ ds => ds = [.int .i64 0, .sl (rats (xsOf B [])), .sl (rats (ysOf B []))], fun _ => 0⟩
  ⟨[.slot 71 (.int .i64 0), .own 11 127 4], [], fun _ ds => ds = [.int .i64 0, .sl []], fun _ => 0⟩
  ⟨[.slot 14 (.int .i64 0)], [], fun _ ds => ∃ x : Nat, S.a ≤ x ∧ (x ≤ S.c ∨ x = S.a) ∧ ds = [.int .i64 (x : Int)] ∧ ∀ x', S.a ≤ x' → x' < x → S.d ≤ S.b, fun ds => (S.c - toI (nth .undef ds 0)).toNat⟩
  ⟨[.slot 15 (.int .i64 0), .slot 96 (.int .i64 0)], [.slot 14 (.int .i64 0)], fun gs ds => ∃ x : Nat, gs = [.int .i64 (x : Int)] ∧ ds = [.int .i64 (S.b : Int), .int .i64 0], fun _ => 0⟩) mixedT Tryz.func17 ?_
 have eB : A.ag B.cs = encB B.x0 B.y0 B.x1 B.y1 := rfl
 rw [eB] at g46 c0 ⊢
 rw [encB_cells] at g46 c0 ⊢
 rw [vc_cover0]
 simp only [Int.ofNat_eq_natCast]
 refine ⟨_, g46, brb (fun h => by simp at h) (fun _ => ⟨_, g58, brb' (fun h2 => by simp at h2) (fun _ => ⟨rfl, ?_⟩)⟩)⟩
 intro n es1 es2 he
 simp only [List.cons.injEq, D.int.injEq, D.sl.injEq, true_and, and_true] at he
 obtain ⟨rfl, rfl, rfl⟩ := he
 refine brd (fun h => by omega) (fun _ => ⟨_, r1, _, r2, _, _, _, _, c0, trivial, ?_⟩)
 intro n4 es5 he
 simp only [List.cons.injEq, D.int.injEq, D.sl.injEq, true_and, and_true] at he
 obtain ⟨rfl, rfl⟩ := he
 refine brd (fun h => by omega) (fun _ => ⟨sortE_ok, ⟨S.a, Nat.le_refl _, .inr rfl, rfl, by omega⟩, ?_⟩)
 rintro n ⟨x, hx1, hx2, he, hgood⟩
 simp only [List.cons.injEq, D.int.injEq, true_and, and_true] at he
 subst he
 refine brd (fun h => ?_) (fun h => ?_)
 rotate_left
 ·have hcv : coverP B [] = true := by
   rw [hcov, List.all_eq_true]
   intro x' hx'
   rw [List.mem_range'_1] at hx'
   exact decide_eq_true (hgood x' hx'.1 (by omega))
  rw [hcv]
 have hxc : x < S.c := by omega
 refine ⟨⟨x, rfl, rfl⟩, ?_⟩
 rintro n5 n6 ⟨x', hg, he⟩
 simp only [List.cons.injEq, D.int.injEq, true_and, and_true] at hg he
 obtain ⟨rfl, rfl⟩ := he
 refine brd (fun h2 => absurd h2 (by simp)) (fun _ => brd (fun h3 => ?_) (fun h3 => ?_))
 ·have hcv : coverP B [] = false := by
   rw [hcov, Bool.eq_false_iff]
   intro hall
   rw [List.all_eq_true] at hall
   have := of_decide_eq_true (hall x (List.mem_range'_1.2 ⟨hx1, by omega⟩))
   omega
  rw [hcv]
 ·have hw : IntKind.wrap .i64 ((x : Int) + 1) = ((x + 1 : Nat) : Int) := by rw [i64w (by omega) (by omega)]; omega
  rw [hw]
  refine ⟨⟨x + 1, by omega, .inl (by omega), rfl, fun x' h4 h5 => by omega⟩, by simp only [nth, toI]; omega⟩
theorem lCover_nil (haw : Gives CC 9 [] [.c (.bool true)]) (b : Rb) : Gives CC 4 [.ag b.cs, .c (.sl [])] [.c (.bool true)] := by
 have hS : ∀ x : Rb, Gives CC 10 [.ag x.cs, .c (.int .i64 2)] [.c (.bool (fewN x.a 2 && (fewN x.b 2 && (fewN x.c 2 && fewN x.d 2))))] := fun x => cSmall_ok x.a x.b x.c x.d 2
 refine wpF_ok (C := CC) (anns := fun _ => ⟨[.slot 22 (.int .i64 0)], [], fun _ ds => ds = [.int .i64 0], fun _ => 0⟩) mixedT Tryz.func4 ?_
 rw [Rb.cs_eq, vc_lCover0, ← Rb.cs_eq]
 refine ⟨_, haw, brb (fun h => by simp at h) (fun _ => ⟨_, hS b, brb (fun _ => ⟨_, haw, rfl⟩) (fun hf => ⟨rfl, ?_⟩)⟩)⟩
 have hfb : b.few := Rb.few_iff.1 (by simpa using hf)
 intro n he
 simp only [List.cons.injEq, D.int.injEq, true_and, and_true] at he
 subst he
 refine brd (fun h => by omega) (fun _ => ?_)
 have c1 := cover0_ok (few_mid hfb)
 have c2 := eCover_ok (l := []) hfb (by simp) (by simp)
 refine ⟨_, cloneE_ok, _, c1, _, c2, ?_⟩
 simp only [List.all_nil, List.map_nil, Bool.true_and]
 rw [beq_self_eq_true]
theorem lCover_ok (haw : Gives CC 9 [] [.c (.bool true)]) (b : Rb) (l : List Rb) : Gives CC 4 [.ag b.cs, .c (.sl (rbs l))] [.c (.bool true)] := by
 by_cases h : l = []
 ·subst h; exact lCover_nil haw b
 ·exact lCover_ne haw b h
end Eng
end
