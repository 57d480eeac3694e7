/- The verification conditions of functions, printed by a program (vcgen.py) and checked by the kernel. -/
import Derived.Test.YtkkodaemmgpgfaaGreatDoorCtxB
import Derived.Test.YtkkodaemmgpgfaaGreatDoorCdA
import Derived.Test.YtkkodaemmgpgfaaGreatDoorCdB
import Derived.KernelRfl
section
open Go Go.Proofs Eng
set_option maxRecDepth 1000000
namespace Eng
theorem vc_bsearch (Gv : Nat → List A → List A → Prop) (I0 : List D → List D → Prop) (M0 : List D → Nat) (es : List (List D)) (p1 q1 : Bool) (l1 m1 : List (List D)) (Q : List A → Prop) :
 wpF CC Gv (fun _ => ⟨[.slot 9 (.int .i64 0), .slot 10 (.int .i64 0)], [], I0, M0⟩) Tryz.f118 [.c (.sl es), .ag [.bool p1, .sl l1, .bool q1, .sl m1], .c (.fn 49)] Q = (
 I0 [] [D.int .i64 (0 : Int), D.int .i64 (Int.ofNat (List.length es))] ∧
 ∀ (n n_1 : Int),
 I0 [] [D.int .i64 n, D.int .i64 n_1] →
 br (toB (D.bool (decide (n < n_1))))
 ((0 : Int) ≤ (1 : Int) ∧
 ((0 : Int) ≤ IntKind.wrap .i64 (Int.fdiv (IntKind.wrap .u64 (IntKind.wrap .i64 (n + n_1))) (2 : Int)) ∧
 IntKind.wrap .i64 (Int.fdiv (IntKind.wrap .u64 (IntKind.wrap .i64 (n + n_1))) (2 : Int)) < (Int.ofNat (List.length es)) ∧
 List.length
 (nth [] es (Int.toNat (IntKind.wrap .i64 (Int.fdiv (IntKind.wrap .u64 (IntKind.wrap .i64 (n + n_1))) (2 : Int))))) =
 4) ∧
 ∃ b es_1 b_1 es_2,
 cut (nth [] es (Int.toNat (IntKind.wrap .i64 (Int.fdiv (IntKind.wrap .u64 (IntKind.wrap .i64 (n + n_1))) (2 : Int)))))
 0 4 [D.bool b, D.sl es_1, D.bool b_1, D.sl es_2] ∧
 ∃ n_2,
 Gv 49 [A.ag [D.bool b, D.sl es_1, D.bool b_1, D.sl es_2], A.ag [D.bool p1, D.sl l1, D.bool q1, D.sl m1]]
 [A.c (D.int .i64 n_2)] ∧
 br (toB (D.bool (decide (n_2 < (0 : Int)))))
 (I0 []
 [D.int .i64
 (IntKind.wrap .i64
 (IntKind.wrap .i64 (Int.fdiv (IntKind.wrap .u64 (IntKind.wrap .i64 (n + n_1))) (2 : Int)) + (1 : Int))),
 D.int .i64 n_1] ∧
 M0
 [D.int .i64
 (IntKind.wrap .i64
 (IntKind.wrap .i64 (Int.fdiv (IntKind.wrap .u64 (IntKind.wrap .i64 (n + n_1))) (2 : Int)) + (1 : Int))),
 D.int .i64 n_1] <
 M0 [D.int .i64 n, D.int .i64 n_1])
 (I0 []
 [D.int .i64 n,
 D.int .i64 (IntKind.wrap .i64 (Int.fdiv (IntKind.wrap .u64 (IntKind.wrap .i64 (n + n_1))) (2 : Int)))] ∧
 M0
 [D.int .i64 n,
 D.int .i64
 (IntKind.wrap .i64 (Int.fdiv (IntKind.wrap .u64 (IntKind.wrap .i64 (n + n_1))) (2 : Int)))] <
 M0 [D.int .i64 n, D.int .i64 n_1]))
 (br (toB (D.bool (decide (n < (Int.ofNat (List.length es))))))
 (((0 : Int) ≤ n ∧ n < (Int.ofNat (List.length es)) ∧ List.length (nth [] es (Int.toNat n)) = 4) ∧
 ∃ b es_1 b_1 es_2,
 cut (nth [] es (Int.toNat n)) 0 4 [D.bool b, D.sl es_1, D.bool b_1, D.sl es_2] ∧
 ∃ n_2,
 Gv 49 [A.ag [D.bool b, D.sl es_1, D.bool b_1, D.sl es_2], A.ag [D.bool p1, D.sl l1, D.bool q1, D.sl m1]]
 [A.c (D.int .i64 n_2)] ∧
 Q [A.c (D.int .i64 n), A.c (D.bool (n_2 == (0 : Int)))])
 (Q [A.c (D.int .i64 n), A.c (D.bool false)]))) := by kernel_rfl
theorem vc_crank (Gv : Nat → List A → List A → Prop) (es : List (List D)) (p1 q1 : Bool) (l1 m1 : List (List D)) (Q : List A → Prop) :
 wpF CC Gv (fun _ => ⟨[], [], fun _ _ => True, fun _ => 0⟩) Tryz.f62 [.c (.sl es), .ag [.bool p1, .sl l1, .bool q1, .sl m1]] Q = (
 ∃ n b,
 Gv 118 [A.c (D.sl es), A.ag [D.bool p1, D.sl l1, D.bool q1, D.sl m1], A.c (D.fn 49)] [A.c (D.int .i64 n), A.c (D.bool b)] ∧
 Q [A.c (D.int .i64 n)]) := by kernel_rfl
theorem vc_cov1 (Gv : Nat → List A → List A → Prop) (p1 q1 p2 q2 p3 q3 p4 q4 : Bool) (l1 m1 l2 m2 l3 m3 l4 m4 : List (List D)) (Q : List A → Prop) :
 wpF CC Gv (fun _ => ⟨[], [], fun _ _ => True, fun _ => 0⟩) Tryz.f59 [.ag [.bool p1, .sl l1, .bool q1, .sl m1, .bool p2, .sl l2, .bool q2, .sl m2, .bool p3, .sl l3, .bool q3, .sl m3, .bool p4, .sl l4, .bool q4, .sl m4]] Q = (
 ∃ b,
 Gv 46
 [A.ag
 [D.bool p1, D.sl l1, D.bool q1, D.sl m1, D.bool p2, D.sl l2, D.bool q2, D.sl m2, D.bool p3, D.sl l3, D.bool q3, D.sl m3, D.bool p4, D.sl l4,
 D.bool q4, D.sl m4]]
 [A.c (D.bool b)] ∧
 Q [A.c (D.bool !b)]) := by kernel_rfl
theorem vc_idxf (Gv : Nat → List A → List A → Prop) (I0 : List D → List D → Prop) (M0 : List D → Nat) (es : List (List D)) (Q : List A → Prop) :
 wpF CC Gv (fun _ => ⟨[.slot 8 (.int .i64 0)], [], I0, M0⟩) Tryz.f113 [.c (.sl es), .c (.fn 59)] Q = (
 I0 [] [D.int .i64 (0 : Int)] ∧
 ∀ (n : Int),
 I0 [] [D.int .i64 n] →
 br (toB (D.bool (decide (n < (Int.ofNat (List.length es))))))
 (((0 : Int) ≤ n ∧ n < (Int.ofNat (List.length es)) ∧ List.length (nth [] es (Int.toNat n)) = 16) ∧
 ∃ b es_1 b_1 es_2 b_2 es_3 b_3 es_4 b_4 es_5 b_5 es_6 b_6 es_7 b_7 es_8,
 cut (nth [] es (Int.toNat n)) 0 16
 [D.bool b, D.sl es_1, D.bool b_1, D.sl es_2, D.bool b_2, D.sl es_3, D.bool b_3, D.sl es_4, D.bool b_4, D.sl es_5, D.bool b_5, D.sl es_6,
 D.bool b_6, D.sl es_7, D.bool b_7, D.sl es_8] ∧
 ∃ b_8,
 Gv 59
 [A.ag
 [D.bool b, D.sl es_1, D.bool b_1, D.sl es_2, D.bool b_2, D.sl es_3, D.bool b_3, D.sl es_4, D.bool b_4, D.sl es_5, D.bool b_5, D.sl es_6,
 D.bool b_6, D.sl es_7, D.bool b_7, D.sl es_8]]
 [A.c (D.bool b_8)] ∧
 br b_8 (Q [A.c (D.int .i64 n)])
 (I0 [] [D.int .i64 (IntKind.wrap .i64 (n + (1 : Int)))] ∧
 M0 [D.int .i64 (IntKind.wrap .i64 (n + (1 : Int)))] < M0 [D.int .i64 n]))
 (Q [A.c (D.int .i64 (-1 : Int))])) := by kernel_rfl
theorem vc_contf (Gv : Nat → List A → List A → Prop) (es : List (List D)) (Q : List A → Prop) :
 wpF CC Gv (fun _ => ⟨[], [], fun _ _ => True, fun _ => 0⟩) Tryz.f58 [.c (.sl es), .c (.fn 59)] Q = (
 ∃ n, Gv 113 [A.c (D.sl es), A.c (D.fn 59)] [A.c (D.int .i64 n)] ∧ Q [A.c (D.bool (decide (n ≥ (0 : Int))))]) := by kernel_rfl
theorem vc_cov2 (Gv : Nat → List A → List A → Prop) (p1 q1 p2 q2 p3 q3 p4 q4 : Bool) (l1 m1 l2 m2 l3 m3 l4 m4 : List (List D)) (xs ys : List (List D)) (Q : List A → Prop) :
 wpF CC Gv (fun _ => ⟨[], [], fun _ _ => True, fun _ => 0⟩) Tryz.f61 [.ag [.bool p1, .sl l1, .bool q1, .sl m1, .bool p2, .sl l2, .bool q2, .sl m2, .bool p3, .sl l3, .bool q3, .sl m3, .bool p4, .sl l4, .bool q4, .sl m4], .c (.ptr [.sl xs]), .c (.ptr [.sl ys])] Q = (
 ∃ es,
 cut [D.sl xs] 0 1 [D.sl es] ∧
 ∃ n,
 Gv 62 [A.c (D.sl es), A.ag [D.bool p1, D.sl l1, D.bool q1, D.sl m1]] [A.c (D.int .i64 n)] ∧
 ∃ es,
 cut [D.sl ys] 0 1 [D.sl es] ∧
 ∃ n_1,
 Gv 62 [A.c (D.sl es), A.ag [D.bool p2, D.sl l2, D.bool q2, D.sl m2]] [A.c (D.int .i64 n_1)] ∧
 ∃ es,
 cut [D.sl xs] 0 1 [D.sl es] ∧
 ∃ n_2,
 Gv 62 [A.c (D.sl es), A.ag [D.bool p3, D.sl l3, D.bool q3, D.sl m3]] [A.c (D.int .i64 n_2)] ∧
 ∃ es,
 cut [D.sl ys] 0 1 [D.sl es] ∧
 ∃ n_3,
 Gv 62 [A.c (D.sl es), A.ag [D.bool p4, D.sl l4, D.bool q4, D.sl m4]] [A.c (D.int .i64 n_3)] ∧
 Q [A.ag [D.int .i64 n, D.int .i64 n_1, D.int .i64 n_2, D.int .i64 n_3]]) := by kernel_rfl
theorem vc_cov3 (Gv : Nat → List A → List A → Prop) (a0 a1 a2 a3 b0 b1 b2 b3 : Int) (Q : List A → Prop) :
 wpF CC Gv (fun _ => ⟨[], [], fun _ _ => True, fun _ => 0⟩) Tryz.f64 [.ag [.int .i64 a0, .int .i64 a1, .int .i64 a2, .int .i64 a3], .ag [.int .i64 b0, .int .i64 b1, .int .i64 b2, .int .i64 b3]] Q = (
 Q [A.c (D.int .i64 (IntKind.wrap .i64 (a1 - b1)))]) := by kernel_rfl
theorem vc_rks1 (Gv : Nat → List A → List A → Prop) (p1 q1 p2 q2 : Bool) (l1 m1 l2 m2 : List (List D)) (Q : List A → Prop) :
 wpF CC Gv (fun _ => ⟨[], [], fun _ _ => True, fun _ => 0⟩) Tryz.f117 [.ag [.bool p1, .sl l1, .bool q1, .sl m1], .ag [.bool p2, .sl l2, .bool q2, .sl m2]] Q = (
 ∃ n,
 Gv 49 [A.ag [D.bool p1, D.sl l1, D.bool q1, D.sl m1], A.ag [D.bool p2, D.sl l2, D.bool q2, D.sl m2]] [A.c (D.int .i64 n)] ∧
 Q [A.c (D.bool (n == (0 : Int)))]) := by kernel_rfl
end Eng
end

section
namespace Eng
open Go Go.Proofs
set_option maxRecDepth 100000
def Rw.mid (x : Rw) : Prop := x.l.length ≤ 400 ∧ x.m.length ≤ 400
theorem Rw.few.mid {x : Rw} (h : x.few) : x.mid := ⟨Nat.le_trans h.1 (by omega), Nat.le_trans h.2 (by omega)⟩
theorem pow_le' {b n j k : Nat} (hb : 0 < b) (h : n ≤ j * k) : b ^ n ≤ (b ^ j) ^ k := by
 rw [← Nat.pow_mul]; exact Nat.pow_le_pow_right hb h
theorem pow_half {n : Nat} (h : n ≤ 100 * 4) : 1000000000 ^ n ≤ halfN := pow_le' (b := 1000000000) (j := 100) (k := 4) (by omega) h
theorem dec_half {p : Bool} {l : List Nat} (h : okZ p (raw l) = true) (hl : l.length ≤ 400) : Sq (decZ p (raw l)) := by
 unfold Sq
 rw [decZ_abs]
 exact Nat.lt_of_lt_of_le (val_lt (okZ_iff.1 h).1) (pow_half (by omega))
theorem rValid_mid {p q : Bool} {l m : List Nat} (hl : l.length ≤ 400) (hm : m.length ≤ 400) : Gives CC 85 [.ag [.bool p, .sl (raw l), .bool q, .sl (raw m)]] [.c (.bool (okQ p l q m))] := by
 refine wpF_ok (anns := fun _ => ⟨[], [], fun _ _ => True, fun _ => 0⟩) mixedT Tryz.func85 ?_
 rw [vc_rValid]
 refine ⟨_, iValid_ok (by omega), ?_⟩
 cases h1 : okZ p (raw l) with
 | false => refine brb (fun _ => ?_) (fun h => by simp at h); unfold okQ; rw [h1]; rfl
 | true =>
  refine brb (fun h => by simp at h) (fun _ => ⟨_, iValid_ok (by omega), ?_⟩)
  cases h2 : okZ q (raw m) with
  | false => refine brb (fun _ => ?_) (fun h => by simp at h); unfold okQ; rw [h1, h2]; rfl
  | true =>
   refine brb (fun h => by simp at h) (fun _ => ?_)
   have s1 := (dec_half h1 hl).sm
   have s2 := (dec_half h2 hm).sm
   have hs := up (iSign_ok (decZ q (raw m)))
   have hg := iGCD_ok divOk s1 s2
   have hu := runit_ok
   have hsm : Sm ((Nat.gcd (decZ p (raw l)).natAbs (decZ q (raw m)).natAbs : Nat) : Int) := by
    rw [smN]
    rcases Nat.eq_zero_or_pos (decZ p (raw l)).natAbs with h | h
    ·rw [h, Nat.gcd_zero_left]; exact s2
    ·exact Nat.lt_of_le_of_lt (Nat.gcd_le_left _ h) s1
   have hc := up (iCmp_ok hsm sm_one)
   have ho : okQ p l q m = (decide (0 < decZ q (raw m)) && (Nat.gcd (decZ p (raw l)).natAbs (decZ q (raw m)).natAbs == 1)) := by
    unfold okQ; rw [h1, h2]; simp
   rw [encI_dec h2] at hs
   rw [encI_dec h1, encI_dec h2] at hg
   rw [ho]
   clear ho
   generalize Nat.gcd (decZ p (raw l)).natAbs (decZ q (raw m)).natAbs = g at hg hsm hc ⊢
   generalize decZ q (raw m) = z at hs ⊢
   rw [encI_cells] at hg hu
   rw [encI_cells, encI_cells] at hc
   refine ⟨_, hs, brd (fun h => ?_) (fun h => ⟨_, _, hg, _, _, hu, _, hc, ?_⟩)⟩
   ·rw [decide_eq_false (by have := sgn_le.1 h; omega)]; rfl
   ·have e : decide (0 < z) = true := decide_eq_true (by have := mt sgn_le.2 h; omega)
    rw [e, Bool.true_and]
    have : (cmpZ (g : Int) 1 == 0) = (g == 1) := by
     rw [Bool.eq_iff_iff, beq_iff_eq, cmpZ_zero, beq_iff_eq]; omega
    rw [this]
theorem Rw.val_mid {x : Rw} (h : x.ok = true) (hf : x.mid) : x.cs = cR x.val ∧ Sr x.val := by
 obtain ⟨p, l, q, m⟩ := x
 simp only [Rw.ok, okQ, Bool.and_eq_true, decide_eq_true_eq, beq_iff_eq] at h
 obtain ⟨h1, h2, h3, h4⟩ := h
 have b1 := dec_half h1 hf.1
 have b2 := dec_half h2 hf.2
 obtain ⟨n1, n2⟩ := divInt_nd (n := decZ p (raw l)) h3
 have e2 : ∀ z : Int, z / ((1 : Nat) : Int) = z := fun z => by simp
 rw [h4, e2] at n1 n2
 have hs : Sr (Rat.divInt (decZ p (raw l)) (decZ q (raw m))) := ⟨by rw [n1]; exact b1, by rw [n2]; exact b2⟩
 refine ⟨?_, hs⟩
 have e := encR_divInt (n := decZ p (raw l)) h3
 rw [h4, e2, e2, okZ_ok h1, okZ_ok h2] at e
 unfold encR at e
 have e3 := A.ag.inj e
 show _ = cR (Rat.divInt (decZ p (raw l)) (decZ q (raw m)))
 rw [e3]; rfl
def ofR (r : Rat) : Rw := ⟨decide (r.num < 0), lim r.num.natAbs, decide ((r.den : Int) < 0), lim (r.den : Int).natAbs⟩
theorem okZ_cI (z : Int) : okZ (decide (z < 0)) (raw (lim z.natAbs)) = true ∧ decZ (decide (z < 0)) (raw (lim z.natAbs)) = z := by
 constructor
 ·refine okZ_iff.2 ⟨lim_limbs _, lim_last _, fun h => ?_⟩
  rw [lim_nil] at h
  exact decide_eq_false (by omega)
 ·unfold decZ
  rw [valD_raw, lim_val]
  by_cases h : z < 0
  ·rw [decide_eq_true h]; simp only; omega
  ·rw [decide_eq_false h]; simp only; omega
theorem ofR_ok (r : Rat) : (ofR r).ok = true ∧ (ofR r).val = r := by
 obtain ⟨a1, a2⟩ := okZ_cI r.num
 obtain ⟨b1, b2⟩ := okZ_cI (r.den : Int)
 constructor
 ·simp only [Rw.ok, ofR, okQ, Bool.and_eq_true, beq_iff_eq]
  have hq : decZ (ofR r).q (raw (ofR r).m) = (r.den : Int) := b2
  refine ⟨a1, b1, decide_eq_true (by have := den_pos r; omega), ?_⟩
  rw [a2, b2, Int.natAbs_natCast]
  exact r.reduced
 ·simp only [Rw.val, ofR]
  rw [a2, b2]
  exact Rat.num_divInt_den r
theorem ofR_mid {r : Rat} (h : Sr r) : (ofR r).mid := by
 constructor
 ·exact lim_len_mul (j := 100) (k := 4) h.1
 ·exact lim_len_mul (j := 100) (k := 4) h.2
theorem cvalidBox_mid {a b c d : Rw} (ha : a.mid) (hb : b.mid) (hc : c.mid) (hd : d.mid) : Gives CC 46 [boxA a b c d] [.c (.bool (okB a b c d))] := by
 refine wpF_ok (anns := fun _ => ⟨[.slot 15 (.int .i64 0)], [], fun _ ds => ∃ k : Nat, k ≤ 4 ∧ ds = [.int .i64 (k : Int)] ∧ (0 < k → a.ok = true) ∧ (1 < k → b.ok = true) ∧ (2 < k → c.ok = true) ∧ (3 < k → d.ok = true), fun ds => (4 - toI (nth .undef ds 0)).toNat⟩) mixedT Tryz.func46 ?_
 have e : boxA a b c d = .ag [.bool a.p, .sl (raw a.l), .bool a.q, .sl (raw a.m), .bool b.p, .sl (raw b.l), .bool b.q, .sl (raw b.m), .bool c.p, .sl (raw c.l), .bool c.q, .sl (raw c.m), .bool d.p, .sl (raw d.l), .bool d.q, .sl (raw d.m)] := rfl
 rw [e, vc_cvalidBox]
 refine ⟨⟨0, by omega, rfl, by omega, by omega, by omega, by omega⟩, ?_⟩
 rintro n ⟨k, hk, he, k1, k2, k3, k4⟩
 simp only [List.cons.injEq, D.int.injEq, true_and, and_true] at he
 subst he
 refine brd (fun h => ?_) (fun h => ?_)
 ·have hw : IntKind.wrap .i64 ((k : Int) + 1) = ((k + 1 : Nat) : Int) := by rw [i64w (by omega) (by omega)]; omega
  rw [hw, Int.toNat_natCast]
  refine ⟨⟨by omega, by omega⟩, ?_⟩
  have hk4 : k = 0 ∨ k = 1 ∨ k = 2 ∨ k = 3 := by omega
  rcases hk4 with rfl | rfl | rfl | rfl
  ·refine ⟨a.p, raw a.l, a.q, raw a.m, ⟨rfl, by simp [nth]⟩, _, rValid_mid ha.1 ha.2, brb (fun h1 => ?_) (fun h1 => ⟨⟨1, by omega, rfl, fun _ => by simpa [Rw.ok] using h1, by omega, by omega, by omega⟩, by simp only [nth, toI]; omega⟩)⟩
   have : a.ok = false := by simpa [Rw.ok] using h1
   unfold okB; rw [this]; rfl
  ·refine ⟨b.p, raw b.l, b.q, raw b.m, ⟨rfl, by simp [nth]⟩, _, rValid_mid hb.1 hb.2, brb (fun h1 => ?_) (fun h1 => ⟨⟨2, by omega, rfl, fun _ => k1 (by omega), fun _ => by simpa [Rw.ok] using h1, by omega, by omega⟩, by simp only [nth, toI]; omega⟩)⟩
   have : b.ok = false := by simpa [Rw.ok] using h1
   unfold okB; rw [this]; simp
  ·refine ⟨c.p, raw c.l, c.q, raw c.m, ⟨rfl, by simp [nth]⟩, _, rValid_mid hc.1 hc.2, brb (fun h1 => ?_) (fun h1 => ⟨⟨3, by omega, rfl, fun _ => k1 (by omega), fun _ => k2 (by omega), fun _ => by simpa [Rw.ok] using h1, by omega⟩, by simp only [nth, toI]; omega⟩)⟩
   have : c.ok = false := by simpa [Rw.ok] using h1
   unfold okB; rw [this]; simp
  ·refine ⟨d.p, raw d.l, d.q, raw d.m, ⟨rfl, by simp [nth]⟩, _, rValid_mid hd.1 hd.2, brb (fun h1 => ?_) (fun h1 => ⟨⟨4, by omega, rfl, fun _ => k1 (by omega), fun _ => k2 (by omega), fun _ => k3 (by omega), fun _ => by simpa [Rw.ok] using h1⟩, by simp only [nth, toI]; omega⟩)⟩
   have : d.ok = false := by simpa [Rw.ok] using h1
   unfold okB; rw [this]; simp
 ·have k1 := k1 (by omega)
  have k2 := k2 (by omega)
  have k3 := k3 (by omega)
  have k4 := k4 (by omega)
  obtain ⟨e1, z1⟩ := a.val_mid k1 ha
  obtain ⟨e2, z2⟩ := b.val_mid k2 hb
  obtain ⟨e3, z3⟩ := c.val_mid k3 hc
  obtain ⟨e4, z4⟩ := d.val_mid k4 hd
  have h1 : Gives CC 49 [.ag a.cs, .ag c.cs] [.c (.int .i64 (cmpR a.val c.val))] := by rw [e1, e3]; exact rCmp_ok z1 z3
  have h2 : Gives CC 49 [.ag b.cs, .ag d.cs] [.c (.int .i64 (cmpR b.val d.val))] := by rw [e2, e4]; exact rCmp_ok z2 z4
  have ho : okB a b c d = (decide (a.val < c.val) && decide (b.val < d.val)) := by unfold okB; rw [k1, k2, k3, k4]; rfl
  have c1 : decide (cmpR a.val c.val < 0) = decide (a.val < c.val) := decide_eq_decide.2 cmpR_lt
  have c2 : decide (cmpR b.val d.val < 0) = decide (b.val < d.val) := decide_eq_decide.2 cmpR_lt
  rw [ho, ← c1, ← c2]
  refine ⟨_, h1, brb (fun h3 => ⟨_, h2, ?_⟩) (fun h3 => ?_)⟩
  ·rw [h3]; rfl
  ·rw [h3]; rfl
structure Rb where
 a : Rw
 b : Rw
 c : Rw
 d : Rw
def Rb.cs (x : Rb) : List D := x.a.cs ++ (x.b.cs ++ (x.c.cs ++ x.d.cs))
def Rb.ok (x : Rb) : Bool := okB x.a x.b x.c x.d
def Rb.mid (x : Rb) : Prop := x.a.mid ∧ x.b.mid ∧ x.c.mid ∧ x.d.mid
theorem Rb.cs_eq (x : Rb) : x.cs = [.bool x.a.p, .sl (raw x.a.l), .bool x.a.q, .sl (raw x.a.m), .bool x.b.p, .sl (raw x.b.l), .bool x.b.q, .sl (raw x.b.m), .bool x.c.p, .sl (raw x.c.l), .bool x.c.q, .sl (raw x.c.m), .bool x.d.p, .sl (raw x.d.l), .bool x.d.q, .sl (raw x.d.m)] := rfl
def rbs (l : List Rb) : List (List D) := l.map Rb.cs
theorem rbs_length (l : List Rb) : (rbs l).length = l.length := by simp [rbs]
theorem nth_rbs {l : List Rb} {k : Nat} (h : k < l.length) : nth [] (rbs l) k = l[k].cs := by
 rw [nth_of_lt _ (by rw [rbs_length]; exact h)]; simp [rbs]
theorem seg_all : ∀ (l : List D), seg l 0 l.length = l := by
 have key : ∀ (n : Nat) (pre l : List D), l.length = n → seg (pre ++ l) pre.length n = l := by
  intro n
  induction n with
  | zero => intro pre l h; rw [List.eq_nil_of_length_eq_zero h]; rfl
  | succ n ih =>
   intro pre l h
   cases l with
   | nil => simp at h
   | cons x l =>
    have h1 := ih (pre ++ [x]) l (by simpa using h)
    rw [List.append_assoc] at h1
    simp only [seg]
    rw [nth_eq]
    simp only [List.length_append, List.length_cons, List.length_nil, Nat.zero_add, List.cons_append, List.nil_append] at h1
    rw [h1]; simp
 intro l
 have := key l.length [] l rfl
 simpa using this
theorem cut_all {l : List D} {n : Nat} (h : l.length = n) : cut l 0 n l := ⟨by rw [← h]; exact seg_all l, by omega⟩
theorem cov1_ok {x : Rb} (h : x.mid) : Gives CC 59 [.ag x.cs] [.c (.bool (!x.ok))] := by
 have h1 := cvalidBox_mid h.1 h.2.1 h.2.2.1 h.2.2.2
 refine wpF_ok (anns := fun _ => ⟨[], [], fun _ _ => True, fun _ => 0⟩) mixedT Tryz.func59 ?_
 rw [Rb.cs_eq, vc_cov1]
 exact ⟨_, h1, rfl⟩
theorem contf_ok {l : List Rb} (hl : l.length ≤ 1073741824) (hm : ∀ x ∈ l, x.mid) : Gives CC 58 [.c (.sl (rbs l)), .c (.fn 59)] [.c (.bool (!l.all Rb.ok))] := by
 have h1 : ∃ n : Int, Gives CC 113 [.c (.sl (rbs l)), .c (.fn 59)] [.c (.int .i64 n)] ∧ decide (n ≥ 0) = !l.all Rb.ok := by
  by_cases hall : l.all Rb.ok = true
  ·refine ⟨-1, ?_, by rw [hall]; rfl⟩
   refine wpF_ok (anns := fun _ => ⟨[.slot 8 (.int .i64 0)], [], fun _ ds => ∃ k : Nat, k ≤ l.length ∧ ds = [.int .i64 (k : Int)], fun ds => (l.length - toI (nth .undef ds 0)).toNat⟩) mixedT Tryz.func113 ?_
   rw [vc_idxf]
   simp only [Int.ofNat_eq_natCast, rbs_length]
   refine ⟨⟨0, by omega, rfl⟩, ?_⟩
   rintro n ⟨k, hk, he⟩
   simp only [List.cons.injEq, D.int.injEq, true_and, and_true] at he
   subst he
   refine brd (fun h => ?_) (fun h => by trivial)
   have hkl : k < l.length := by omega
   have hw : IntKind.wrap .i64 ((k : Int) + 1) = ((k + 1 : Nat) : Int) := by rw [i64w (by omega) (by omega)]; omega
   rw [hw, Int.toNat_natCast, nth_rbs hkl]
   have hx := List.all_eq_true.1 hall _ (List.getElem_mem hkl)
   refine ⟨⟨by omega, by omega, rfl⟩, _, _, _, _, _, _, _, _, _, _, _, _, _, _, _, _, cut_all (l := l[k].cs) rfl, _, cov1_ok (hm _ (List.getElem_mem hkl)), brb' (fun h2 => ?_) (fun h2 => ⟨⟨k + 1, by omega, rfl⟩, by simp only [nth, toI]; omega⟩)⟩
   rw [hx] at h2; simp at h2
  ·have hall : l.all Rb.ok = false := by simpa using hall
   obtain ⟨i, hi, hbad, hgood⟩ : ∃ i, ∃ hi : i < l.length, l[i].ok = false ∧ ∀ j (hj : j < i), (l[j]'(by omega)).ok = true := by
    have hex : ∃ i, ∃ hi : i < l.length, l[i].ok = false := by
     rw [List.all_eq_false] at hall
     obtain ⟨x, hx, hb⟩ := hall
     obtain ⟨i, hi, rfl⟩ := List.getElem_of_mem hx
     exact ⟨i, hi, by simpa using hb⟩
    let P : Nat → Prop := fun i => ∃ hi : i < l.length, l[i].ok = false
    have hP : ∃ i, P i := hex
    refine ⟨leastOf P, (leastOf_ok hP).1, (leastOf_ok hP).2, fun j hj => ?_⟩
    cases hjo : (l[j]'(by have := (leastOf_ok hP).1; omega)).ok with
    | true => rfl
    | false =>
     have : leastOf P ≤ j := leastOf_le ⟨by have := (leastOf_ok hP).1; omega, hjo⟩
     omega
   refine ⟨(i : Int), ?_, by rw [hall]; exact decide_eq_true (by omega)⟩
   refine wpF_ok (anns := fun _ => ⟨[.slot 8 (.int .i64 0)], [], fun _ ds => ∃ k : Nat, k ≤ i ∧ ds = [.int .i64 (k : Int)], fun ds => (l.length - toI (nth .undef ds 0)).toNat⟩) mixedT Tryz.func113 ?_
   rw [vc_idxf]
   simp only [Int.ofNat_eq_natCast, rbs_length]
   refine ⟨⟨0, by omega, rfl⟩, ?_⟩
   rintro n ⟨k, hk, he⟩
   simp only [List.cons.injEq, D.int.injEq, true_and, and_true] at he
   subst he
   have hkl : k < l.length := by omega
   have hw : IntKind.wrap .i64 ((k : Int) + 1) = ((k + 1 : Nat) : Int) := by rw [i64w (by omega) (by omega)]; omega
   refine brd (fun h => ?_) (fun h => absurd (by omega) h)
   rw [hw, Int.toNat_natCast, nth_rbs hkl]
   refine ⟨⟨by omega, by omega, rfl⟩, _, _, _, _, _, _, _, _, _, _, _, _, _, _, _, _, cut_all (l := l[k].cs) rfl, _, cov1_ok (hm _ (List.getElem_mem hkl)), brb' (fun h2 => ?_) (fun h2 => ⟨⟨k + 1, ?_, rfl⟩, by simp only [nth, toI]; omega⟩)⟩
   ·rcases Nat.lt_or_ge k i with h3 | h3
    ·rw [hgood k h3] at h2; simp at h2
    ·have : k = i := by omega
     subst this; rfl
   ·rcases Nat.lt_or_ge k i with h3 | h3
    ·omega
    ·have : k = i := by omega
     subst this
     rw [hbad] at h2; simp at h2
 obtain ⟨n, h1, h2⟩ := h1
 refine wpF_ok (anns := fun _ => ⟨[], [], fun _ _ => True, fun _ => 0⟩) mixedT Tryz.func58 ?_
 rw [vc_contf, ← h2]
 exact ⟨_, h1, rfl⟩
end Eng
end

section
namespace Eng
open Go Go.Proofs
set_option maxRecDepth 100000
def rats (rs : List Rat) : List (List D) := rs.map cR
theorem rats_length (rs : List Rat) : (rats rs).length = rs.length := by simp [rats]
theorem nth_rats {rs : List Rat} {k : Nat} (h : k < rs.length) : nth [] (rats rs) k = cR rs[k] := by
 rw [nth_of_lt _ (by rw [rats_length]; exact h)]; simp [rats]
def rnk (rs : List Rat) (x : Rat) : Nat := rs.findIdx fun y => !decide (y < x)
theorem rnk_of {rs : List Rat} {x : Rat} {i : Nat} (hi : i ≤ rs.length) (h1 : ∀ k (hk : k < rs.length), k < i → rs[k] < x) (h2 : ∀ hk : i < rs.length, ¬ rs[i] < x) : rnk rs x = i := by
 unfold rnk
 rcases Nat.lt_or_ge i rs.length with h | h
 ·rw [List.findIdx_eq h]
  refine ⟨by simpa using h2 h, fun j hj => ?_⟩
  simpa using h1 j (by omega) hj
 ·have : i = rs.length := by omega
  subst this
  rw [List.findIdx_eq_length]
  intro y hy
  obtain ⟨k, hk, rfl⟩ := List.getElem_of_mem hy
  simpa using h1 k hk hk
theorem half_wrap {i j : Nat} (h : i + j < 9223372036854775808) : IntKind.wrap .i64 (Int.fdiv (IntKind.wrap .u64 (IntKind.wrap .i64 ((i : Int) + (j : Int)))) 2) = (((i + j) / 2 : Nat) : Int) := by
 rw [i64w (n := (i : Int) + j) (by omega) (by omega), u64w (by omega) (by omega)]
 have : Int.fdiv ((i : Int) + (j : Int)) 2 = (((i + j) / 2 : Nat) : Int) := by
  rw [Int.fdiv_eq_ediv_of_nonneg _ (by omega)]; omega
 rw [this, i64w (by omega) (by omega)]
theorem bsearch_ok {rs : List Rat} {x : Rat} (hs : rs.Pairwise (· < ·)) (hr : ∀ y ∈ rs, Sr y) (hx : Sr x) (hl : rs.length ≤ 1073741824) :
 Gives CC 118 [.c (.sl (rats rs)), encR x, .c (.fn 49)] [.c (.int .i64 (rnk rs x : Int)), .c (.bool (decide (rnk rs x < rs.length) && (cmpR (rs.getD (rnk rs x) 0) x == 0)))] := by
 refine wpF_ok (anns := fun _ => ⟨[.slot 9 (.int .i64 0), .slot 10 (.int .i64 0)], [], fun _ ds => ∃ i j : Nat, i ≤ j ∧ j ≤ rs.length ∧ ds = [.int .i64 (i : Int), .int .i64 (j : Int)] ∧ (∀ k (hk : k < rs.length), k < i → rs[k] < x) ∧ (∀ k (hk : k < rs.length), j ≤ k → ¬ rs[k] < x),
  fun ds => (toI (nth .undef ds 1) - toI (nth .undef ds 0)).toNat⟩) mixedT Tryz.func118 ?_
 rw [encR_cells, vc_bsearch]
 simp only [Int.ofNat_eq_natCast, rats_length]
 refine ⟨⟨0, rs.length, by omega, by omega, rfl, by omega, by omega⟩, ?_⟩
 rintro n n1 ⟨i, j, hij, hj, he, k1, k2⟩
 simp only [List.cons.injEq, D.int.injEq, true_and, and_true] at he
 obtain ⟨rfl, rfl⟩ := he
 have hcell : ∀ k (hk : k < rs.length), cut (nth [] (rats rs) k) 0 4 (cR rs[k]) ∧ (nth [] (rats rs) k).length = 4 := fun k hk => by
  rw [nth_rats hk]; exact ⟨cut_all rfl, rfl⟩
 have hcmp : ∀ k (hk : k < rs.length), Gives CC 49 [encR rs[k], encR x] [.c (.int .i64 (cmpR rs[k] x))] := fun k hk => rCmp_ok (hr _ (List.getElem_mem hk)) hx
 refine brd (fun h => ?_) (fun h => ?_)
 ·rw [half_wrap (by omega), Int.toNat_natCast]
  have hm : (i + j) / 2 < rs.length := by omega
  have hmi : i ≤ (i + j) / 2 := by omega
  have hmj : (i + j) / 2 < j := by omega
  generalize (i + j) / 2 = m at *
  have hw : IntKind.wrap .i64 ((m : Int) + 1) = ((m + 1 : Nat) : Int) := by rw [i64w (by omega) (by omega)]; omega
  rw [hw]
  obtain ⟨c1, c2⟩ := hcell m hm
  have hc := hcmp m hm
  refine ⟨by omega, ⟨by omega, by omega, c2⟩, _, _, _, _, c1, _, hc, brd (fun h2 => ?_) (fun h2 => ?_)⟩
  ·rw [cmpR_lt] at h2
   refine ⟨⟨m + 1, j, by omega, hj, rfl, fun k hk hkm => ?_, k2⟩, by simp only [nth, toI]; omega⟩
   rcases Nat.lt_or_ge k m with h3 | h3
   ·have := List.pairwise_iff_getElem.1 hs k m hk hm h3
    grind
   ·have : k = m := by omega
    subst this; exact h2
  ·rw [cmpR_lt] at h2
   refine ⟨⟨i, m, hmi, by omega, rfl, k1, fun k hk hkm => ?_⟩, by simp only [nth, toI]; omega⟩
   rcases Nat.lt_or_ge m k with h3 | h3
   ·have := List.pairwise_iff_getElem.1 hs m k hm hk h3
    intro h4
    grind
   ·have : k = m := by omega
    subst this; exact h2
 ·have hij : i = j := by omega
  subst hij
  have hrk : rnk rs x = i := rnk_of hj (fun k hk h => k1 k hk h) (fun hk => k2 i hk (Nat.le_refl _))
  rw [hrk]
  refine brd (fun h2 => ?_) (fun h2 => ?_)
  ·have hi : i < rs.length := by omega
   obtain ⟨c1, c2⟩ := hcell i hi
   rw [Int.toNat_natCast]
   refine ⟨⟨by omega, by omega, c2⟩, _, _, _, _, c1, _, hcmp i hi, ?_⟩
   rw [decide_eq_true hi, Bool.true_and, List.getD_eq_getElem?_getD, List.getElem?_eq_getElem hi]
   rfl
  ·rw [decide_eq_false (by omega)]; rfl
theorem crank_ok {rs : List Rat} {x : Rat} (hs : rs.Pairwise (· < ·)) (hr : ∀ y ∈ rs, Sr y) (hx : Sr x) (hl : rs.length ≤ 1073741824) : Gives CC 62 [.c (.sl (rats rs)), encR x] [.c (.int .i64 (rnk rs x : Int))] := by
 have h := bsearch_ok hs hr hx hl
 refine wpF_ok (anns := fun _ => ⟨[], [], fun _ _ => True, fun _ => 0⟩) mixedT Tryz.func62 ?_
 rw [encR_cells] at h ⊢
 rw [vc_crank]
 exact ⟨_, _, h, rfl⟩
structure Bx where
 x0 : Rat
 y0 : Rat
 x1 : Rat
 y1 : Rat
def Bx.cs (b : Bx) : List D := cR b.x0 ++ (cR b.y0 ++ (cR b.x1 ++ cR b.y1))
def Bx.sr (b : Bx) : Prop := Sr b.x0 ∧ Sr b.y0 ∧ Sr b.x1 ∧ Sr b.y1
structure St4 where
 a : Nat
 b : Nat
 c : Nat
 d : Nat
def St4.cs (s : St4) : List D := [.int .i64 (s.a : Int), .int .i64 (s.b : Int), .int .i64 (s.c : Int), .int .i64 (s.d : Int)]
def strip (xs ys : List Rat) (b : Bx) : St4 := ⟨rnk xs b.x0, rnk ys b.y0, rnk xs b.x1, rnk ys b.y1⟩
theorem cut_one (d : D) : cut [d] 0 1 [d] := ⟨rfl, by simp⟩
theorem cov2_ok {xs ys : List Rat} {b : Bx} (hb : b.sr) (h1 : xs.Pairwise (· < ·)) (h2 : ys.Pairwise (· < ·)) (h3 : ∀ y ∈ xs, Sr y) (h4 : ∀ y ∈ ys, Sr y) (h5 : xs.length ≤ 1073741824) (h6 : ys.length ≤ 1073741824) :
 Gives CC 61 [.ag b.cs, .c (.ptr [.sl (rats xs)]), .c (.ptr [.sl (rats ys)])] [.ag (strip xs ys b).cs] := by
 have g1 := crank_ok h1 h3 hb.1 h5
 have g2 := crank_ok h2 h4 hb.2.1 h6
 have g3 := crank_ok h1 h3 hb.2.2.1 h5
 have g4 := crank_ok h2 h4 hb.2.2.2 h6
 refine wpF_ok (anns := fun _ => ⟨[], [], fun _ _ => True, fun _ => 0⟩) mixedT Tryz.func61 ?_
 have e : A.ag b.cs = encB b.x0 b.y0 b.x1 b.y1 := rfl
 rw [e, encB_cells, vc_cov2]
 exact ⟨_, cut_one _, _, g1, _, cut_one _, _, g2, _, cut_one _, _, g3, _, cut_one _, _, g4, rfl⟩
theorem cov3_ok (s t : St4) (hs : s.b < 2147483648) (ht : t.b < 2147483648) : Gives CC 64 [.ag s.cs, .ag t.cs] [.c (.int .i64 ((s.b : Int) - (t.b : Int)))] := by
 refine wpF_ok (anns := fun _ => ⟨[], [], fun _ _ => True, fun _ => 0⟩) mixedT Tryz.func64 ?_
 unfold St4.cs
 rw [vc_cov3, i64w (by omega) (by omega)]
theorem rks1_ok {x y : Rat} (hx : Sr x) (hy : Sr y) : Gives CC 117 [encR x, encR y] [.c (.bool (decide (x = y)))] := by
 have h := rCmp_ok hx hy
 refine wpF_ok (anns := fun _ => ⟨[], [], fun _ _ => True, fun _ => 0⟩) mixedT Tryz.func117 ?_
 have e : decide (x = y) = (cmpR x y == 0) := by
  rw [Bool.eq_iff_iff, decide_eq_true_eq, beq_iff_eq]
  unfold cmpR
  split
  ·constructor
   ·intro e; subst e; exact absurd (by assumption) Rat.lt_irrefl
   ·intro h; omega
  ·split
   ·constructor
    ·intro e; subst e; exact absurd (by assumption) Rat.lt_irrefl
    ·intro h; omega
   ·constructor
    ·intro _; rfl
    ·intro _; grind
 rw [e, encR_cells, encR_cells, vc_rks1]
 exact ⟨_, h, rfl⟩
end Eng
end
