/- The verification conditions of functions, printed by a program (vcgen.py) and checked by the kernel. -/
import Derived.Test.YtkkodaemmgpgfaaGreatDoorCtxB
import Derived.Test.YtkkodaemmgpgfaaGreatDoorRatA
import Derived.Test.YtkkodaemmgpgfaaGreatDoorTabA
import Derived.Test.YtkkodaemmgpgfaaGreatDoorRefC
import Derived.Test.YtkkodaemmgpgfaaGreatDoorRefB
import Derived.KernelRfl
section
open Go Go.Proofs Eng
set_option maxRecDepth 1000000
namespace Eng
theorem vc_iValid (Gv : Nat → List A → List A → Prop) (I0 : List D → List D → Prop) (M0 : List D → Nat) (p : Bool) (es : List (List D)) (Q : List A → Prop) :
 wpF CC Gv (fun _ => ⟨[.slot 9 (.int .i64 0)], [], I0, M0⟩) Tryz.f137 [.ag [.bool p, .sl es]] Q = (
 I0 [] [D.int .i64 (0 : Int)] ∧
 ∀ (n : Int),
 I0 [] [D.int .i64 n] →
 br (toB (D.bool (decide (n < (Int.ofNat (List.length es))))))
 (((0 : Int) ≤ n ∧ n < (Int.ofNat (List.length es)) ∧ List.length (nth [] es (Int.toNat n)) = 1) ∧
 ∃ n_1,
 cut (nth [] es (Int.toNat n)) 0 1 [D.int .u32 n_1] ∧
 br (toB (D.bool (decide (n_1 ≥ (1000000000 : Int))))) (Q [A.c (D.bool false)])
 (I0 [] [D.int .i64 (IntKind.wrap .i64 (n + (1 : Int)))] ∧
 M0 [D.int .i64 (IntKind.wrap .i64 (n + (1 : Int)))] < M0 [D.int .i64 n]))
 (br (toB (D.bool (decide ((Int.ofNat (List.length es)) > (0 : Int)))))
 (((0 : Int) ≤ IntKind.wrap .i64 ((Int.ofNat (List.length es)) - (1 : Int)) ∧
 IntKind.wrap .i64 ((Int.ofNat (List.length es)) - (1 : Int)) < (Int.ofNat (List.length es)) ∧
 List.length (nth [] es (Int.toNat (IntKind.wrap .i64 ((Int.ofNat (List.length es)) - (1 : Int))))) = 1) ∧
 ∃ n,
 cut (nth [] es (Int.toNat (IntKind.wrap .i64 ((Int.ofNat (List.length es)) - (1 : Int))))) 0 1 [D.int .u32 n] ∧
 Q [A.c (D.bool (n != (0 : Int)))])
 (Q [A.c (D.bool !p)]))) := by kernel_rfl
theorem vc_rValid (Gv : Nat → List A → List A → Prop) (p q : Bool) (es fs : List (List D)) (Q : List A → Prop) :
 wpF CC Gv (fun _ => ⟨[], [], fun _ _ => True, fun _ => 0⟩) Tryz.f85 [.ag [.bool p, .sl es, .bool q, .sl fs]] Q = (
 ∃ b,
 Gv 137 [A.ag [D.bool p, D.sl es]] [A.c (D.bool b)] ∧
 br (toB (D.bool !b)) (Q [A.c (D.bool false)])
 (∃ b,
 Gv 137 [A.ag [D.bool q, D.sl fs]] [A.c (D.bool b)] ∧
 br (toB (D.bool !b)) (Q [A.c (D.bool false)])
 (∃ n,
 Gv 103 [A.ag [D.bool q, D.sl fs]] [A.c (D.int .i64 n)] ∧
 br (toB (D.bool (decide (n ≤ (0 : Int))))) (Q [A.c (D.bool false)])
 (∃ b es_1,
 Gv 138 [A.ag [D.bool p, D.sl es], A.ag [D.bool q, D.sl fs]] [A.ag [D.bool b, D.sl es_1]] ∧
 ∃ b_1 es,
 Gv 139 [] [A.ag [D.bool b_1, D.sl es]] ∧
 ∃ n,
 Gv 105 [A.ag [D.bool b, D.sl es_1], A.ag [D.bool b_1, D.sl es]] [A.c (D.int .i64 n)] ∧
 Q [A.c (D.bool (n == (0 : Int)))])))) := by kernel_rfl
theorem vc_qValid (Gv : Nat → List A → List A → Prop) (I0 : List D → List D → Prop) (M0 : List D → Nat) (p : Bool) (es : List (List D)) (Q : List A → Prop) :
 wpF CC Gv (fun _ => ⟨[.slot 3 (.int .i64 0)], [], I0, M0⟩) Tryz.f99 [.ag [.bool p, .sl es]] Q = (
 I0 [] [D.int .i64 (0 : Int)] ∧
 ∀ (n : Int),
 I0 [] [D.int .i64 n] →
 br (toB (D.bool (decide (n < (Int.ofNat (List.length es))))))
 (((0 : Int) ≤ n ∧ n < (Int.ofNat (List.length es)) ∧ List.length (nth [] es (Int.toNat n)) = 1) ∧
 ∃ n_1,
 cut (nth [] es (Int.toNat n)) 0 1 [D.int .u32 n_1] ∧
 br (toB (D.bool (decide (n_1 ≥ (1000000000 : Int))))) (Q [A.c (D.bool false)])
 (I0 [] [D.int .i64 (IntKind.wrap .i64 (n + (1 : Int)))] ∧
 M0 [D.int .i64 (IntKind.wrap .i64 (n + (1 : Int)))] < M0 [D.int .i64 n]))
 (∃ es_1,
 Gv 154 [A.c (D.sl es)] [A.c (D.sl es_1)] ∧
 br (toB (D.bool ((Int.ofNat (List.length es_1)) == (Int.ofNat (List.length es)))))
 (br (toB (D.bool !p)) (Q [A.c (D.bool true)]) (Q [A.c (D.bool (decide ((Int.ofNat (List.length es)) > (0 : Int))))])) (Q [A.c (D.bool false)]))) := by kernel_rfl
theorem vc_uValid (Gv : Nat → List A → List A → Prop) (p q : Bool) (es fs : List (List D)) (Q : List A → Prop) :
 wpF CC Gv (fun _ => ⟨[], [], fun _ _ => True, fun _ => 0⟩) Tryz.f45 [.ag [.bool p, .sl es, .bool q, .sl fs]] Q = (
 ∃ b,
 Gv 99 [A.ag [D.bool p, D.sl es]] [A.c (D.bool b)] ∧
 br (toB (D.bool !b)) (Q [A.c (D.bool false)])
 (∃ b,
 Gv 99 [A.ag [D.bool q, D.sl fs]] [A.c (D.bool b)] ∧
 br (toB (D.bool !b)) (Q [A.c (D.bool false)])
 (∃ n,
 Gv 100 [A.ag [D.bool q, D.sl fs]] [A.c (D.int .i64 n)] ∧
 br (toB (D.bool (n != (1 : Int)))) (Q [A.c (D.bool false)])
 (∃ b es_1,
 Gv 102 [A.ag [D.bool p, D.sl es], A.ag [D.bool q, D.sl fs]] [A.ag [D.bool b, D.sl es_1]] ∧
 ∃ b_1 es,
 Gv 98 [] [A.ag [D.bool b_1, D.sl es]] ∧
 ∃ b_2, Gv 101 [A.ag [D.bool b, D.sl es_1], A.ag [D.bool b_1, D.sl es]] [A.c (D.bool b_2)] ∧ Q [A.c (D.bool b_2)])))) := by kernel_rfl
theorem vc_eshort (Gv : Nat → List A → List A → Prop) (p q : Bool) (es fs : List (List D)) (n : Int) (Q : List A → Prop) :
 wpF CC Gv (fun _ => ⟨[], [], fun _ _ => True, fun _ => 0⟩) Tryz.f44 [.ag [.bool p, .sl es, .bool q, .sl fs], .c (.int .i64 n)] Q = (
 br (toB (D.bool (decide ((Int.ofNat (List.length es)) ≤ n)))) (Q [A.c (D.bool (decide ((Int.ofNat (List.length fs)) ≤ n)))]) (Q [A.c (D.bool false)])) := by kernel_rfl
end Eng
end

section
open Go Go.Proofs Eng
set_option maxRecDepth 1000000
namespace Eng
theorem vc_qSame (Gv : Nat → List A → List A → Prop) (p q : Bool) (es fs : List (List D)) (Q : List A → Prop) :
 wpF CC Gv (fun _ => ⟨[], [], fun _ _ => True, fun _ => 0⟩) Tryz.f101 [.ag [.bool p, .sl es], .ag [.bool q, .sl fs]] Q = (
 br (toB (D.bool (p == q))) (∃ n, Gv 128 [A.c (D.sl es), A.c (D.sl fs)] [A.c (D.int .i64 n)] ∧ Q [A.c (D.bool (n == (0 : Int)))])
 (Q [A.c (D.bool false)])) := by kernel_rfl
theorem vc_cSmall (Gv : Nat → List A → List A → Prop) (p1 q1 p2 q2 p3 q3 p4 q4 : Bool) (l1 m1 l2 m2 l3 m3 l4 m4 : List (List D)) (n : Int) (Q : List A → Prop) :
 wpF CC Gv (fun _ => ⟨[], [], fun _ _ => True, fun _ => 0⟩) Tryz.f10 [.ag [.bool p1, .sl l1, .bool q1, .sl m1, .bool p2, .sl l2, .bool q2, .sl m2, .bool p3, .sl l3, .bool q3, .sl m3, .bool p4, .sl l4, .bool q4, .sl m4], .c (.int .i64 n)] Q = (
 ∃ b,
 Gv 44 [A.ag [D.bool p1, D.sl l1, D.bool q1, D.sl m1], A.c (D.int .i64 n)] [A.c (D.bool b)] ∧
 br b
 (∃ b,
 Gv 44 [A.ag [D.bool p2, D.sl l2, D.bool q2, D.sl m2], A.c (D.int .i64 n)] [A.c (D.bool b)] ∧
 br b
 (∃ b,
 Gv 44 [A.ag [D.bool p3, D.sl l3, D.bool q3, D.sl m3], A.c (D.int .i64 n)] [A.c (D.bool b)] ∧
 br b (∃ b, Gv 44 [A.ag [D.bool p4, D.sl l4, D.bool q4, D.sl m4], A.c (D.int .i64 n)] [A.c (D.bool b)] ∧ Q [A.c (D.bool b)])
 (Q [A.c (D.bool false)]))
 (Q [A.c (D.bool false)]))
 (Q [A.c (D.bool false)])) := by kernel_rfl
theorem vc_enumbers (Gv : Nat → List A → List A → Prop) (p1 q1 p2 q2 p3 q3 p4 q4 : Bool) (l1 m1 l2 m2 l3 m3 l4 m4 : List (List D)) (Q : List A → Prop) :
 wpF CC Gv (fun _ => ⟨[], [], fun _ _ => True, fun _ => 0⟩) Tryz.f84 [.ag [.bool p1, .sl l1, .bool q1, .sl m1, .bool p2, .sl l2, .bool q2, .sl m2, .bool p3, .sl l3, .bool q3, .sl m3, .bool p4, .sl l4, .bool q4, .sl m4]] Q = (
 ∃ b,
 Gv 45 [A.ag [D.bool p1, D.sl l1, D.bool q1, D.sl m1]] [A.c (D.bool b)] ∧
 br b
 (∃ b,
 Gv 45 [A.ag [D.bool p2, D.sl l2, D.bool q2, D.sl m2]] [A.c (D.bool b)] ∧
 br b
 (∃ b,
 Gv 45 [A.ag [D.bool p3, D.sl l3, D.bool q3, D.sl m3]] [A.c (D.bool b)] ∧
 br b (∃ b, Gv 45 [A.ag [D.bool p4, D.sl l4, D.bool q4, D.sl m4]] [A.c (D.bool b)] ∧ Q [A.c (D.bool b)]) (Q [A.c (D.bool false)]))
 (Q [A.c (D.bool false)]))
 (Q [A.c (D.bool false)])) := by kernel_rfl
end Eng
end

section
namespace Eng
open Go Go.Proofs
structure V2 where
 x : Rat
 y : Rat
def Sz (k : Nat) (r : Rat) : Prop := r.num.natAbs ≤ 10 ^ k ∧ r.den ≤ 10 ^ k
theorem Sz.divInt {n d : Int} {k : Nat} (hd : 0 < d) (h1 : n.natAbs ≤ 10 ^ k) (h2 : d.natAbs ≤ 10 ^ k) : Sz k (Rat.divInt n d) := by
 obtain ⟨e1, e2⟩ := divInt_nd (n := n) hd
 constructor
 ·rw [e1]; exact Nat.le_trans (Int.natAbs_ediv_le_natAbs _ _) h1
 ·have : ((Rat.divInt n d).den : Int).natAbs ≤ d.natAbs := by rw [e2]; exact Int.natAbs_ediv_le_natAbs _ _
  rw [Int.natAbs_natCast] at this
  exact Nat.le_trans this h2
end Eng
end

section
namespace Eng
open Go Go.Proofs
set_option maxRecDepth 100000
theorem lastPos_iff : ∀ {l : List Nat}, lastPos (raw l) = true ↔ (l = [] ∨ l.getLast? ≠ some 0)
 | [] => by simp [raw, lastPos]
 | [x] => by
  simp only [raw, List.map_cons, List.map_nil, lastPos, natD, Int.toNat_natCast]
  rw [Nat.blt_eq]
  simp; omega
 | x :: y :: l => by
  have h2 : lastPos (raw (x :: y :: l)) = lastPos (raw (y :: l)) := rfl
  rw [h2, lastPos_iff, List.getLast?_cons_cons]
  simp
theorem limbsD_iff {l : List Nat} : limbsD (raw l) = true ↔ Limbs l := by
 constructor
 ·intro h
  obtain ⟨e1, e2, _⟩ := limbsD_ok h
  rw [raw_inj e1]; exact e2
 ·exact limbsD_raw
theorem okZ_iff {p : Bool} {l : List Nat} : okZ p (raw l) = true ↔ Limbs l ∧ (l = [] ∨ l.getLast? ≠ some 0) ∧ (l = [] → p = false) := by
 unfold okZ
 rw [Bool.and_eq_true, Bool.and_eq_true, limbsD_iff, lastPos_iff]
 refine and_congr Iff.rfl (and_congr Iff.rfl ?_)
 cases l with
 | nil => simp [raw]
 | cons x l => simp [raw]
theorem getLast_idx {l : List Nat} (h : 0 < l.length) : l.getLast? = some (l[l.length - 1]'(by omega)) := by
 rw [List.getLast?_eq_getElem?, List.getElem?_eq_getElem (by omega)]
theorem iValid_ok {p : Bool} {l : List Nat} (hr : l.length ≤ 1073741824) : Gives CC 137 [.ag [.bool p, .sl (raw l)]] [.c (.bool (okZ p (raw l)))] := by
 refine wpF_ok (anns := fun _ => ⟨[.slot 9 (.int .i64 0)], [], fun _ ds => ∃ k : Nat, k ≤ l.length ∧ ds = [.int .i64 (k : Int)] ∧ Limbs (l.take k), fun ds => (l.length - toI (nth .undef ds 0)).toNat⟩) mixedT Tryz.func137 ?_
 rw [vc_iValid]
 simp only [Int.ofNat_eq_natCast, raw_length]
 refine ⟨⟨0, by omega, rfl, by simpa using Limbs.nil⟩, ?_⟩
 rintro n ⟨k, hk, he, hl⟩
 simp only [List.cons.injEq, D.int.injEq, true_and, and_true] at he
 subst he
 refine brd (fun h => ?_) (fun h => ?_)
 ·have hkl : k < l.length := by omega
  rw [Int.toNat_natCast]
  refine ⟨⟨by omega, by omega, raw_len1 hkl⟩, _, cut_raw hkl, brd (fun h2 => ?_) (fun h2 => ?_)⟩
  ·have : okZ p (raw l) = false := by
    rw [← Bool.not_eq_true, okZ_iff]
    rintro ⟨h3, _⟩
    have := h3.get hkl
    omega
   rw [this]
  ·have hw : IntKind.wrap .i64 ((k : Int) + 1) = ((k + 1 : Nat) : Int) := by rw [i64w (by omega) (by omega)]; omega
   rw [hw]
   refine ⟨⟨k + 1, by omega, rfl, ?_⟩, by simp only [nth, toI]; omega⟩
   rw [List.take_succ_eq_append_getElem hkl]
   exact hl.append (Limbs.cons (by omega) Limbs.nil)
 ·have hkl : k = l.length := by omega
  subst hkl
  rw [List.take_length] at hl
  refine brd (fun h2 => ?_) (fun h2 => ?_)
  ·have h3 : 0 < l.length := by omega
   have hw : IntKind.wrap .i64 ((l.length : Int) - 1) = ((l.length - 1 : Nat) : Int) := by rw [i64w (by omega) (by omega)]; omega
   rw [hw, Int.toNat_natCast]
   refine ⟨⟨by omega, by omega, raw_len1 (by omega)⟩, _, cut_raw (by omega), ?_⟩
   have hne : l ≠ [] := by intro e; subst e; simp at h3
   have e : okZ p (raw l) = (((l[l.length - 1] : Nat) : Int) != 0) := by
    rw [Bool.eq_iff_iff, okZ_iff, getLast_idx h3]
    simp only [bne_iff_ne, ne_eq, Option.some.injEq]
    constructor
    ·rintro ⟨_, h5, _⟩
     rcases h5 with h5 | h5
     ·exact absurd h5 hne
     ·omega
    ·intro h5; exact ⟨hl, .inr (by omega), fun e => absurd e hne⟩
   rw [e]
  ·have h3 : l = [] := List.eq_nil_of_length_eq_zero (by omega)
   subst h3
   cases p <;> rfl
theorem lim_len_iff {l : List Nat} (hl : Limbs l) : (lim (val l)).length = l.length ↔ (l = [] ∨ l.getLast? ≠ some 0) := by
 constructor
 ·intro h
  have e := val_inj (lim_limbs _) hl h (lim_val _)
  have h2 := lim_last (val l)
  rw [e] at h2; exact h2
 ·intro h; rw [lim_uniq hl h]
theorem qValid_ok {p : Bool} {l : List Nat} (hr : l.length ≤ 1073741824) : Gives CC 99 [.ag [.bool p, .sl (raw l)]] [.c (.bool (okZ p (raw l)))] := by
 refine wpF_ok (anns := fun _ => ⟨[.slot 3 (.int .i64 0)], [], fun _ ds => ∃ k : Nat, k ≤ l.length ∧ ds = [.int .i64 (k : Int)] ∧ Limbs (l.take k), fun ds => (l.length - toI (nth .undef ds 0)).toNat⟩) mixedT Tryz.func99 ?_
 rw [vc_qValid]
 simp only [Int.ofNat_eq_natCast, raw_length]
 refine ⟨⟨0, by omega, rfl, by simpa using Limbs.nil⟩, ?_⟩
 rintro n ⟨k, hk, he, hl⟩
 simp only [List.cons.injEq, D.int.injEq, true_and, and_true] at he
 subst he
 refine brd (fun h => ?_) (fun h => ?_)
 ·have hkl : k < l.length := by omega
  rw [Int.toNat_natCast]
  refine ⟨⟨by omega, by omega, raw_len1 hkl⟩, _, cut_raw hkl, brd (fun h2 => ?_) (fun h2 => ?_)⟩
  ·have : okZ p (raw l) = false := by
    rw [← Bool.not_eq_true, okZ_iff]
    rintro ⟨h3, _⟩
    have := h3.get hkl
    omega
   rw [this]
  ·have hw : IntKind.wrap .i64 ((k : Int) + 1) = ((k + 1 : Nat) : Int) := by rw [i64w (by omega) (by omega)]; omega
   rw [hw]
   refine ⟨⟨k + 1, by omega, rfl, ?_⟩, by simp only [nth, toI]; omega⟩
   rw [List.take_succ_eq_append_getElem hkl]
   exact hl.append (Limbs.cons (by omega) Limbs.nil)
 ·have hkl : k = l.length := by omega
  subst hkl
  rw [List.take_length] at hl
  have ht := qtrim_ok hl hr
  have hlen := lim_len_iff hl
  have ho := okZ_iff (p := p) (l := l)
  refine ⟨_, ht, ?_⟩
  rw [raw_length]
  have e : ((((lim (val l)).length : Nat) : Int) == ((l.length : Nat) : Int)) = decide ((lim (val l)).length = l.length) := by
   rw [Bool.eq_iff_iff]; simp only [beq_iff_eq, decide_eq_true_eq]; omega
  rw [e]
  refine brd (fun h2 => ?_) (fun h2 => ?_)
  ·have h3 := hlen.1 h2
   cases p with
   | false =>
    have : okZ false (raw l) = true := ho.2 ⟨hl, h3, fun _ => rfl⟩
    rw [this]; rfl
   | true =>
    have : okZ true (raw l) = decide (((l.length : Nat) : Int) > 0) := by
     rw [Bool.eq_iff_iff, ho, decide_eq_true_eq]
     constructor
     ·rintro ⟨_, _, h5⟩
      rcases Nat.eq_zero_or_pos l.length with h6 | h6
      ·exact absurd (h5 (List.eq_nil_of_length_eq_zero h6)) (by simp)
      ·omega
     ·intro h5; exact ⟨hl, h3, fun e => by subst e; simp at h5⟩
    rw [this]; rfl
  ·have : okZ p (raw l) = false := by
    rw [← Bool.not_eq_true, ho]
    rintro ⟨_, h5, _⟩
    exact h2 (hlen.2 h5)
   rw [this]
def okQ (p : Bool) (l : List Nat) (q : Bool) (m : List Nat) : Bool :=
 okZ p (raw l) && (okZ q (raw m) && (decide (0 < decZ q (raw m)) && (Nat.gcd (decZ p (raw l)).natAbs (decZ q (raw m)).natAbs == 1)))
theorem encI_dec {p : Bool} {l : List Nat} (h : okZ p (raw l) = true) : encI (decZ p (raw l)) = .ag [.bool p, .sl (raw l)] := by
 unfold encI; rw [okZ_ok h]
theorem decZ_abs (p : Bool) (l : List Nat) : (decZ p (raw l)).natAbs = val l := by
 unfold decZ; rw [valD_raw]; cases p
 ·simp
 ·simp
theorem dec_small {p : Bool} {l : List Nat} (h : okZ p (raw l) = true) (hl : l.length ≤ 2) : (decZ p (raw l)).natAbs < 10 ^ 18 := by
 rw [decZ_abs]
 have h1 := val_lt (okZ_iff.1 h).1
 have h2 : 1000000000 ^ l.length ≤ 1000000000 ^ 2 := Nat.pow_le_pow_right (by omega) hl
 omega
theorem small_sm {z : Int} (h : z.natAbs < 10 ^ 18) : Sm z := by
 unfold Sm
 exact Nat.lt_of_lt_of_le h (by decide)
theorem sgn_le {z : Int} : sgn z ≤ 0 ↔ z ≤ 0 := by unfold sgn; split <;> (try split) <;> omega
theorem sgn_one {z : Int} : sgn z = 1 ↔ 0 < z := by unfold sgn; split <;> (try split) <;> omega
theorem cmpZ_zero {x y : Int} : cmpZ x y = 0 ↔ x = y := by unfold cmpZ; split <;> (try split) <;> omega
structure Rw where
 p : Bool
 l : List Nat
 q : Bool
 m : List Nat
def Rw.cs (x : Rw) : List D := [.bool x.p, .sl (raw x.l), .bool x.q, .sl (raw x.m)]
def Rw.ok (x : Rw) : Bool := okQ x.p x.l x.q x.m
def Rw.few (x : Rw) : Prop := x.l.length ≤ 2 ∧ x.m.length ≤ 2
end Eng
end

section
namespace Eng
open Go Go.Proofs
set_option maxRecDepth 100000
theorem qSame_ok {x y : Int} (hx : Sm x) (hy : Sm y) : Gives CC 101 [encI x, encI y] [.c (.bool (decide (x = y)))] := by
 refine wpF_ok (anns := fun _ => ⟨[], [], fun _ _ => True, fun _ => 0⟩) mixedT Tryz.func101 ?_
 rw [encI_cells, encI_cells, vc_qSame]
 have hc := qcompare_ok (x := x.natAbs) (y := y.natAbs) (Nat.le_trans hx.len (by omega)) (Nat.le_trans hy.len (by omega))
 refine brb (fun h => ⟨_, hc, ?_⟩) (fun h => ?_)
 ·rw [beq_iff_eq, decide_eq_decide] at h
  have : (cmpN x.natAbs y.natAbs == 0) = decide (x = y) := by
   rw [Bool.eq_iff_iff, beq_iff_eq, decide_eq_true_eq]
   unfold cmpN
   split
   ·omega
   ·split <;> omega
  rw [this]
 ·have : decide (x = y) = false := by
   refine decide_eq_false fun e => ?_
   subst e; simp at h
  rw [this]
theorem uValid_ok {p q : Bool} {l m : List Nat} (hl : l.length ≤ 2) (hm : m.length ≤ 2) : Gives CC 45 [.ag [.bool p, .sl (raw l), .bool q, .sl (raw m)]] [.c (.bool (okQ p l q m))] := by
 refine wpF_ok (anns := fun _ => ⟨[], [], fun _ _ => True, fun _ => 0⟩) mixedT Tryz.func45 ?_
 rw [vc_uValid]
 refine ⟨_, qValid_ok (by omega), ?_⟩
 cases h1 : okZ p (raw l) with
 | false => refine brb (fun _ => ?_) (fun h => by simp at h); unfold okQ; rw [h1]; rfl
 | true =>
  refine brb (fun h => by simp at h) (fun _ => ⟨_, qValid_ok (by omega), ?_⟩)
  cases h2 : okZ q (raw m) with
  | false => refine brb (fun _ => ?_) (fun h => by simp at h); unfold okQ; rw [h1, h2]; rfl
  | true =>
   refine brb (fun h => by simp at h) (fun _ => ?_)
   have s1 := small_sm (dec_small h1 hl)
   have s2 := small_sm (dec_small h2 hm)
   have hs := qSign_ok (decZ q (raw m))
   have hg := qGCD_ok partsOk s1 s2
   have hu := uunit_ok
   have hsm : Sm ((Nat.gcd (decZ p (raw l)).natAbs (decZ q (raw m)).natAbs : Nat) : Int) := by
    rw [smN]
    rcases Nat.eq_zero_or_pos (decZ p (raw l)).natAbs with h | h
    ·rw [h, Nat.gcd_zero_left]; exact s2
    ·exact Nat.lt_of_le_of_lt (Nat.gcd_le_left _ h) s1
   have hc := qSame_ok hsm sm_one
   have ho : okQ p l q m = (decide (0 < decZ q (raw m)) && (Nat.gcd (decZ p (raw l)).natAbs (decZ q (raw m)).natAbs == 1)) := by
    unfold okQ; rw [h1, h2]; simp
   rw [encI_dec h2] at hs
   rw [encI_dec h1, encI_dec h2] at hg
   rw [ho]
   clear ho
   generalize Nat.gcd (decZ p (raw l)).natAbs (decZ q (raw m)).natAbs = g at hg hsm hc ⊢
   generalize decZ q (raw m) = z at hs ⊢
   rw [encI_cells] at hg hu
   rw [encI_cells, encI_cells] at hc
   refine ⟨_, hs, brb (fun h => ?_) (fun h => ⟨_, _, hg, _, _, hu, _, hc, ?_⟩)⟩
   ·rw [decide_eq_false (by have := mt sgn_one.2 (by simpa using h); omega)]; rfl
   ·have e : decide (0 < z) = true := decide_eq_true (sgn_one.1 (by simpa using h))
    rw [e, Bool.true_and]
    have : decide ((g : Int) = 1) = (g == 1) := by
     rw [Bool.eq_iff_iff, decide_eq_true_eq, beq_iff_eq]; omega
    rw [this]
def fewN (x : Rw) (n : Int) : Bool := decide ((x.l.length : Int) ≤ n) && decide ((x.m.length : Int) ≤ n)
theorem few_iff {x : Rw} : fewN x 2 = true ↔ x.few := by
 unfold fewN Rw.few
 rw [Bool.and_eq_true, decide_eq_true_eq, decide_eq_true_eq]
 omega
theorem eshort_ok (x : Rw) (n : Int) : Gives CC 44 [.ag x.cs, .c (.int .i64 n)] [.c (.bool (fewN x n))] := by
 obtain ⟨p, l, q, m⟩ := x
 refine wpF_ok (anns := fun _ => ⟨[], [], fun _ _ => True, fun _ => 0⟩) mixedT Tryz.func44 ?_
 simp only [Rw.cs]
 rw [vc_eshort]
 simp only [Int.ofNat_eq_natCast, raw_length, fewN]
 refine brd (fun h => ?_) (fun h => ?_)
 ·rw [decide_eq_true h]; rfl
 ·rw [decide_eq_false h]; rfl
def boxA (a b c d : Rw) : A := .ag (a.cs ++ (b.cs ++ (c.cs ++ d.cs)))
theorem cSmall_ok (a b c d : Rw) (n : Int) : Gives CC 10 [boxA a b c d, .c (.int .i64 n)] [.c (.bool (fewN a n && (fewN b n && (fewN c n && fewN d n))))] := by
 have h1 := eshort_ok a n
 have h2 := eshort_ok b n
 have h3 := eshort_ok c n
 have h4 := eshort_ok d n
 refine wpF_ok (anns := fun _ => ⟨[], [], fun _ _ => True, fun _ => 0⟩) mixedT Tryz.func10 ?_
 have e : boxA a b c d = .ag [.bool a.p, .sl (raw a.l), .bool a.q, .sl (raw a.m), .bool b.p, .sl (raw b.l), .bool b.q, .sl (raw b.m), .bool c.p, .sl (raw c.l), .bool c.q, .sl (raw c.m), .bool d.p, .sl (raw d.l), .bool d.q, .sl (raw d.m)] := rfl
 rw [e, vc_cSmall]
 refine ⟨_, h1, brb' (fun e1 => ⟨_, h2, brb' (fun e2 => ⟨_, h3, brb' (fun e3 => ⟨_, h4, ?_⟩) (fun e3 => ?_)⟩) (fun e2 => ?_)⟩) (fun e1 => ?_)⟩
 ·rw [e1, e2, e3]; rfl
 ·rw [e1, e2, e3]; rfl
 ·rw [e1, e2]; rfl
 ·rw [e1]; rfl
def Rw.val (x : Rw) : Rat := Rat.divInt (decZ x.p (raw x.l)) (decZ x.q (raw x.m))
theorem Rw.val_ok {x : Rw} (h : x.ok = true) (hf : x.few) : x.cs = cR x.val ∧ Sz 18 x.val := by
 obtain ⟨p, l, q, m⟩ := x
 simp only [Rw.ok, okQ, Bool.and_eq_true, decide_eq_true_eq, beq_iff_eq] at h
 obtain ⟨h1, h2, h3, h4⟩ := h
 have b1 := dec_small h1 hf.1
 have b2 := dec_small h2 hf.2
 have hs : Sz 18 (Rat.divInt (decZ p (raw l)) (decZ q (raw m))) := Sz.divInt h3 (by omega) (by omega)
 refine ⟨?_, hs⟩
 have e := encR_divInt (n := decZ p (raw l)) h3
 rw [h4] at e
 have e2 : ∀ z : Int, z / ((1 : Nat) : Int) = z := fun z => by simp
 rw [e2, e2, okZ_ok h1, okZ_ok h2] at e
 unfold encR at e
 have e3 := A.ag.inj e
 show _ = cR (Rat.divInt (decZ p (raw l)) (decZ q (raw m)))
 rw [e3]; rfl
theorem enumbers_ok {a b c d : Rw} (ha : a.few) (hb : b.few) (hc : c.few) (hd : d.few) : Gives CC 84 [boxA a b c d] [.c (.bool (a.ok && (b.ok && (c.ok && d.ok))))] := by
 have h1 := uValid_ok (p := a.p) (q := a.q) ha.1 ha.2
 have h2 := uValid_ok (p := b.p) (q := b.q) hb.1 hb.2
 have h3 := uValid_ok (p := c.p) (q := c.q) hc.1 hc.2
 have h4 := uValid_ok (p := d.p) (q := d.q) hd.1 hd.2
 refine wpF_ok (anns := fun _ => ⟨[], [], fun _ _ => True, fun _ => 0⟩) mixedT Tryz.func84 ?_
 have e : boxA a b c d = .ag [.bool a.p, .sl (raw a.l), .bool a.q, .sl (raw a.m), .bool b.p, .sl (raw b.l), .bool b.q, .sl (raw b.m), .bool c.p, .sl (raw c.l), .bool c.q, .sl (raw c.m), .bool d.p, .sl (raw d.l), .bool d.q, .sl (raw d.m)] := rfl
 rw [e, vc_enumbers]
 unfold Rw.ok
 refine ⟨_, h1, brb' (fun e1 => ⟨_, h2, brb' (fun e2 => ⟨_, h3, brb' (fun e3 => ⟨_, h4, ?_⟩) (fun e3 => ?_)⟩) (fun e2 => ?_)⟩) (fun e1 => ?_)⟩
 ·rw [e1, e2, e3]; rfl
 ·rw [e1, e2, e3]; rfl
 ·rw [e1, e2]; rfl
 ·rw [e1]; rfl
end Eng
end
