/- The verification conditions of functions, printed by a program (vcgen.py) and checked by the kernel. -/
import Derived.Test.YtbehlcfelmbmlaaGreatDoorCtxB
import Derived.Test.YtbehlcfelmbmlaaGreatDoorRatA
import Derived.Test.YtbehlcfelmbmlaaGreatDoorTabA
import Derived.Test.YtbehlcfelmbmlaaGreatDoorRefC
import Derived.Test.YtbehlcfelmbmlaaGreatDoorRefB
import Derived.KernelRfl
section
open Go Go.Proofs Eng
set_option maxRecDepth 1000000
namespace Eng
theorem vc_qValid (Gv : Nat → List A → List A → Prop) (I0 : List D → List D → Prop) (M0 : List D → Nat) (p : Bool) (es : List (List D)) (Q : List A → Prop) :
 wpF CC Gv (fun _ => ⟨[.slot 3 (.int .i64 0)], [], I0, M0⟩) Tryz.f200 [.ag [.bool p, .sl es]] Q = (
 I0 [] [D.int .i64 (0 : Int)] ∧
 ∀ (n : Int),
 I0 [] [D.int .i64 n] →
 br (toB (D.bool (decide (n < (Int.ofNat (List.length es))))))
 (((0 : Int) ≤ n ∧ n < (Int.ofNat (List.length es)) ∧ List.length (nth [] es (Int.toNat n)) = 1) ∧
 ∃ n_1,
 cut (nth [] es (Int.toNat n)) 0 1 [D.int .u32 n_1] ∧
 br (toB (D.bool (decide (n_1 ≥ (1000000000 : Int))))) (Q [A.c (D.bool false)])
 (I0 [] [D.int .i64 (IntKind.wrap .i64 (n + (1 : Int)))] ∧
 M0 [D.int .i64 (IntKind.wrap .i64 (n + (1 : Int)))] < M0 [D.int .i64 n]))
 (∃ es_1,
 Gv 224 [A.c (D.sl es)] [A.c (D.sl es_1)] ∧
 br (toB (D.bool ((Int.ofNat (List.length es_1)) == (Int.ofNat (List.length es)))))
 (br (toB (D.bool !p)) (Q [A.c (D.bool true)]) (Q [A.c (D.bool (decide ((Int.ofNat (List.length es)) > (0 : Int))))])) (Q [A.c (D.bool false)]))) := by kernel_rfl
theorem vc_uValid (Gv : Nat → List A → List A → Prop) (p q : Bool) (es fs : List (List D)) (Q : List A → Prop) :
 wpF CC Gv (fun _ => ⟨[], [], fun _ _ => True, fun _ => 0⟩) Tryz.f108 [.ag [.bool p, .sl es, .bool q, .sl fs]] Q = (
 ∃ b,
 Gv 200 [A.ag [D.bool p, D.sl es]] [A.c (D.bool b)] ∧
 br (toB (D.bool !b)) (Q [A.c (D.bool false)])
 (∃ b,
 Gv 200 [A.ag [D.bool q, D.sl fs]] [A.c (D.bool b)] ∧
 br (toB (D.bool !b)) (Q [A.c (D.bool false)])
 (∃ n,
 Gv 173 [A.ag [D.bool q, D.sl fs]] [A.c (D.int .i64 n)] ∧
 br (toB (D.bool (n != (1 : Int)))) (Q [A.c (D.bool false)])
 (∃ b es_1,
 Gv 201 [A.ag [D.bool p, D.sl es], A.ag [D.bool q, D.sl fs]] [A.ag [D.bool b, D.sl es_1]] ∧
 ∃ b_1 es,
 Gv 69 [] [A.ag [D.bool b_1, D.sl es]] ∧
 ∃ b_2, Gv 67 [A.ag [D.bool b, D.sl es_1], A.ag [D.bool b_1, D.sl es]] [A.c (D.bool b_2)] ∧ Q [A.c (D.bool b_2)])))) := by kernel_rfl
end Eng
end

section
namespace Eng
open Go Go.Proofs
structure V2 where
  x : Rat
  y : Rat
def Sz (k : Nat) (r : Rat) : Prop := r.num.natAbs ≤ 10 ^ k ∧ r.den ≤ 10 ^ k
theorem Sz.mono {k m : Nat} {r : Rat} (h : Sz k r) (hk : k ≤ m) : Sz m r :=
  ⟨Nat.le_trans h.1 (Nat.pow_le_pow_right (by omega) hk), Nat.le_trans h.2 (Nat.pow_le_pow_right (by omega) hk)⟩
theorem ten_half : 10 ^ 250 < halfN := by decide
theorem Sz.sr {k : Nat} {r : Rat} (h : Sz k r) (hk : k ≤ 250) : Sr r := by
  have h2 := h.mono hk
  refine ⟨Nat.lt_of_le_of_lt h2.1 ten_half, Nat.lt_of_le_of_lt ?_ ten_half⟩
  rw [Int.natAbs_natCast]; exact h2.2
theorem Sz.divInt {n d : Int} {k : Nat} (hd : 0 < d) (h1 : n.natAbs ≤ 10 ^ k) (h2 : d.natAbs ≤ 10 ^ k) : Sz k (Rat.divInt n d) := by
  obtain ⟨e1, e2⟩ := divInt_nd (n := n) hd
  constructor
  · rw [e1]; exact Nat.le_trans (Int.natAbs_ediv_le_natAbs _ _) h1
  · have : ((Rat.divInt n d).den : Int).natAbs ≤ d.natAbs := by rw [e2]; exact Int.natAbs_ediv_le_natAbs _ _
    rw [Int.natAbs_natCast] at this
    exact Nat.le_trans this h2
theorem Sz.mul {k : Nat} {x y : Rat} (hx : Sz k x) (hy : Sz k y) : Sz (2 * k) (x * y) := by
  have e : x * y = Rat.divInt (x.num * y.num) (x.den * y.den) := by
    rw [← Rat.divInt_mul_divInt, Rat.num_divInt_den, Rat.num_divInt_den]
  have px := den_pos x
  have py := den_pos y
  rw [e, Nat.two_mul]
  refine Sz.divInt (Int.mul_pos px py) ?_ ?_
  · rw [Int.natAbs_mul, Nat.pow_add]; exact Nat.mul_le_mul hx.1 hy.1
  · rw [Int.natAbs_mul, Nat.pow_add, Int.natAbs_natCast, Int.natAbs_natCast]; exact Nat.mul_le_mul hx.2 hy.2
theorem num_pos {y : Rat} (h : 0 < y) : 0 < y.num := by
  have h1 : 0 ≤ y.num := Rat.num_nonneg.2 (Rat.le_of_lt h)
  have h2 : y.num ≠ 0 := fun h0 => by rw [Rat.num_eq_zero.1 h0] at h; exact Rat.lt_irrefl h
  omega
theorem Sz.int {n : Int} {k : Nat} (h : n.natAbs ≤ 10 ^ k) : Sz k (n : Rat) := by
  refine ⟨by rw [Rat.num_intCast]; exact h, by rw [Rat.den_intCast]; exact Nat.pow_pos (by omega)⟩
end Eng
end

section
namespace Eng
open Go Go.Proofs
set_option maxRecDepth 100000
theorem lastPos_iff : ∀ {l : List Nat}, lastPos (raw l) = true ↔ (l = [] ∨ l.getLast? ≠ some 0)
 | [] => by simp [raw, lastPos]
 | [x] => by
  simp only [raw, List.map_cons, List.map_nil, lastPos, natD, Int.toNat_natCast]
  rw [Nat.blt_eq]
  simp; omega
 | x :: y :: l => by
  have h2 : lastPos (raw (x :: y :: l)) = lastPos (raw (y :: l)) := rfl
  rw [h2, lastPos_iff, List.getLast?_cons_cons]
  simp
theorem limbsD_iff {l : List Nat} : limbsD (raw l) = true ↔ Limbs l := by
 constructor
 ·intro h
  obtain ⟨e1, e2, _⟩ := limbsD_ok h
  rw [raw_inj e1]; exact e2
 ·exact limbsD_raw
theorem okZ_iff {p : Bool} {l : List Nat} : okZ p (raw l) = true ↔ Limbs l ∧ (l = [] ∨ l.getLast? ≠ some 0) ∧ (l = [] → p = false) := by
 unfold okZ
 rw [Bool.and_eq_true, Bool.and_eq_true, limbsD_iff, lastPos_iff]
 refine and_congr Iff.rfl (and_congr Iff.rfl ?_)
 cases l with
 | nil => simp [raw]
 | cons x l => simp [raw]
theorem lim_len_iff {l : List Nat} (hl : Limbs l) : (lim (val l)).length = l.length ↔ (l = [] ∨ l.getLast? ≠ some 0) := by
 constructor
 ·intro h
  have e := val_inj (lim_limbs _) hl h (lim_val _)
  have h2 := lim_last (val l)
  rw [e] at h2; exact h2
 ·intro h; rw [lim_uniq hl h]
theorem qValid_ok {p : Bool} {l : List Nat} (hr : l.length ≤ 1073741824) : Gives CC 200 [.ag [.bool p, .sl (raw l)]] [.c (.bool (okZ p (raw l)))] := by
 refine wpF_ok (anns := fun _ => ⟨[.slot 3 (.int .i64 0)], [], fun _ ds => ∃ k : Nat, k ≤ l.length ∧ ds = [.int .i64 (k : Int)] ∧ Limbs (l.take k), fun ds => (l.length - toI (nth .undef ds 0)).toNat⟩) mixedT Tryz.func200 ?_
 rw [vc_qValid]
 simp only [Int.ofNat_eq_natCast, raw_length]
 refine ⟨⟨0, by omega, rfl, by simpa using Limbs.nil⟩, ?_⟩
 rintro n ⟨k, hk, he, hl⟩
 simp only [List.cons.injEq, D.int.injEq, true_and, and_true] at he
 subst he
 refine brd (fun h => ?_) (fun h => ?_)
 ·have hkl : k < l.length := by omega
  rw [Int.toNat_natCast]
  refine ⟨⟨by omega, by omega, raw_len1 hkl⟩, _, cut_raw hkl, brd (fun h2 => ?_) (fun h2 => ?_)⟩
  ·have : okZ p (raw l) = false := by
    rw [← Bool.not_eq_true, okZ_iff]
    rintro ⟨h3, _⟩
    have := h3.get hkl
    omega
   rw [this]
  ·have hw : IntKind.wrap .i64 ((k : Int) + 1) = ((k + 1 : Nat) : Int) := by rw [i64w (by omega) (by omega)]; omega
   rw [hw]
   refine ⟨⟨k + 1, by omega, rfl, ?_⟩, by simp only [nth, toI]; omega⟩
   rw [List.take_succ_eq_append_getElem hkl]
   exact hl.append (Limbs.cons (by omega) Limbs.nil)
 ·have hkl : k = l.length := by omega
  subst hkl
  rw [List.take_length] at hl
  have ht := qtrim_ok hl hr
  have hlen := lim_len_iff hl
  have ho := okZ_iff (p := p) (l := l)
  refine ⟨_, ht, ?_⟩
  rw [raw_length]
  have e : ((((lim (val l)).length : Nat) : Int) == ((l.length : Nat) : Int)) = decide ((lim (val l)).length = l.length) := by
   rw [Bool.eq_iff_iff]; simp only [beq_iff_eq, decide_eq_true_eq]; omega
  rw [e]
  refine brd (fun h2 => ?_) (fun h2 => ?_)
  ·have h3 := hlen.1 h2
   cases p with
   | false =>
    have : okZ false (raw l) = true := ho.2 ⟨hl, h3, fun _ => rfl⟩
    rw [this]; rfl
   | true =>
    have : okZ true (raw l) = decide (((l.length : Nat) : Int) > 0) := by
     rw [Bool.eq_iff_iff, ho, decide_eq_true_eq]
     constructor
     ·rintro ⟨_, _, h5⟩
      rcases Nat.eq_zero_or_pos l.length with h6 | h6
      ·exact absurd (h5 (List.eq_nil_of_length_eq_zero h6)) (by simp)
      ·omega
     ·intro h5; exact ⟨hl, h3, fun e => by subst e; simp at h5⟩
    rw [this]; rfl
  ·have : okZ p (raw l) = false := by
    rw [← Bool.not_eq_true, ho]
    rintro ⟨_, h5, _⟩
    exact h2 (hlen.2 h5)
   rw [this]
def okQ (p : Bool) (l : List Nat) (q : Bool) (m : List Nat) : Bool :=
 okZ p (raw l) && (okZ q (raw m) && (decide (0 < decZ q (raw m)) && (Nat.gcd (decZ p (raw l)).natAbs (decZ q (raw m)).natAbs == 1)))
theorem encI_dec {p : Bool} {l : List Nat} (h : okZ p (raw l) = true) : encI (decZ p (raw l)) = .ag [.bool p, .sl (raw l)] := by
 unfold encI; rw [okZ_ok h]
theorem decZ_abs (p : Bool) (l : List Nat) : (decZ p (raw l)).natAbs = val l := by
 unfold decZ; rw [valD_raw]; cases p
 ·simp
 ·simp
theorem dec_small {p : Bool} {l : List Nat} (h : okZ p (raw l) = true) (hl : l.length ≤ 6) : (decZ p (raw l)).natAbs < 10 ^ 54 := by
 rw [decZ_abs]
 have h1 := val_lt (okZ_iff.1 h).1
 have h2 : 1000000000 ^ l.length ≤ 1000000000 ^ 6 := Nat.pow_le_pow_right (by omega) hl
 omega
theorem small_sm {z : Int} (h : z.natAbs < 10 ^ 54) : Sm z := by
 unfold Sm
 exact Nat.lt_of_lt_of_le h (by decide)
theorem sgn_one {z : Int} : sgn z = 1 ↔ 0 < z := by unfold sgn; split <;> (try split) <;> omega
structure Rw where
 p : Bool
 l : List Nat
 q : Bool
 m : List Nat
def Rw.cs (x : Rw) : List D := [.bool x.p, .sl (raw x.l), .bool x.q, .sl (raw x.m)]
def Rw.ok (x : Rw) : Bool := okQ x.p x.l x.q x.m
def Rw.few (x : Rw) : Prop := x.l.length ≤ 6 ∧ x.m.length ≤ 6
end Eng
end
