/- Decimal digits of numbers, and the text of a length in millimetres: plain laws. -/
import Derived.Test.YtkkodaemmgpgfaaGreatDoorRatA
import Derived.Test.YtkkodaemmgpgfaaGreatDoorEngA
import Derived.Test.YtkkodaemmgpgfaaGreatDoorCtxB
import Derived.Test.YtkkodaemmgpgfaaGreatDoorDivA
import Derived.Test.YtkkodaemmgpgfaaGreatDoorCdA
import Derived.Lib.ItoaNum
import Derived.KernelRfl
section
namespace Eng
open Go
def digF : Nat → Nat → List UInt8
 | 0, _ => []
 | n + 1, v => digF n (v / 10) ++ [UInt8.ofNat (48 + v % 10)]
theorem digF_len : ∀ (n v : Nat), (digF n v).length = n
 | 0, _ => rfl
 | n + 1, v => by simp [digF, digF_len n]
theorem digF_cons : ∀ (n v : Nat), digF (n + 1) v = UInt8.ofNat (48 + v / 10 ^ n % 10) :: digF n v
 | 0, v => by simp [digF]
 | n + 1, v => by
  rw [digF, digF_cons n (v / 10), digF]
  rw [Nat.div_div_eq_div_mul, Nat.pow_succ, Nat.mul_comm 10]
  rfl
theorem digF_append : ∀ (n m v : Nat), digF (m + n) v = digF m (v / 10 ^ n) ++ digF n v
 | 0, m, v => by simp [digF]
 | n + 1, m, v => by
  rw [← Nat.add_assoc, digF, digF, digF_append n m (v / 10), Nat.div_div_eq_div_mul, Nat.pow_succ, Nat.mul_comm 10, List.append_assoc]
theorem digF_mod : ∀ (n v w : Nat), v % 10 ^ n = w % 10 ^ n → digF n v = digF n w
 | 0, _, _, _ => rfl
 | n + 1, v, w, h => by
  rw [digF, digF]
  have h1 : v % 10 = w % 10 := by
   have a := Nat.mod_mul_right_mod v 10 (10 ^ n)
   have b := Nat.mod_mul_right_mod w 10 (10 ^ n)
   rw [Nat.pow_succ, Nat.mul_comm] at h
   rw [← a, ← b, h]
  have h2 : v / 10 % 10 ^ n = w / 10 % 10 ^ n := by
   rw [Nat.pow_succ, Nat.mul_comm] at h
   have a := Nat.mod_mul_right_div_self v 10 (10 ^ n)
   have b := Nat.mod_mul_right_div_self w 10 (10 ^ n)
   rw [← a, ← b, h]
  rw [digF_mod n _ _ h2, h1]
theorem digF_zero (n : Nat) : digF n 0 = List.replicate n 48 := by
 induction n with
 | zero => rfl
 | succ n ih => rw [digF_cons, ih, Nat.zero_div]; rfl
theorem digF_pad (n m v : Nat) (h : v < 10 ^ n) : digF (m + n) v = List.replicate m 48 ++ digF n v := by
 rw [digF_append, Nat.div_eq_of_lt h, digF_zero]
theorem nDigits_pos (u : Nat) : 0 < Lib.nDigits u := by
 rw [Lib.nDigits]; split <;> omega
theorem decDigits_digF (u : Nat) : Lib.decDigits u = digF (Lib.nDigits u) u := by
 induction u using Nat.strongRecOn with
 | _ u ih =>
  rw [Lib.decDigits, Lib.nDigits]
  by_cases h : u < 10
  ·rw [dif_pos h, dif_pos h]
   simp only [digF, List.nil_append]
   rw [Nat.mod_eq_of_lt h]
  ·rw [dif_neg h, dif_neg h, digF, ih (u / 10) (by omega)]
theorem nDigits_iff : ∀ (n u : Nat), Lib.nDigits u ≤ n + 1 ↔ u < 10 ^ (n + 1)
 | 0, u => by
  rw [Lib.nDigits]
  by_cases h : u < 10
  ·rw [dif_pos h]; simp; omega
  ·rw [dif_neg h]
   have := nDigits_pos (u / 10)
   simp; omega
 | n + 1, u => by
  rw [Lib.nDigits]
  by_cases h : u < 10
  ·rw [dif_pos h]
   have : 10 ^ 1 ≤ 10 ^ (n + 1 + 1) := Nat.pow_le_pow_right (by omega) (by omega)
   constructor
   ·intro _; omega
   ·intro _; omega
  ·rw [dif_neg h]
   have := nDigits_iff n (u / 10)
   rw [Nat.pow_succ 10 (n + 1)]
   rw [Nat.div_lt_iff_lt_mul (by omega)] at this
   omega
theorem nDigits_eq {u n : Nat} (h1 : 10 ^ n ≤ u) (h2 : u < 10 ^ (n + 1)) : Lib.nDigits u = n + 1 := by
 have a := (nDigits_iff n u).2 h2
 cases n with
 | zero => have := nDigits_pos u; omega
 | succ n =>
  have b := nDigits_iff n u
  have : ¬ u < 10 ^ (n + 1) := by omega
  omega
theorem dec_of_digF {u n : Nat} (h1 : 10 ^ n ≤ u) (h2 : u < 10 ^ (n + 1)) : digF (n + 1) u = Lib.decDigits u := by
 rw [decDigits_digF, nDigits_eq h1 h2]
theorem dec_len_le {u n : Nat} (h : u < 10 ^ (n + 1)) : (Lib.decDigits u).length ≤ n + 1 := by
 rw [Lib.decDigits_length]; exact (nDigits_iff n u).2 h
end Eng
end

section
namespace Eng
open Go
def isD (c : UInt8) : Bool := decide (48 ≤ c.toNat) && decide (c.toNat ≤ 57)
def dv (c : UInt8) : Nat := c.toNat - 48
theorem isD_iff {c : UInt8} : isD c = true ↔ 48 ≤ c.toNat ∧ c.toNat ≤ 57 := by
 simp [isD]
theorem dv_lt {c : UInt8} (h : isD c = true) : dv c < 10 := by
 have := isD_iff.1 h
 unfold dv; omega
def natT : List UInt8 → Nat
 | [] => 0
 | c :: s => dv c * 10 ^ s.length + natT s
theorem natT_lt : ∀ {s : List UInt8}, s.all isD = true → natT s < 10 ^ s.length
 | [], _ => by simp [natT]
 | c :: s, h => by
  simp only [List.all_cons, Bool.and_eq_true] at h
  have h1 := natT_lt h.2
  have h2 := dv_lt h.1
  simp only [natT, List.length_cons, Nat.pow_succ]
  have : dv c * 10 ^ s.length ≤ 9 * 10 ^ s.length := Nat.mul_le_mul_right _ (by omega)
  omega
theorem natT_append : ∀ (a b : List UInt8), natT (a ++ b) = natT a * 10 ^ b.length + natT b
 | [], b => by simp [natT]
 | c :: a, b => by
  simp only [List.cons_append, natT, natT_append a b, List.length_append, Nat.pow_add, Nat.add_mul, Nat.mul_assoc, Nat.add_assoc]
theorem natT_one (c : UInt8) : natT [c] = dv c := by simp [natT]
theorem natT_snoc (a : List UInt8) (c : UInt8) : natT (a ++ [c]) = 10 * natT a + dv c := by
 rw [natT_append, natT_one]
 simp only [List.length_cons, List.length_nil]
 omega
theorem dig_toNat {v : Nat} (h : v < 10) : (UInt8.ofNat (48 + v)).toNat = 48 + v := by
 simp [UInt8.toNat_ofNat']; omega
theorem digF_isD : ∀ (n v : Nat), (digF n v).all isD = true
 | 0, _ => rfl
 | n + 1, v => by
  rw [digF_cons, List.all_cons, digF_isD n v, Bool.and_true, isD_iff, dig_toNat (Nat.mod_lt _ (by omega))]
  have := Nat.mod_lt (v / 10 ^ n) (show 10 > 0 by omega)
  omega
theorem natT_digF : ∀ (n v : Nat), natT (digF n v) = v % 10 ^ n
 | 0, v => by simp [digF, natT, Nat.mod_one]
 | n + 1, v => by
  rw [digF_cons, natT, natT_digF n v, digF_len, dv, dig_toNat (Nat.mod_lt _ (by omega))]
  rw [Nat.pow_succ, Nat.mod_mul, Nat.add_sub_cancel_left, Nat.mul_comm, Nat.add_comm]
theorem digF_natT : ∀ {s : List UInt8}, s.all isD = true → digF s.length (natT s) = s
 | [], _ => rfl
 | c :: s, h => by
  simp only [List.all_cons, Bool.and_eq_true] at h
  have h1 := natT_lt h.2
  have h2 := dv_lt h.1
  have h3 := isD_iff.1 h.1
  rw [List.length_cons, digF_cons, natT]
  have e1 : (dv c * 10 ^ s.length + natT s) / 10 ^ s.length = dv c := by
   rw [Nat.add_comm, Nat.add_mul_div_right _ _ (Nat.pow_pos (by omega)), Nat.div_eq_of_lt h1, Nat.zero_add]
  rw [e1, Nat.mod_eq_of_lt h2]
  have e2 : digF s.length (dv c * 10 ^ s.length + natT s) = digF s.length (natT s) := digF_mod _ _ _ (by
   rw [Nat.add_comm, Nat.add_mul_mod_self_right])
  rw [e2, digF_natT h.2]
  congr 1
  apply UInt8.toNat_inj.1
  rw [dig_toNat h2]
  unfold dv; omega
theorem nDigits_lt (u : Nat) : u < 10 ^ Lib.nDigits u := by
 obtain ⟨n, hn⟩ : ∃ n, Lib.nDigits u = n + 1 := ⟨Lib.nDigits u - 1, by have := nDigits_pos u; omega⟩
 rw [hn]
 exact (nDigits_iff n u).1 (by omega)
theorem dec_isD (u : Nat) : (Lib.decDigits u).all isD = true := by rw [decDigits_digF]; exact digF_isD _ _
theorem natT_dec (u : Nat) : natT (Lib.decDigits u) = u := by
 rw [decDigits_digF, natT_digF]
 exact Nat.mod_eq_of_lt (nDigits_lt u)
theorem dec_ne (u : Nat) : Lib.decDigits u ≠ [] := fun e => by
 have := congrArg List.length e
 rw [Lib.decDigits_length] at this
 have := nDigits_pos u
 simp at *
 omega
theorem dec_0 : Lib.decDigits 0 = [48] := by rw [Lib.decDigits]; rfl
theorem dec_of_body {c : UInt8} {s : List UInt8} (h : (c :: s).all isD = true) (h0 : c = 48 → s = []) : c :: s = Lib.decDigits (natT (c :: s)) := by
 have h1 := natT_lt h
 by_cases hc : c = 48
 ·have := h0 hc
  subst this hc
  exact dec_0.symm
 ·have h2 : isD c = true := by simp only [List.all_cons, Bool.and_eq_true] at h; exact h.1
  have h3 := isD_iff.1 h2
  have h4 : c.toNat ≠ 48 := fun e => hc (UInt8.toNat_inj.1 e)
  have h5 : 10 ^ s.length ≤ natT (c :: s) := by
   simp only [natT]
   have : 1 * 10 ^ s.length ≤ dv c * 10 ^ s.length := Nat.mul_le_mul_right _ (by unfold dv; omega)
   omega
  rw [List.length_cons] at h1
  have := digF_natT h
  rw [List.length_cons] at this
  rw [← dec_of_digF h5 h1, this]
theorem dec_zero_head {u : Nat} {s : List UInt8} (h : Lib.decDigits u = 48 :: s) : s = [] ∧ u = 0 := by
 by_cases h0 : u = 0
 ·subst h0
  rw [dec_0] at h
  simp only [List.cons.injEq, true_and] at h
  exact ⟨h.symm, rfl⟩
 ·exfalso
  have h1 := natT_dec u
  obtain ⟨n, hn⟩ : ∃ n, Lib.nDigits u = n + 1 := ⟨Lib.nDigits u - 1, by have := nDigits_pos u; omega⟩
  have h2 : ¬ u < 10 ^ n := fun hlt => by
   rcases n with _ | n
   ·rw [Nat.pow_zero] at hlt; omega
   ·have := (nDigits_iff n u).2 hlt
    omega
  have h3 := Lib.decDigits_length u
  rw [h, hn, List.length_cons] at h3
  have h4 := dec_isD u
  rw [h] at h1 h4
  simp only [List.all_cons, Bool.and_eq_true] at h4
  have h5 := natT_lt h4.2
  have h6 : dv 48 = 0 := rfl
  have h7 : s.length = n := by omega
  simp only [natT, h6, Nat.zero_mul, Nat.zero_add] at h1
  rw [h7] at h5
  omega
def sgT (z : Int) : List UInt8 := match decide (z < 0) with | true => [45] | false => []
def decZt (z : Int) : List UInt8 := sgT z ++ Lib.decDigits z.natAbs
theorem decZt_pos {z : Int} (h : 0 ≤ z) : decZt z = Lib.decDigits z.natAbs := by
 unfold decZt sgT
 rw [decide_eq_false (by omega)]; rfl
theorem decZt_neg {z : Int} (h : z < 0) : decZt z = 45 :: Lib.decDigits z.natAbs := by
 unfold decZt sgT
 rw [decide_eq_true h]; rfl
def bodyOk (neg : Bool) : List UInt8 → Bool
 | [] => false
 | c :: s => (c :: s).all isD && (decide (c ≠ 48) || (s.isEmpty && !neg))
def parI : List UInt8 → Option Int
 | [] => none
 | c :: s => if c = 45 then (if bodyOk true s then some (-(natT s : Int)) else none)
  else if bodyOk false (c :: s) then some (natT (c :: s) : Int) else none
theorem parI_cons (c : UInt8) (s : List UInt8) : parI (c :: s) = if c = 45 then (if bodyOk true s then some (-(natT s : Int)) else none)
 else if bodyOk false (c :: s) then some (natT (c :: s) : Int) else none := rfl
theorem bodyOk_dec {neg : Bool} {s : List UInt8} (h : bodyOk neg s = true) : s = Lib.decDigits (natT s) ∧ (neg = true → natT s ≠ 0) := by
 match s, h with
 | c :: s, h =>
  simp only [bodyOk, Bool.and_eq_true, Bool.or_eq_true, decide_eq_true_eq, List.isEmpty_iff, Bool.not_eq_true'] at h
  refine ⟨dec_of_body h.1 fun e => ?_, fun hn h0 => ?_⟩
  ·rcases h.2 with h | h
   ·exact absurd e h
   ·exact h.1
  ·have h1 := dec_of_body h.1 fun e => by
    rcases h.2 with h | h
    ·exact absurd e h
    ·exact h.1
   rw [h0] at h1
   rw [dec_0] at h1
   simp only [List.cons.injEq] at h1
   rcases h.2 with h | h
   ·exact h h1.1
   ·rw [hn] at h; simp at h
theorem bodyOk_of {neg : Bool} {u : Nat} (h : neg = true → u ≠ 0) : bodyOk neg (Lib.decDigits u) = true := by
 have h1 := dec_isD u
 have h2 := dec_ne u
 have h3 := fun s => @dec_zero_head u s
 generalize Lib.decDigits u = s at *
 match s, h2 with
 | c :: s, _ =>
  simp only [bodyOk, Bool.and_eq_true, Bool.or_eq_true, decide_eq_true_eq, List.isEmpty_iff, Bool.not_eq_true']
  refine ⟨h1, ?_⟩
  by_cases hc : c = 48
  ·subst hc
   obtain ⟨h4, h5⟩ := h3 s rfl
   right
   refine ⟨h4, ?_⟩
   cases neg
   ·rfl
   ·exact absurd h5 (h rfl)
  ·exact .inl hc
theorem dec_head_ne {u : Nat} {c : UInt8} {s : List UInt8} (h : Lib.decDigits u = c :: s) : isD c = true := by
 have := dec_isD u
 rw [h, List.all_cons, Bool.and_eq_true] at this
 exact this.1
theorem parI_dec (z : Int) : parI (decZt z) = some z := by
 by_cases h : z < 0
 ·rw [decZt_neg h]
  rw [parI_cons, if_pos rfl, if_pos (bodyOk_of fun _ => by omega), natT_dec]
  congr 1; omega
 ·rw [decZt_pos (by omega)]
  have h1 := bodyOk_of (neg := false) (u := z.natAbs) (by simp)
  have h2 := natT_dec z.natAbs
  have h3 := fun c s => @dec_head_ne z.natAbs c s
  have h4 := dec_ne z.natAbs
  generalize Lib.decDigits z.natAbs = s at *
  match s, h4 with
  | c :: s, _ =>
   have h5 := isD_iff.1 (h3 c s rfl)
   rw [parI_cons, if_neg (fun e => by rw [e] at h5; revert h5; decide), if_pos h1, h2]
   congr 1; omega
theorem parI_some {s : List UInt8} {z : Int} (h : parI s = some z) : s = decZt z := by
 match s, h with
 | c :: s, h =>
  rw [parI_cons] at h
  by_cases hc : c = 45
  ·rw [if_pos hc] at h
   by_cases hb : bodyOk true s = true
   ·rw [if_pos hb] at h
    obtain ⟨h1, h2⟩ := bodyOk_dec hb
    have h3 := h2 rfl
    obtain rfl := Option.some.inj h
    rw [decZt_neg (by omega), hc]
    congr 1
    rw [show (-(natT s : Int)).natAbs = natT s by omega]
    exact h1
   ·rw [if_neg hb] at h; simp at h
  ·rw [if_neg hc] at h
   by_cases hb : bodyOk false (c :: s) = true
   ·rw [if_pos hb] at h
    obtain ⟨h1, _⟩ := bodyOk_dec hb
    obtain rfl := Option.some.inj h
    rw [decZt_pos (by omega), Int.natAbs_natCast]
    exact h1
   ·rw [if_neg hb] at h; simp at h
theorem decZt_bytes {z : Int} {c : UInt8} (h : c ∈ decZt z) : c = 45 ∨ isD c = true := by
 unfold decZt sgT at h
 rw [List.mem_append] at h
 rcases h with h | h
 ·split at h
  ·left; simpa using h
  ·simp at h
 ·exact .inr (List.all_eq_true.1 (dec_isD _) _ h)
theorem natT_le {s : List UInt8} (h : s.all isD = true) {n : Nat} (hn : s.length ≤ n) : natT s < 10 ^ n := Nat.lt_of_lt_of_le (natT_lt h) (Nat.pow_le_pow_right (by omega) hn)
theorem parI_lt {s : List UInt8} {z : Int} (h : parI s = some z) : z.natAbs < 10 ^ s.length := by
 have h1 := parI_some h
 have h2 := natT_dec z.natAbs
 have h3 := natT_lt (dec_isD z.natAbs)
 rw [h2] at h3
 refine Nat.lt_of_lt_of_le h3 (Nat.pow_le_pow_right (by omega) ?_)
 rw [h1]; unfold decZt
 rw [List.length_append]; omega
def ratX (q : Rat) : List UInt8 := if q.den = 1 then decZt q.num else decZt q.num ++ 47 :: Lib.decDigits q.den
def cutAt (c : UInt8) : List UInt8 → List UInt8 × Option (List UInt8)
 | [] => ([], none)
 | a :: s => if a = c then ([], some s) else (a :: (cutAt c s).1, (cutAt c s).2)
theorem cutAt_none {c : UInt8} : ∀ {s : List UInt8}, (∀ a ∈ s, a ≠ c) → cutAt c s = (s, none)
 | [], _ => rfl
 | a :: s, h => by
  rw [cutAt, if_neg (h a (by simp)), cutAt_none fun b hb => h b (by simp [hb])]
theorem cutAt_app {c : UInt8} {t : List UInt8} : ∀ {s : List UInt8}, (∀ a ∈ s, a ≠ c) → cutAt c (s ++ c :: t) = (s, some t)
 | [], _ => by simp [cutAt]
 | a :: s, h => by
  rw [List.cons_append, cutAt, if_neg (h a (by simp)), cutAt_app fun b hb => h b (by simp [hb])]
theorem cutAt_fst {c : UInt8} : ∀ (s : List UInt8), ∀ a ∈ (cutAt c s).1, a ≠ c
 | [], a, h => by simp [cutAt] at h
 | b :: s, a, h => by
  rw [cutAt] at h
  by_cases hb : b = c
  ·rw [if_pos hb] at h; simp at h
  ·rw [if_neg hb] at h
   simp only [List.mem_cons] at h
   rcases h with rfl | h
   ·exact hb
   ·exact cutAt_fst s a h
theorem cutAt_eq {c : UInt8} : ∀ (s : List UInt8), s = (cutAt c s).1 ++ (match (cutAt c s).2 with | none => [] | some t => c :: t)
 | [] => rfl
 | b :: s => by
  rw [cutAt]
  by_cases hb : b = c
  ·rw [if_pos hb]; subst hb; rfl
  ·rw [if_neg hb]
   simp only [List.cons_append, List.cons.injEq, true_and]
   exact cutAt_eq s
theorem decZt_no {z : Int} {c : UInt8} (h1 : c ≠ 45) (h2 : isD c = false) : ∀ a ∈ decZt z, a ≠ c := fun a ha e => by
 subst e
 rcases decZt_bytes ha with h | h
 ·exact h1 h
 ·rw [h2] at h; simp at h
theorem dec_no {u : Nat} {c : UInt8} (h2 : isD c = false) : ∀ a ∈ Lib.decDigits u, a ≠ c := fun a ha e => by
 subst e
 have := List.all_eq_true.1 (dec_isD u) _ ha
 rw [h2] at this; simp at this
theorem ratX_no {q : Rat} {c : UInt8} (h1 : c ≠ 45) (h2 : isD c = false) (h3 : c ≠ 47) : ∀ a ∈ ratX q, a ≠ c := fun a ha => by
 unfold ratX at ha
 split at ha
 ·exact decZt_no h1 h2 a ha
 ·simp only [List.mem_append, List.mem_cons] at ha
  rcases ha with h | rfl | h
  ·exact decZt_no h1 h2 a h
  ·exact fun e => h3 e.symm
  ·exact dec_no h2 a h
def quoQ (n : Int) : Option (List UInt8) → Option Rat
 | none => some (n : Rat)
 | some t => match parI t with
  | none => none
  | some d => if 1 < d ∧ Nat.gcd n.natAbs d.natAbs = 1 then some (Rat.divInt n d) else none
def parQ (s : List UInt8) : Option Rat :=
 match parI (cutAt 47 s).1 with
 | none => none
 | some n => quoQ n (cutAt 47 s).2
theorem divInt_cop {n d : Int} (h1 : 0 < d) (h2 : Nat.gcd n.natAbs d.natAbs = 1) : (Rat.divInt n d).num = n ∧ ((Rat.divInt n d).den : Int) = d := by
 have := divInt_nd (n := n) h1
 rw [h2] at this
 simpa using this
theorem rat_cop (q : Rat) : Nat.gcd q.num.natAbs q.den = 1 := q.reduced
theorem rat_divInt (q : Rat) : Rat.divInt q.num (q.den : Int) = q := Rat.num_divInt_den q
theorem rat_int {q : Rat} (h : q.den = 1) : ((q.num : Int) : Rat) = q := by
 apply Rat.ext
 ·simp
 ·simp [h]
theorem parQ_rat (q : Rat) : parQ (ratX q) = some q := by
 unfold ratX parQ
 by_cases h : q.den = 1
 ·rw [if_pos h, cutAt_none (decZt_no (by decide) (by decide))]
  simp only [parI_dec, quoQ]
  rw [rat_int h]
 ·rw [if_neg h, cutAt_app (decZt_no (by decide) (by decide))]
  have h3 := q.den_pos
  have h1 := parI_dec (q.den : Int)
  rw [decZt_pos (by omega), Int.natAbs_natCast] at h1
  simp only [parI_dec, quoQ, h1]
  rw [if_pos ⟨by omega, by rw [Int.natAbs_natCast]; exact rat_cop q⟩, rat_divInt]
theorem parQ_some {s : List UInt8} {q : Rat} (h : parQ s = some q) : s = ratX q := by
 have hs := cutAt_eq (c := 47) s
 unfold parQ at h
 generalize (cutAt 47 s).1 = a at *
 generalize (cutAt 47 s).2 = b at *
 cases hn : parI a with
 | none => rw [hn] at h; simp at h
 | some n =>
  rw [hn] at h
  have hn' := parI_some hn
  cases b with
  | none =>
   simp only [quoQ, Option.some.injEq] at h
   subst h
   simp only [List.append_nil] at hs
   unfold ratX
   rw [if_pos (by simp), hs, hn']
   simp
  | some t =>
   simp only [quoQ] at h
   cases hd : parI t with
   | none => rw [hd] at h; simp at h
   | some d =>
    rw [hd] at h
    have hd' := parI_some hd
    by_cases hc : 1 < d ∧ Nat.gcd n.natAbs d.natAbs = 1
    ·simp only [if_pos hc, Option.some.injEq] at h
     subst h
     obtain ⟨h1, h2⟩ := divInt_cop (n := n) (d := d) (by omega) hc.2
     unfold ratX
     have h3 : d.natAbs = (Rat.divInt n d).den := by omega
     have h4 : decZt d = Lib.decDigits (Rat.divInt n d).den := by rw [decZt_pos (by omega), h3]
     rw [if_neg (by omega), hs, hn', h1, hd', h4]
    ·simp only [if_neg hc] at h
     simp at h
theorem parQ_iff {s : List UInt8} {q : Rat} : parQ s = some q ↔ s = ratX q := ⟨parQ_some, fun h => h ▸ parQ_rat q⟩
end Eng
end

section
namespace Eng
open Go
theorem pad_succ (k n : Nat) : pad (k + 1) n = n % 1000000000 :: pad k (n / 1000000000) := rfl
theorem pad_get : ∀ (m n k : Nat) (h : k < (pad m n).length), (pad m n)[k] = n / 1000000000 ^ k % 1000000000
 | 0, _, k, h => by simp [pad] at h
 | m + 1, n, 0, _ => by simp [pad]
 | m + 1, n, k + 1, h => by
  have h' : k < (pad m (n / 1000000000)).length := by simpa [pad] using h
  have := pad_get m (n / 1000000000) k h'
  simp only [pad_succ, List.getElem_cons_succ, this]
  rw [Nat.div_div_eq_div_mul, Nat.pow_succ, Nat.mul_comm]
theorem dig_room {n d r : Nat} (hr : r < 9) (hd : d < 10) (h : n % 10 ^ (r + 1) = 0) : n % 1000000000 + d * 10 ^ r < 1000000000 := by
 match r, hr with
 | 0, _ => simp only [Nat.reduceAdd, Nat.reducePow] at *; omega
 | 1, _ => simp only [Nat.reduceAdd, Nat.reducePow] at *; omega
 | 2, _ => simp only [Nat.reduceAdd, Nat.reducePow] at *; omega
 | 3, _ => simp only [Nat.reduceAdd, Nat.reducePow] at *; omega
 | 4, _ => simp only [Nat.reduceAdd, Nat.reducePow] at *; omega
 | 5, _ => simp only [Nat.reduceAdd, Nat.reducePow] at *; omega
 | 6, _ => simp only [Nat.reduceAdd, Nat.reducePow] at *; omega
 | 7, _ => simp only [Nat.reduceAdd, Nat.reducePow] at *; omega
 | 8, _ => simp only [Nat.reduceAdd, Nat.reducePow] at *; omega
theorem pow_9k (k : Nat) : 1000000000 ^ k = 10 ^ (9 * k) := by rw [Nat.pow_mul]
theorem mod_pow_div {n k j : Nat} (h : n % 10 ^ (j + k) = 0) : n / 10 ^ j % 10 ^ k = 0 := by
 obtain ⟨q, rfl⟩ := Nat.dvd_of_mod_eq_zero h
 rw [Nat.pow_add, Nat.mul_assoc, Nat.mul_div_cancel_left _ (Nat.pow_pos (by omega)), Nat.mul_mod_right]
theorem pad_set : ∀ (k m n d r : Nat), k < m → r < 9 → d < 10 → n % 10 ^ (9 * k + r + 1) = 0 →
 (pad m n).set k (n / 1000000000 ^ k % 1000000000 + d * 10 ^ r) = pad m (n + d * 10 ^ (9 * k + r)) ∧ n / 1000000000 ^ k % 1000000000 + d * 10 ^ r < 1000000000
 | 0, m + 1, n, d, r, _, hr, hd, h => by
  simp only [Nat.mul_zero, Nat.zero_add] at h ⊢
  have h1 := dig_room hr hd h
  simp only [Nat.pow_zero, Nat.div_one]
  refine ⟨?_, h1⟩
  rw [pad_succ, pad_succ, List.set_cons_zero]
  generalize d * 10 ^ r = x at *
  have e1 : (n + x) % 1000000000 = n % 1000000000 + x := by omega
  have e2 : (n + x) / 1000000000 = n / 1000000000 := by omega
  rw [e1, e2]
 | k + 1, m + 1, n, d, r, hk, hr, hd, h => by
  have h2 : n / 10 ^ 9 % 10 ^ (9 * k + r + 1) = 0 := mod_pow_div (by rw [show 9 + (9 * k + r + 1) = 9 * (k + 1) + r + 1 by omega]; exact h)
  have ih := pad_set k m (n / 1000000000) d r (by omega) hr hd h2
  rw [Nat.div_div_eq_div_mul, Nat.mul_comm 1000000000, ← Nat.pow_succ] at ih
  refine ⟨?_, ih.2⟩
  have e0 : d * 10 ^ (9 * (k + 1) + r) = 1000000000 * (d * 10 ^ (9 * k + r)) := by
   rw [show 9 * (k + 1) + r = 9 + (9 * k + r) by omega, Nat.pow_add]
   simp only [Nat.reducePow]
   rw [Nat.mul_left_comm]
  rw [e0, pad_succ, pad_succ, List.set_cons_succ, ih.1]
  generalize d * 10 ^ (9 * k + r) = x at *
  have e1 : (n + 1000000000 * x) % 1000000000 = n % 1000000000 := by omega
  have e2 : (n + 1000000000 * x) / 1000000000 = n / 1000000000 + x := by omega
  rw [e1, e2]
theorem natT_take_succ {s : List UInt8} {i : Nat} (h : i < s.length) : natT (s.take (i + 1)) = 10 * natT (s.take i) + dv s[i] := by
 rw [List.take_succ_eq_append_getElem h, natT_snoc]
theorem all_take {s : List UInt8} (h : s.all isD = true) (i : Nat) : (s.take i).all isD = true := by
 rw [List.all_eq_true] at *
 exact fun x hx => h x (List.mem_of_mem_take hx)
theorem all_drop {s : List UInt8} (h : s.all isD = true) (i : Nat) : (s.drop i).all isD = true := by
 rw [List.all_eq_true] at *
 exact fun x hx => h x (List.mem_of_mem_drop hx)
theorem limb_step {s : List UInt8} {l : List Nat} {e : Nat} (he : 0 < e) (hes : e ≤ s.length) (hl : 9 * l.length = s.length - e) (hv : val l = natT (s.drop e)) (j : Nat) (hj : j = e - 9) :
 val (l ++ [natT ((s.take e).drop j)]) = natT (s.drop j) := by
 rw [val_snoc, hv, pow_9k, hl]
 have e1 : s.drop j = (s.take e).drop j ++ s.drop e := by
  have h1 : s = s.take e ++ s.drop e := (List.take_append_drop e s).symm
  have h2 : (s.take e ++ s.drop e).drop j = (s.take e).drop j ++ s.drop e := List.drop_append_of_le_length (by rw [List.length_take]; omega)
  rw [← h1] at h2
  exact h2
 rw [e1, natT_append, List.length_drop, Nat.mul_comm, Nat.add_comm]
end Eng
end

section
namespace Eng
def mxZ (a : Int) : Int := match decide ((0 : Int) < a) with
  | true => a
  | false => 0
theorem mxZ_eq (a : Int) : mxZ a = ((a.toNat : Nat) : Int) := by
  unfold mxZ
  by_cases h : (0 : Int) < a
  · rw [decide_eq_true h]; simp only; omega
  · rw [decide_eq_false h]; simp only; omega
def mnZ (a b : Int) : Int := match decide (a < b) with
  | true => a
  | false => b
theorem mnZ_eq (a b : Int) : mnZ a b = min a b := by
  unfold mnZ
  by_cases h : a < b
  · rw [decide_eq_true h]; simp only; omega
  · rw [decide_eq_false h]; simp only; omega
end Eng
end

section
open Go Go.Proofs Eng
set_option maxRecDepth 1000000
namespace Eng
theorem vc_sIdxB (Gv : Nat → List A → List A → Prop) (s : List UInt8) (c : Int) (Q : List A → Prop) :
 wpF CC Gv (fun _ => ⟨[], [], fun _ _ => True, fun _ => 0⟩) Tryz.f277 [.c (.str s), .c (.int .u8 c)] Q = (
 Q [A.c (D.int .i64 (Lib.indexByte s (Nat.toUInt8 (Int.toNat c))))]) := by kernel_rfl
theorem vc_sIdx (Gv : Nat → List A → List A → Prop) (s : List UInt8) (c : UInt8) (Q : List A → Prop) :
 wpF CC Gv (fun _ => ⟨[], [], fun _ _ => True, fun _ => 0⟩) Tryz.f208 [.c (.str s), .c (.str [c])] Q = (
 br (toB (D.bool ([c] == s))) (Q [A.c (D.int .i64 (0 : Int))])
 (((0 : Int) ≤ (0 : Int) ∧ (0 : Int) < (1 : Int)) ∧
 ∃ n,
 Gv 277 [A.c (D.str s), A.c (D.int .u8 (Int.ofNat (UInt8.toNat (nth (0 : UInt8) [c] (Int.toNat (0 : Int))))))] [A.c (D.int .i64 n)] ∧
 Q [A.c (D.int .i64 n)])) := by kernel_rfl
theorem vc_sCut (Gv : Nat → List A → List A → Prop) (s : List UInt8) (c : UInt8) (Q : List A → Prop) :
 wpF CC Gv (fun _ => ⟨[], [], fun _ _ => True, fun _ => 0⟩) Tryz.f146 [.c (.str s), .c (.str [c])] Q = (
 ∃ n,
 Gv 208 [A.c (D.str s), A.c (D.str [c])] [A.c (D.int .i64 n)] ∧
 br (toB (D.bool (decide (n ≥ (0 : Int)))))
 (((0 : Int) ≤ (0 : Int) ∧ (0 : Int) ≤ n ∧ n ≤ (Int.ofNat (List.length s))) ∧
 ((0 : Int) ≤ IntKind.wrap .i64 (n + (1 : Int)) ∧
 IntKind.wrap .i64 (n + (1 : Int)) ≤ (Int.ofNat (List.length s)) ∧ (Int.ofNat (List.length s)) ≤ (Int.ofNat (List.length s))) ∧
 Q
 [A.c (D.str (List.drop 0 (List.take (Int.toNat n) s))),
 A.c (D.str (List.drop (Int.toNat (IntKind.wrap .i64 (n + (1 : Int)))) (List.take (Int.toNat (Int.ofNat (List.length s))) s))), A.c (D.bool true)])
 (Q [A.c (D.str s), A.c (D.str []), A.c (D.bool false)])) := by kernel_rfl
theorem vc_tCut (Gv : Nat → List A → List A → Prop) (s : List UInt8) (c : UInt8) (Q : List A → Prop) :
 wpF CC Gv (fun _ => ⟨[], [], fun _ _ => True, fun _ => 0⟩) Tryz.f92 [.c (.str s), .c (.str [c])] Q = (
 ∃ s_1 s_2 b,
 Gv 146 [A.c (D.str s), A.c (D.str [c])] [A.c (D.str s_1), A.c (D.str s_2), A.c (D.bool b)] ∧ Q [A.c (D.str s_1), A.c (D.str s_2), A.c (D.bool b)]) := by kernel_rfl
theorem vc_sHasP (Gv : Nat → List A → List A → Prop) (s t : List UInt8) (Q : List A → Prop) :
 wpF CC Gv (fun _ => ⟨[], [], fun _ _ => True, fun _ => 0⟩) Tryz.f326 [.c (.str s), .c (.str t)] Q = (
 br (toB (D.bool (decide ((Int.ofNat (List.length s)) ≥ (Int.ofNat (List.length t))))))
 (((0 : Int) ≤ (0 : Int) ∧ (0 : Int) ≤ (Int.ofNat (List.length t)) ∧ (Int.ofNat (List.length t)) ≤ (Int.ofNat (List.length s))) ∧
 Q [A.c (D.bool (List.drop 0 (List.take (Int.toNat (Int.ofNat (List.length t))) s) == t))])
 (Q [A.c (D.bool false)])) := by kernel_rfl
theorem vc_sCutP (Gv : Nat → List A → List A → Prop) (s t : List UInt8) (Q : List A → Prop) :
 wpF CC Gv (fun _ => ⟨[], [], fun _ _ => True, fun _ => 0⟩) Tryz.f332 [.c (.str s), .c (.str t)] Q = (
 ∃ b,
 Gv 326 [A.c (D.str s), A.c (D.str t)] [A.c (D.bool b)] ∧
 br (toB (D.bool !b)) (Q [A.c (D.str s), A.c (D.bool false)])
 (((0 : Int) ≤ (Int.ofNat (List.length t)) ∧ (Int.ofNat (List.length t)) ≤ (Int.ofNat (List.length s)) ∧ (Int.ofNat (List.length s)) ≤ (Int.ofNat (List.length s))) ∧
 Q [A.c (D.str (List.drop (Int.toNat (Int.ofNat (List.length t))) (List.take (Int.toNat (Int.ofNat (List.length s))) s))), A.c (D.bool true)])) := by kernel_rfl
theorem vc_tCutP (Gv : Nat → List A → List A → Prop) (s t : List UInt8) (Q : List A → Prop) :
 wpF CC Gv (fun _ => ⟨[], [], fun _ _ => True, fun _ => 0⟩) Tryz.f284 [.c (.str s), .c (.str t)] Q = (
 ∃ s_1 b, Gv 332 [A.c (D.str s), A.c (D.str t)] [A.c (D.str s_1), A.c (D.bool b)] ∧ Q [A.c (D.str s_1), A.c (D.bool b)]) := by kernel_rfl
theorem vc_iFmt (Gv : Nat → List A → List A → Prop) (I0 : List D → List D → Prop) (M0 : List D → Nat) (J7 : List D → List D → Prop) (p : Bool) (es : List (List D)) (Q : List A → Prop) :
 wpF CC Gv (annJ (fun _ => ⟨[.slot 5 (.int .i64 0), .bld 4 115 45], [], I0, M0⟩) 7 ⟨[.bld 4 115 46], [], J7, fun _ => 0⟩) Tryz.f140 [.ag [.bool p, .sl es]] Q = (
 br (toB (D.bool ((Int.ofNat (List.length es)) == (0 : Int)))) (Q [A.c (D.str [(48 : UInt8)])])
 (br p (room 1 ∧ J7 [] [D.sl [[D.int .u8 (45 : Int)]]]) (J7 [] [D.sl []]) ∧
 ∀ (es_1 : List (List D)),
 J7 [] [D.sl es_1] →
 ((0 : Int) ≤ IntKind.wrap .i64 ((Int.ofNat (List.length es)) - (1 : Int)) ∧
 IntKind.wrap .i64 ((Int.ofNat (List.length es)) - (1 : Int)) < (Int.ofNat (List.length es)) ∧
 List.length (nth [] es (Int.toNat (IntKind.wrap .i64 ((Int.ofNat (List.length es)) - (1 : Int))))) = 1) ∧
 ∃ n,
 cut (nth [] es (Int.toNat (IntKind.wrap .i64 ((Int.ofNat (List.length es)) - (1 : Int))))) 0 1 [D.int .u32 n] ∧
 ∃ s,
 Gv 203 [A.c (D.int .u64 (IntKind.wrap .u64 n)), A.c (D.int .i64 (10 : Int))] [A.c (D.str s)] ∧
 room (List.length es_1 + List.length (rowsOf s)) ∧
 I0 [] [D.int .i64 (IntKind.wrap .i64 ((Int.ofNat (List.length es)) - (2 : Int))), D.sl (es_1 ++ rowsOf s)] ∧
 ∀ (n : Int) (es_2 : List (List D)),
 I0 [] [D.int .i64 n, D.sl es_2] →
 br (toB (D.bool (decide (n ≥ (0 : Int)))))
 (((0 : Int) ≤ n ∧ n < (Int.ofNat (List.length es)) ∧ List.length (nth [] es (Int.toNat n)) = 1) ∧
 ∃ n_1,
 cut (nth [] es (Int.toNat n)) 0 1 [D.int .u32 n_1] ∧
 ∃ s,
 Gv 203 [A.c (D.int .u64 (IntKind.wrap .u64 n_1)), A.c (D.int .i64 (10 : Int))]
 [A.c (D.str s)] ∧
 ∃ s_1,
 Gv 204
 [A.c (D.str [(48 : UInt8)]), A.c (D.int .i64 (IntKind.wrap .i64 ((9 : Int) - (Int.ofNat (List.length s)))))]
 [A.c (D.str s_1)] ∧
 room (List.length es_2 + List.length (rowsOf s_1)) ∧
 room (List.length (es_2 ++ rowsOf s_1) + List.length (rowsOf s)) ∧
 I0 [] [D.int .i64 (IntKind.wrap .i64 (n - (1 : Int))), D.sl (es_2 ++ rowsOf s_1 ++ rowsOf s)] ∧
 M0 [D.int .i64 (IntKind.wrap .i64 (n - (1 : Int))), D.sl (es_2 ++ rowsOf s_1 ++ rowsOf s)] <
 M0 [D.int .i64 n, D.sl es_2])
 ((es_2 ≠ [] ∧ bytesOk es_2 = true) ∧ Q [A.c (D.str (toBytes es_2))]))) := by kernel_rfl
theorem vc_rFmt (Gv : Nat → List A → List A → Prop) (p q : Bool) (es fs : List (List D)) (Q : List A → Prop) :
 wpF CC Gv (fun _ => ⟨[], [], fun _ _ => True, fun _ => 0⟩) Tryz.f86 [.ag [.bool p, .sl es, .bool q, .sl fs]] Q = (
 ∃ b es_1,
 Gv 139 [] [A.ag [D.bool b, D.sl es_1]] ∧
 ∃ n,
 Gv 105 [A.ag [D.bool q, D.sl fs], A.ag [D.bool b, D.sl es_1]] [A.c (D.int .i64 n)] ∧
 br (toB (D.bool (n == (0 : Int)))) (∃ s, Gv 140 [A.ag [D.bool p, D.sl es]] [A.c (D.str s)] ∧ Q [A.c (D.str s)])
 (∃ s,
 Gv 140 [A.ag [D.bool p, D.sl es]] [A.c (D.str s)] ∧
 room (List.length s + 1) ∧
 ∃ s_1,
 Gv 140 [A.ag [D.bool q, D.sl fs]] [A.c (D.str s_1)] ∧
 room (List.length (s ++ [(47 : UInt8)]) + List.length s_1) ∧ Q [A.c (D.str (s ++ [(47 : UInt8)] ++ s_1))])) := by kernel_rfl
theorem vc_iParse (Gv : Nat → List A → List A → Prop) (I0 : List D → List D → Prop) (M0 : List D → Nat) (I1 : List D → List D → Prop) (M1 : List D → Nat) (I2 : List D → List D → Prop) (M2 : List D → Nat) (J4 : List D → List D → Prop) (s : List UInt8) (Q : List A → Prop) :
 wpF CC Gv (annJ (ann3 ⟨[.slot 40 (.int .i64 0)], [], I0, M0⟩ ⟨[.own 7 87 1, .slot 8 (.int .i64 0)], [], I1, M1⟩ ⟨[.slot 9 (.int .u32 0), .slot 69 (.int .i64 0)], [.own 7 87 1, .slot 8 (.int .i64 0)], I2, M2⟩) 4 ⟨[], [.slot 4 (.string ⟨#[]⟩), .slot 5 (.bool false)], J4, fun _ => 0⟩) Tryz.f210 [.c (.str s)] Q = (
 ∃ s_1 b,
 Gv 284 [A.c (D.str s), A.c (D.str [(45 : UInt8)])] [A.c (D.str s_1), A.c (D.bool b)] ∧
 br (toB (D.bool (s_1 == []))) (Q [A.ag [D.bool false, D.sl []], A.c (D.int .i64 (2 : Int))])
 (br (toB (D.bool (decide ((Int.ofNat (List.length s)) > (65536 : Int))))) (Q [A.ag [D.bool false, D.sl []], A.c (D.int .i64 (2 : Int))])
 (((0 : Int) ≤ (0 : Int) ∧ (0 : Int) < (Int.ofNat (List.length s_1))) ∧
 br (toB (D.bool ((Int.ofNat (UInt8.toNat (nth (0 : UInt8) s_1 (Int.toNat (0 : Int))))) == (48 : Int))))
 (br (toB (D.bool (decide ((Int.ofNat (List.length s_1)) > (1 : Int))))) (Q [A.ag [D.bool false, D.sl []], A.c (D.int .i64 (2 : Int))])
 (br b (Q [A.ag [D.bool false, D.sl []], A.c (D.int .i64 (2 : Int))]) (J4 [D.str s_1, D.bool b] [])))
 (J4 [D.str s_1, D.bool b] []))) ∧
 (J4 [D.str s_1, D.bool b] [] →
 I0 [] [D.int .i64 (0 : Int)] ∧
 ∀ (n : Int),
 I0 [] [D.int .i64 n] →
 br (toB (D.bool (decide (n < (Int.ofNat (List.length s_1))))))
 (((0 : Int) ≤ n ∧ n < (Int.ofNat (List.length s_1))) ∧
 br (toB (D.bool (decide ((Int.ofNat (UInt8.toNat (nth (0 : UInt8) s_1 (Int.toNat n)))) < (48 : Int)))))
 (Q [A.ag [D.bool false, D.sl []], A.c (D.int .i64 (2 : Int))])
 (((0 : Int) ≤ n ∧ n < (Int.ofNat (List.length s_1))) ∧
 br (toB (D.bool (decide ((Int.ofNat (UInt8.toNat (nth (0 : UInt8) s_1 (Int.toNat n)))) > (57 : Int)))))
 (Q [A.ag [D.bool false, D.sl []], A.c (D.int .i64 (2 : Int))])
 (I0 [] [D.int .i64 (IntKind.wrap .i64 (n + (1 : Int)))] ∧
 M0 [D.int .i64 (IntKind.wrap .i64 (n + (1 : Int)))] < M0 [D.int .i64 n])))
 (I1 [] [D.sl [], D.int .i64 (Int.ofNat (List.length s_1))] ∧
 ∀ (es : List (List D)) (n : Int),
 I1 [] [D.sl es, D.int .i64 n] →
 br (toB (D.bool (decide (n > (0 : Int)))))
 ((((0 : Int) ≤
 mxZ (IntKind.wrap .i64 (n - (9 : Int)))) ∧
 (mxZ (IntKind.wrap .i64 (n - (9 : Int)))) ≤
 n ∧
 n ≤ (Int.ofNat (List.length s_1))) ∧
 room
 (List.length
 (List.drop
 (Int.toNat
 (mxZ (IntKind.wrap .i64 (n - (9 : Int)))))
 (List.take (Int.toNat n) s_1))) ∧
 I2 [D.sl es, D.int .i64 n] [D.int .u32 (0 : Int), D.int .i64 (0 : Int)] ∧
 ∀ (n_1 n_2 : Int),
 I2 [D.sl es, D.int .i64 n] [D.int .u32 n_1, D.int .i64 n_2] →
 br
 (toB
 (D.bool
 (decide
 (n_2 <
 (Int.ofNat (List.length
 (rowsOf
 (List.drop
 (Int.toNat
 (mxZ (IntKind.wrap .i64 (n - (9 : Int)))))
 (List.take (Int.toNat n) s_1)))))))))
 (((0 : Int) ≤ n_2 ∧
 n_2 <
 (Int.ofNat (List.length
 (rowsOf
 (List.drop
 (Int.toNat
 (mxZ (IntKind.wrap .i64 (n - (9 : Int)))))
 (List.take (Int.toNat n) s_1))))) ∧
 List.length
 (nth []
 (rowsOf
 (List.drop
 (Int.toNat
 (mxZ (IntKind.wrap .i64 (n - (9 : Int)))))
 (List.take (Int.toNat n) s_1)))
 (Int.toNat n_2)) =
 1) ∧
 ∃ n_3,
 cut
 (nth []
 (rowsOf
 (List.drop
 (Int.toNat
 (mxZ (IntKind.wrap .i64 (n - (9 : Int)))))
 (List.take (Int.toNat n) s_1)))
 (Int.toNat n_2))
 0 1 [D.int .u8 n_3] ∧
 I2 [D.sl es, D.int .i64 n]
 [D.int .u32
 (IntKind.wrap .u32
 (IntKind.wrap .u32 ((10 : Int) * n_1) +
 IntKind.wrap .u32 (IntKind.wrap .u8 (n_3 - (48 : Int))))),
 D.int .i64 (IntKind.wrap .i64 (n_2 + (1 : Int)))] ∧
 M2
 [D.int .u32
 (IntKind.wrap .u32
 (IntKind.wrap .u32 ((10 : Int) * n_1) +
 IntKind.wrap .u32 (IntKind.wrap .u8 (n_3 - (48 : Int))))),
 D.int .i64 (IntKind.wrap .i64 (n_2 + (1 : Int)))] <
 M2 [D.int .u32 n_1, D.int .i64 n_2])
 ((room (List.length es + 1) ∧ lens 1 [[D.int .u32 n_1]]) ∧
 I1 [] [D.sl (es ++ [[D.int .u32 n_1]]), D.int .i64 (IntKind.wrap .i64 (n - (9 : Int)))] ∧
 M1 [D.sl (es ++ [[D.int .u32 n_1]]), D.int .i64 (IntKind.wrap .i64 (n - (9 : Int)))] <
 M1 [D.sl es, D.int .i64 n]))
 (∃ b_1 es_1,
 Gv 159 [A.c (D.bool b), A.c (D.sl es)] [A.ag [D.bool b_1, D.sl es_1]] ∧
 Q [A.ag [D.bool b_1, D.sl es_1], A.c (D.int .i64 (0 : Int))])))) := by kernel_rfl
theorem vc_rParse (Gv : Nat → List A → List A → Prop) (s : List UInt8) (Q : List A → Prop) :
 wpF CC Gv (fun _ => ⟨[], [], fun _ _ => True, fun _ => 0⟩) Tryz.f148 [.c (.str s)] Q = (
 ∃ s_1 s_2 b,
 Gv 92 [A.c (D.str s), A.c (D.str [(47 : UInt8)])] [A.c (D.str s_1), A.c (D.str s_2), A.c (D.bool b)] ∧
 ∃ b_1 es n,
 Gv 210 [A.c (D.str s_1)] [A.ag [D.bool b_1, D.sl es], A.c (D.int .i64 n)] ∧
 br (toB (D.bool (n != (0 : Int)))) (Q [A.ag [D.bool false, D.sl [], D.bool false, D.sl []], A.c (D.int .i64 (2 : Int))])
 (br (toB (D.bool !b))
 (∃ b es_1 b_2 es_2,
 Gv 211 [A.ag [D.bool b_1, D.sl es]] [A.ag [D.bool b, D.sl es_1, D.bool b_2, D.sl es_2]] ∧
 Q [A.ag [D.bool b, D.sl es_1, D.bool b_2, D.sl es_2], A.c (D.int .i64 (0 : Int))])
 (∃ b es_1 n,
 Gv 210 [A.c (D.str s_2)] [A.ag [D.bool b, D.sl es_1], A.c (D.int .i64 n)] ∧
 br (toB (D.bool (n != (0 : Int)))) (Q [A.ag [D.bool false, D.sl [], D.bool false, D.sl []], A.c (D.int .i64 (2 : Int))])
 (∃ b_2 es_2,
 Gv 139 [] [A.ag [D.bool b_2, D.sl es_2]] ∧
 ∃ n,
 Gv 105 [A.ag [D.bool b, D.sl es_1], A.ag [D.bool b_2, D.sl es_2]] [A.c (D.int .i64 n)] ∧
 br (toB (D.bool (decide (n ≤ (0 : Int)))))
 (Q [A.ag [D.bool false, D.sl [], D.bool false, D.sl []], A.c (D.int .i64 (2 : Int))])
 (∃ b_3 es_3,
 Gv 138 [A.ag [D.bool b_1, D.sl es], A.ag [D.bool b, D.sl es_1]] [A.ag [D.bool b_3, D.sl es_3]] ∧
 ∃ b_4 es_4,
 Gv 139 [] [A.ag [D.bool b_4, D.sl es_4]] ∧
 ∃ n,
 Gv 105 [A.ag [D.bool b_3, D.sl es_3], A.ag [D.bool b_4, D.sl es_4]] [A.c (D.int .i64 n)] ∧
 br (toB (D.bool (n != (0 : Int))))
 (Q [A.ag [D.bool false, D.sl [], D.bool false, D.sl []], A.c (D.int .i64 (2 : Int))])
 (Q [A.ag [D.bool b_1, D.sl es, D.bool b, D.sl es_1], A.c (D.int .i64 (0 : Int))])))))) := by kernel_rfl
theorem vc_qFmt (Gv : Nat → List A → List A → Prop) (I0 : List D → List D → Prop) (M0 : List D → Nat) (I1 : List D → List D → Prop) (M1 : List D → Nat) (I2 : List D → List D → Prop) (M2 : List D → Nat) (p : Bool) (es : List (List D)) (Q : List A → Prop) :
 wpF CC Gv (ann3 ⟨[.slot 3 (.string ⟨#[]⟩), .slot 4 (.int .i64 0)], [], I0, M0⟩ ⟨[.slot 3 (.string ⟨#[]⟩), .slot 5 (.int .u32 0), .slot 6 (.int .i64 0)], [.slot 3 (.string ⟨#[]⟩), .slot 4 (.int .i64 0), .slot 5 (.int .u32 0)], I1, M1⟩ ⟨[.slot 3 (.string ⟨#[]⟩)], [], I2, M2⟩) Tryz.f145 [.ag [.bool p, .sl es]] Q = (
 br (toB (D.bool ((Int.ofNat (List.length es)) == (0 : Int)))) (Q [A.c (D.str [(48 : UInt8)])])
 (I0 [] [D.str [], D.int .i64 (0 : Int)] ∧
 ∀ (s : List UInt8) (n : Int),
 I0 [] [D.str s, D.int .i64 n] →
 br (toB (D.bool (decide (n < (Int.ofNat (List.length es))))))
 (((0 : Int) ≤ n ∧ n < (Int.ofNat (List.length es)) ∧ List.length (nth [] es (Int.toNat n)) = 1) ∧
 ∃ n_1,
 cut (nth [] es (Int.toNat n)) 0 1 [D.int .u32 n_1] ∧
 I1 [D.str s, D.int .i64 n, D.int .u32 n_1] [D.str s, D.int .u32 n_1, D.int .i64 (0 : Int)] ∧
 ∀ (s_1 : List UInt8) (n_2 n_3 : Int),
 I1 [D.str s, D.int .i64 n, D.int .u32 n_1] [D.str s_1, D.int .u32 n_2, D.int .i64 n_3] →
 br (toB (D.bool (decide (n_3 < (9 : Int)))))
 ((10 : Int) ≠ (0 : Int) ∧
 ((0 : Int) ≤ IntKind.wrap .i32 (IntKind.wrap .u32 ((48 : Int) + Int.tmod n_2 (10 : Int))) ∧
 IntKind.wrap .i32 (IntKind.wrap .u32 ((48 : Int) + Int.tmod n_2 (10 : Int))) < (128 : Int)) ∧
 room (1 + List.length s_1) ∧
 (10 : Int) ≠ (0 : Int) ∧
 I1 [D.str s, D.int .i64 n, D.int .u32 n_1]
 [D.str
 (UInt8.ofNat (Int.toNat (IntKind.wrap .i32 (IntKind.wrap .u32 ((48 : Int) + Int.tmod n_2 (10 : Int))))) ::
 s_1),
 D.int .u32 (IntKind.wrap .u32 (Int.tdiv n_2 (10 : Int))),
 D.int .i64 (IntKind.wrap .i64 (n_3 + (1 : Int)))] ∧
 M1
 [D.str
 (UInt8.ofNat
 (Int.toNat (IntKind.wrap .i32 (IntKind.wrap .u32 ((48 : Int) + Int.tmod n_2 (10 : Int))))) ::
 s_1),
 D.int .u32 (IntKind.wrap .u32 (Int.tdiv n_2 (10 : Int))),
 D.int .i64 (IntKind.wrap .i64 (n_3 + (1 : Int)))] <
 M1 [D.str s_1, D.int .u32 n_2, D.int .i64 n_3])
 (I0 [] [D.str s_1, D.int .i64 (IntKind.wrap .i64 (n + (1 : Int)))] ∧
 M0 [D.str s_1, D.int .i64 (IntKind.wrap .i64 (n + (1 : Int)))] < M0 [D.str s, D.int .i64 n]))
 (I2 [] [D.str s] ∧
 ∀ (s : List UInt8),
 I2 [] [D.str s] →
 ((0 : Int) ≤ (0 : Int) ∧ (0 : Int) < (Int.ofNat (List.length s))) ∧
 br (toB (D.bool ((Int.ofNat (UInt8.toNat (nth (0 : UInt8) s (Int.toNat (0 : Int))))) == (48 : Int))))
 (((0 : Int) ≤ (1 : Int) ∧ (1 : Int) ≤ (Int.ofNat (List.length s)) ∧ (Int.ofNat (List.length s)) ≤ (Int.ofNat (List.length s))) ∧
 I2 [] [D.str (List.drop 1 (List.take (Int.toNat (Int.ofNat (List.length s))) s))] ∧
 M2 [D.str (List.drop 1 (List.take (Int.toNat (Int.ofNat (List.length s))) s))] < M2 [D.str s])
 (br p (room (1 + List.length s) ∧ Q [A.c (D.str ((45 : UInt8) :: s))]) (Q [A.c (D.str s)]))))) := by kernel_rfl
theorem vc_uFmt (Gv : Nat → List A → List A → Prop) (p q : Bool) (es fs : List (List D)) (Q : List A → Prop) :
 wpF CC Gv (fun _ => ⟨[], [], fun _ _ => True, fun _ => 0⟩) Tryz.f91 [.ag [.bool p, .sl es, .bool q, .sl fs]] Q = (
 ∃ b es_1,
 Gv 98 [] [A.ag [D.bool b, D.sl es_1]] ∧
 ∃ b_1,
 Gv 101 [A.ag [D.bool q, D.sl fs], A.ag [D.bool b, D.sl es_1]] [A.c (D.bool b_1)] ∧
 br b_1 (∃ s, Gv 145 [A.ag [D.bool p, D.sl es]] [A.c (D.str s)] ∧ Q [A.c (D.str s)])
 (∃ s,
 Gv 145 [A.ag [D.bool p, D.sl es]] [A.c (D.str s)] ∧
 room (List.length s + 1) ∧
 ∃ s_1,
 Gv 145 [A.ag [D.bool q, D.sl fs]] [A.c (D.str s_1)] ∧
 room (List.length (s ++ [(47 : UInt8)]) + List.length s_1) ∧ Q [A.c (D.str (s ++ [(47 : UInt8)] ++ s_1))])) := by kernel_rfl
theorem vc_qParse (Gv : Nat → List A → List A → Prop) (I0 : List D → List D → Prop) (M0 : List D → Nat) (I1 : List D → List D → Prop) (M1 : List D → Nat) (J4 : List D → List D → Prop) (J6 : List D → List D → Prop) (s : List UInt8) (Q : List A → Prop) :
 wpF CC Gv (annJ (annJ (ann2 ⟨[.own 5 42 1, .slot 6 (.int .i64 0)], [], I0, M0⟩ ⟨[.slot 8 (.int .u32 0), .slot 9 (.int .i64 0)], [.own 5 42 1, .slot 6 (.int .i64 0), .slot 7 (.int .i64 0)], I1, M1⟩) 4 ⟨[.slot 4 (.string ⟨#[]⟩)], [], J4, fun _ => 0⟩) 6 ⟨[], [.slot 4 (.string ⟨#[]⟩)], J6, fun _ => 0⟩) Tryz.f212 [.c (.str s)] Q = (
 br (toB (D.bool (decide ((Int.ofNat (List.length s)) > (0 : Int)))))
 (((0 : Int) ≤ (0 : Int) ∧ (0 : Int) < (Int.ofNat (List.length s))) ∧
 br (toB (D.bool ((Int.ofNat (UInt8.toNat (nth (0 : UInt8) s (Int.toNat (0 : Int))))) == (45 : Int))))
 (((0 : Int) ≤ (1 : Int) ∧ (1 : Int) ≤ (Int.ofNat (List.length s)) ∧ (Int.ofNat (List.length s)) ≤ (Int.ofNat (List.length s))) ∧
 J4 [] [D.str (List.drop 1 (List.take (Int.toNat (Int.ofNat (List.length s))) s))])
 (J4 [] [D.str s]))
 (J4 [] [D.str s]) ∧
 ∀ (s_1 : List UInt8),
 J4 [] [D.str s_1] →
 br (toB (D.bool (s_1 == []))) (Q [A.ag [D.bool false, D.sl []], A.c (D.int .i64 (2 : Int))])
 (br (toB (D.bool (decide ((Int.ofNat (List.length s)) > (65536 : Int))))) (Q [A.ag [D.bool false, D.sl []], A.c (D.int .i64 (2 : Int))])
 (((0 : Int) ≤ (0 : Int) ∧ (0 : Int) < (Int.ofNat (List.length s_1))) ∧
 br (toB (D.bool ((Int.ofNat (UInt8.toNat (nth (0 : UInt8) s_1 (Int.toNat (0 : Int))))) == (48 : Int))))
 (br (toB (D.bool !s == [(48 : UInt8)])) (Q [A.ag [D.bool false, D.sl []], A.c (D.int .i64 (2 : Int))]) (J6 [D.str s_1] []))
 (J6 [D.str s_1] []))) ∧
 (J6 [D.str s_1] [] →
 (9 : Int) ≠ (0 : Int) ∧
 ((0 : Int) ≤ IntKind.wrap .i64 (IntKind.wrap .i64 (Int.tdiv (Int.ofNat (List.length s_1)) (9 : Int)) + (1 : Int)) ∧
 IntKind.wrap .i64 (IntKind.wrap .i64 (Int.tdiv (Int.ofNat (List.length s_1)) (9 : Int)) + (1 : Int)) ≤
 IntKind.wrap .i64 (IntKind.wrap .i64 (Int.tdiv (Int.ofNat (List.length s_1)) (9 : Int)) + (1 : Int)) ∧
 room (Int.toNat (IntKind.wrap .i64 (IntKind.wrap .i64 (Int.tdiv (Int.ofNat (List.length s_1)) (9 : Int)) + (1 : Int))))) ∧
 I0 []
 [D.sl
 (List.replicate (Int.toNat (IntKind.wrap .i64 (IntKind.wrap .i64 (Int.tdiv (Int.ofNat (List.length s_1)) (9 : Int)) + (1 : Int))))
 [D.int .u32 (0 : Int)]),
 D.int .i64 (0 : Int)] ∧
 ∀ (es : List (List D)) (n : Int),
 I0 [] [D.sl es, D.int .i64 n] →
 br (toB (D.bool (decide (n < (Int.ofNat (List.length s_1))))))
 (((0 : Int) ≤ n ∧ n < (Int.ofNat (List.length s_1))) ∧
 br (toB (D.bool (decide ((Int.ofNat (UInt8.toNat (nth (0 : UInt8) s_1 (Int.toNat n)))) < (48 : Int)))))
 (Q [A.ag [D.bool false, D.sl []], A.c (D.int .i64 (2 : Int))])
 (((0 : Int) ≤ n ∧ n < (Int.ofNat (List.length s_1))) ∧
 br (toB (D.bool (decide ((Int.ofNat (UInt8.toNat (nth (0 : UInt8) s_1 (Int.toNat n)))) > (57 : Int)))))
 (Q [A.ag [D.bool false, D.sl []], A.c (D.int .i64 (2 : Int))])
 (I1
 [D.sl es, D.int .i64 n,
 D.int .i64 (IntKind.wrap .i64 (IntKind.wrap .i64 ((Int.ofNat (List.length s_1)) - (1 : Int)) - n))]
 [D.int .u32 (1 : Int), D.int .i64 (0 : Int)] ∧
 ∀ (n_1 n_2 : Int),
 I1
 [D.sl es, D.int .i64 n,
 D.int .i64 (IntKind.wrap .i64 (IntKind.wrap .i64 ((Int.ofNat (List.length s_1)) - (1 : Int)) - n))]
 [D.int .u32 n_1, D.int .i64 n_2] →
 (9 : Int) ≠ (0 : Int) ∧
 br
 (toB
 (D.bool
 (decide
 (n_2 <
 Int.tmod (IntKind.wrap .i64 (IntKind.wrap .i64 ((Int.ofNat (List.length s_1)) - (1 : Int)) - n))
 (9 : Int)))))
 (I1
 [D.sl es, D.int .i64 n,
 D.int .i64 (IntKind.wrap .i64 (IntKind.wrap .i64 ((Int.ofNat (List.length s_1)) - (1 : Int)) - n))]
 [D.int .u32 (IntKind.wrap .u32 (n_1 * (10 : Int))),
 D.int .i64 (IntKind.wrap .i64 (n_2 + (1 : Int)))] ∧
 M1
 [D.int .u32 (IntKind.wrap .u32 (n_1 * (10 : Int))),
 D.int .i64 (IntKind.wrap .i64 (n_2 + (1 : Int)))] <
 M1 [D.int .u32 n_1, D.int .i64 n_2])
 ((9 : Int) ≠ (0 : Int) ∧
 (9 : Int) ≠ (0 : Int) ∧
 ((0 : Int) ≤
 IntKind.wrap .i64
 (Int.tdiv (IntKind.wrap .i64 (IntKind.wrap .i64 ((Int.ofNat (List.length s_1)) - (1 : Int)) - n))
 (9 : Int)) ∧
 IntKind.wrap .i64
 (Int.tdiv (IntKind.wrap .i64 (IntKind.wrap .i64 ((Int.ofNat (List.length s_1)) - (1 : Int)) - n))
 (9 : Int)) <
 (Int.ofNat (List.length es))) ∧
 ∃ n_3,
 cut
 (nth [] es
 (Int.toNat
 (IntKind.wrap .i64
 (Int.tdiv (IntKind.wrap .i64 (IntKind.wrap .i64 ((Int.ofNat (List.length s_1)) - (1 : Int)) - n))
 (9 : Int)))))
 0 1 [D.int .u32 n_3] ∧
 ((0 : Int) ≤ n ∧ n < (Int.ofNat (List.length s_1))) ∧
 ((0 : Int) ≤
 IntKind.wrap .i64
 (Int.tdiv (IntKind.wrap .i64 (IntKind.wrap .i64 ((Int.ofNat (List.length s_1)) - (1 : Int)) - n))
 (9 : Int)) ∧
 IntKind.wrap .i64
 (Int.tdiv (IntKind.wrap .i64 (IntKind.wrap .i64 ((Int.ofNat (List.length s_1)) - (1 : Int)) - n))
 (9 : Int)) <
 (Int.ofNat (List.length es))) ∧
 0 < 1 ∧
 I0 []
 [D.sl
 (upd es
 (Int.toNat
 (IntKind.wrap .i64
 (Int.tdiv
 (IntKind.wrap .i64
 (IntKind.wrap .i64 ((Int.ofNat (List.length s_1)) - (1 : Int)) - n))
 (9 : Int))))
 (upd
 (nth [] es
 (Int.toNat
 (IntKind.wrap .i64
 (Int.tdiv
 (IntKind.wrap .i64
 (IntKind.wrap .i64 ((Int.ofNat (List.length s_1)) - (1 : Int)) - n))
 (9 : Int)))))
 0
 (D.int .u32
 (IntKind.wrap .u32
 (n_3 +
 IntKind.wrap .u32
 (IntKind.wrap .u32
 (IntKind.wrap .u8
 ((Int.ofNat (UInt8.toNat (nth (0 : UInt8) s_1 (Int.toNat n)))) - (48 : Int))) *
 n_1)))))),
 D.int .i64 (IntKind.wrap .i64 (n + (1 : Int)))] ∧
 M0
 [D.sl
 (upd es
 (Int.toNat
 (IntKind.wrap .i64
 (Int.tdiv
 (IntKind.wrap .i64
 (IntKind.wrap .i64 ((Int.ofNat (List.length s_1)) - (1 : Int)) - n))
 (9 : Int))))
 (upd
 (nth [] es
 (Int.toNat
 (IntKind.wrap .i64
 (Int.tdiv
 (IntKind.wrap .i64
 (IntKind.wrap .i64 ((Int.ofNat (List.length s_1)) - (1 : Int)) - n))
 (9 : Int)))))
 0
 (D.int .u32
 (IntKind.wrap .u32
 (n_3 +
 IntKind.wrap .u32
 (IntKind.wrap .u32
 (IntKind.wrap .u8
 ((Int.ofNat (UInt8.toNat (nth (0 : UInt8) s_1 (Int.toNat n)))) - (48 : Int))) *
 n_1)))))),
 D.int .i64 (IntKind.wrap .i64 (n + (1 : Int)))] <
 M0 [D.sl es, D.int .i64 n]))))
 (((0 : Int) ≤ (0 : Int) ∧ (0 : Int) < (Int.ofNat (List.length s))) ∧
 ∃ b es_1,
 Gv 124 [A.c (D.bool ((Int.ofNat (UInt8.toNat (nth (0 : UInt8) s (Int.toNat (0 : Int))))) == (45 : Int))), A.c (D.sl es)]
 [A.ag [D.bool b, D.sl es_1]] ∧
 Q [A.ag [D.bool b, D.sl es_1], A.c (D.int .i64 (0 : Int))]))) := by kernel_rfl
theorem vc_uParse (Gv : Nat → List A → List A → Prop) (I0 : List D → List D → Prop) (M0 : List D → Nat) (s : List UInt8) (Q : List A → Prop) :
 wpF CC Gv (fun _ => ⟨[.slot 4 (.int .i64 0), .slot 5 (.int .i64 0)], [], I0, M0⟩) Tryz.f150 [.c (.str s)] Q = (
 I0 [] [D.int .i64 (Int.ofNat (List.length s)), D.int .i64 (IntKind.wrap .i64 ((Int.ofNat (List.length s)) - (1 : Int)))] ∧
 ∀ (n n_1 : Int),
 I0 [] [D.int .i64 n, D.int .i64 n_1] →
 br (toB (D.bool (decide (n_1 ≥ (0 : Int)))))
 (((0 : Int) ≤ n_1 ∧ n_1 < (Int.ofNat (List.length s))) ∧
 br (toB (D.bool ((Int.ofNat (UInt8.toNat (nth (0 : UInt8) s (Int.toNat n_1)))) == (47 : Int))))
 (I0 [] [D.int .i64 n_1, D.int .i64 (IntKind.wrap .i64 (n_1 - (1 : Int)))] ∧
 M0 [D.int .i64 n_1, D.int .i64 (IntKind.wrap .i64 (n_1 - (1 : Int)))] < M0 [D.int .i64 n, D.int .i64 n_1])
 (I0 [] [D.int .i64 n, D.int .i64 (IntKind.wrap .i64 (n_1 - (1 : Int)))] ∧
 M0 [D.int .i64 n, D.int .i64 (IntKind.wrap .i64 (n_1 - (1 : Int)))] < M0 [D.int .i64 n, D.int .i64 n_1]))
 (((0 : Int) ≤ (0 : Int) ∧ (0 : Int) ≤ n ∧ n ≤ (Int.ofNat (List.length s))) ∧
 ∃ b es n_2,
 Gv 212 [A.c (D.str (List.drop 0 (List.take (Int.toNat n) s)))] [A.ag [D.bool b, D.sl es], A.c (D.int .i64 n_2)] ∧
 ∃ b_1 es_1,
 Gv 98 [] [A.ag [D.bool b_1, D.sl es_1]] ∧
 br (toB (D.bool (decide (n < (Int.ofNat (List.length s))))))
 (((0 : Int) ≤ IntKind.wrap .i64 (n + (1 : Int)) ∧
 IntKind.wrap .i64 (n + (1 : Int)) ≤ (Int.ofNat (List.length s)) ∧ (Int.ofNat (List.length s)) ≤ (Int.ofNat (List.length s))) ∧
 ∃ b_2 es_2 n_3,
 Gv 212
 [A.c (D.str (List.drop (Int.toNat (IntKind.wrap .i64 (n + (1 : Int)))) (List.take (Int.toNat (Int.ofNat (List.length s))) s)))]
 [A.ag [D.bool b_2, D.sl es_2], A.c (D.int .i64 n_3)] ∧
 br (toB (D.bool (n_2 != (0 : Int)))) (Q [A.ag [D.bool false, D.sl [], D.bool false, D.sl []], A.c (D.int .i64 (2 : Int))])
 (br (toB (D.bool (n_3 != (0 : Int)))) (Q [A.ag [D.bool false, D.sl [], D.bool false, D.sl []], A.c (D.int .i64 (2 : Int))])
 (∃ n,
 Gv 100 [A.ag [D.bool b_2, D.sl es_2]] [A.c (D.int .i64 n)] ∧
 br (toB (D.bool (n != (1 : Int))))
 (Q [A.ag [D.bool false, D.sl [], D.bool false, D.sl []], A.c (D.int .i64 (2 : Int))])
 (∃ b_3 es_3 b_4 es_4,
 Gv 74 [A.ag [D.bool b, D.sl es], A.ag [D.bool b_2, D.sl es_2]]
 [A.ag [D.bool b_3, D.sl es_3, D.bool b_4, D.sl es_4]] ∧
 ∃ s_1,
 Gv 91 [A.ag [D.bool b_3, D.sl es_3, D.bool b_4, D.sl es_4]] [A.c (D.str s_1)] ∧
 br (toB (D.bool !s_1 == s))
 (Q [A.ag [D.bool false, D.sl [], D.bool false, D.sl []], A.c (D.int .i64 (2 : Int))])
 (Q [A.ag [D.bool b_3, D.sl es_3, D.bool b_4, D.sl es_4], A.c (D.int .i64 (0 : Int))])))))
 (br (toB (D.bool (n_2 != (0 : Int)))) (Q [A.ag [D.bool false, D.sl [], D.bool false, D.sl []], A.c (D.int .i64 (2 : Int))])
 (∃ n,
 Gv 100 [A.ag [D.bool b_1, D.sl es_1]] [A.c (D.int .i64 n)] ∧
 br (toB (D.bool (n != (1 : Int)))) (Q [A.ag [D.bool false, D.sl [], D.bool false, D.sl []], A.c (D.int .i64 (2 : Int))])
 (∃ b_2 es_2 b_3 es_3,
 Gv 74 [A.ag [D.bool b, D.sl es], A.ag [D.bool b_1, D.sl es_1]] [A.ag [D.bool b_2, D.sl es_2, D.bool b_3, D.sl es_3]] ∧
 ∃ s_1,
 Gv 91 [A.ag [D.bool b_2, D.sl es_2, D.bool b_3, D.sl es_3]] [A.c (D.str s_1)] ∧
 br (toB (D.bool !s_1 == s)) (Q [A.ag [D.bool false, D.sl [], D.bool false, D.sl []], A.c (D.int .i64 (2 : Int))])
 (Q [A.ag [D.bool b_2, D.sl es_2, D.bool b_3, D.sl es_3], A.c (D.int .i64 (0 : Int))])))))) := by kernel_rfl
end Eng
end

section
namespace Eng
open Go Go.Proofs
set_option maxRecDepth 100000
theorem cutAt_take {c : UInt8} : ∀ (s : List UInt8) {t : List UInt8}, (cutAt c s).2 = some t → (cutAt c s).1 = s.take (cutAt c s).1.length ∧ t = s.drop ((cutAt c s).1.length + 1) ∧ (cutAt c s).1.length < s.length
 | [], t, h => by simp [cutAt] at h
 | a :: s, t, h => by
  rw [cutAt] at h ⊢
  by_cases ha : a = c
  ·rw [if_pos ha] at h ⊢
   simp only [Option.some.injEq] at h
   subst h
   simp
  ·rw [if_neg ha] at h ⊢
   obtain ⟨h1, h2, h3⟩ := cutAt_take s (t := t) h
   simp only [List.length_cons, List.take_succ_cons, List.drop_succ_cons, List.cons.injEq, true_and]
   exact ⟨h1, h2, by omega⟩
theorem cutAt_fst_none {c : UInt8} {s : List UInt8} (h : (cutAt c s).2 = none) : (cutAt c s).1 = s := by
 have := cutAt_eq (c := c) s
 rw [h] at this
 simpa using this.symm
theorem idx_cut (c : UInt8) : ∀ s, Lib.indexByte s c = match (cutAt c s).2 with | none => -1 | some _ => ((cutAt c s).1.length : Int)
 | [] => rfl
 | a :: s => by
  have ih := idx_cut c s
  rw [Lib.indexByte, cutAt]
  by_cases ha : a = c
  ·subst ha; simp
  ·rw [if_neg ha]
   have h1 : (a == c) = false := by simpa using ha
   rw [h1]
   simp only [Bool.false_eq_true, if_false]
   rw [ih]
   cases h : (cutAt c s).2 with
   | none => rfl
   | some t =>
    simp only
    rw [if_neg (by simp)]
    simp
theorem u8_back (c : UInt8) : Nat.toUInt8 (Int.toNat ((c.toNat : Nat) : Int)) = c := by
 rw [Int.toNat_natCast]; simp
theorem sIdxB_ok (s : List UInt8) (c : UInt8) : Gives CC 277 [.c (.str s), .c (.int .u8 c.toNat)] [.c (.int .i64 (Lib.indexByte s c))] := by
 refine wpF_ok (anns := fun _ => ⟨[], [], fun _ _ => True, fun _ => 0⟩) mixedT Tryz.func277 ?_
 rw [vc_sIdxB, u8_back]
theorem sIdx_ok (s : List UInt8) (c : UInt8) : Gives CC 208 [.c (.str s), .c (.str [c])] [.c (.int .i64 (Lib.indexByte s c))] := by
 refine wpF_ok (anns := fun _ => ⟨[], [], fun _ _ => True, fun _ => 0⟩) mixedT Tryz.func208 ?_
 rw [vc_sIdx]
 refine brb (fun h => ?_) (fun _ => ⟨⟨by omega, by omega⟩, _, sIdxB_ok s c, rfl⟩)
 have : [c] = s := by simpa using h
 subst this
 simp [Lib.indexByte]
def cutO (p : List UInt8 × Option (List UInt8)) : List A := [.c (.str p.1), .c (.str (p.2.getD [])), .c (.bool p.2.isSome)]
theorem sCut_ok {s : List UInt8} (c : UInt8) (hs : s.length ≤ 1073741824) : Gives CC 146 [.c (.str s), .c (.str [c])] (cutO (cutAt c s)) := by
 refine wpF_ok (anns := fun _ => ⟨[], [], fun _ _ => True, fun _ => 0⟩) mixedT Tryz.func146 ?_
 rw [vc_sCut]
 refine ⟨_, sIdx_ok s c, ?_⟩
 rw [idx_cut]
 cases h : (cutAt c s).2 with
 | none =>
  simp only
  refine brd (fun h2 => by omega) (fun _ => ?_)
  simp only [cutO, h, cutAt_fst_none h, Option.getD_none, Option.isSome_none]
 | some t =>
  obtain ⟨h1, h2, h3⟩ := cutAt_take s h
  simp only
  have hw : IntKind.wrap .i64 (((cutAt c s).1.length : Int) + 1) = (((cutAt c s).1.length + 1 : Nat) : Int) := by rw [i64w (by omega) (by omega)]; omega
  rw [hw]
  simp only [Int.ofNat_eq_natCast, Int.toNat_natCast, List.take_length, List.drop_zero]
  refine brd (fun _ => ⟨⟨by omega, by omega, by omega⟩, ⟨by omega, by omega, by omega⟩, ?_⟩) (fun h4 => absurd (by omega) h4)
  simp only [cutO, h, Option.getD_some, Option.isSome_some]
  rw [← h1, ← h2]
theorem tCut_ok {s : List UInt8} (c : UInt8) (hs : s.length ≤ 1073741824) : Gives CC 92 [.c (.str s), .c (.str [c])] (cutO (cutAt c s)) := by
 refine wpF_ok (anns := fun _ => ⟨[], [], fun _ _ => True, fun _ => 0⟩) mixedT Tryz.func92 ?_
 rw [vc_tCut]
 exact ⟨_, _, _, sCut_ok c hs, rfl⟩
def cutSg : List UInt8 → List UInt8 × Bool
 | [] => ([], false)
 | c :: s => if c = 45 then (s, true) else (c :: s, false)
theorem cutSg_cons (c : UInt8) (s : List UInt8) : cutSg (c :: s) = if c = 45 then (s, true) else (c :: s, false) := rfl
theorem sHasP_ok (s : List UInt8) : Gives CC 326 [.c (.str s), .c (.str [45])] [.c (.bool (cutSg s).2)] := by
 refine wpF_ok (anns := fun _ => ⟨[], [], fun _ _ => True, fun _ => 0⟩) mixedT Tryz.func326 ?_
 rw [vc_sHasP]
 cases s with
 | nil => exact brd (fun h => absurd h (by simp)) (fun _ => rfl)
 | cons c s =>
  simp only [Int.ofNat_eq_natCast, List.length_cons, List.length_nil]
  refine brd (fun h => ⟨⟨by omega, by omega, by omega⟩, ?_⟩) (fun h => absurd h (by omega))
  have e : List.drop 0 (List.take (Int.toNat ((0 + 1 : Nat) : Int)) (c :: s)) = [c] := rfl
  rw [e]
  rw [cutSg_cons]
  by_cases hc : c = 45
  ·subst hc; simp
  ·rw [if_neg hc]
   have : ([c] == [45]) = false := by simpa using hc
   rw [this]
theorem cutSg_len (s : List UInt8) : (cutSg s).1.length ≤ s.length := by
 cases s with
 | nil => simp [cutSg]
 | cons c s => rw [cutSg_cons]; split <;> simp
theorem sCutP_ok {s : List UInt8} (hs : s.length ≤ 1073741824) : Gives CC 332 [.c (.str s), .c (.str [45])] [.c (.str (cutSg s).1), .c (.bool (cutSg s).2)] := by
 refine wpF_ok (anns := fun _ => ⟨[], [], fun _ _ => True, fun _ => 0⟩) mixedT Tryz.func332 ?_
 rw [vc_sCutP]
 refine ⟨_, sHasP_ok s, brb (fun h => ?_) (fun h => ?_)⟩
 ·have h : (cutSg s).2 = false := by simpa using h
  rw [h]
  cases s with
  | nil => rfl
  | cons c s =>
   rw [cutSg_cons] at h ⊢
   by_cases hc : c = 45
   ·rw [if_pos hc] at h; simp at h
   ·rw [if_neg hc]
 ·have h : (cutSg s).2 = true := by simpa using h
  cases s with
  | nil => simp [cutSg] at h
  | cons c s =>
   rw [cutSg_cons] at h ⊢
   by_cases hc : c = 45
   ·rw [if_pos hc]
    simp only [Int.ofNat_eq_natCast, List.length_cons, List.length_nil] at hs ⊢
    refine ⟨⟨by omega, by omega, by omega⟩, ?_⟩
    have e : List.drop (Int.toNat ((0 + 1 : Nat) : Int)) (List.take (Int.toNat ((s.length + 1 : Nat) : Int)) (c :: s)) = s := by
     rw [Int.toNat_natCast, Int.toNat_natCast]
     simp
    rw [e]
   ·rw [if_neg hc] at h; simp at h
theorem tCutP_ok {s : List UInt8} (hs : s.length ≤ 1073741824) : Gives CC 284 [.c (.str s), .c (.str [45])] [.c (.str (cutSg s).1), .c (.bool (cutSg s).2)] := by
 refine wpF_ok (anns := fun _ => ⟨[], [], fun _ _ => True, fun _ => 0⟩) mixedT Tryz.func284 ?_
 rw [vc_tCutP]
 exact ⟨_, _, sCutP_ok hs, rfl⟩
theorem parI_eq (s : List UInt8) : parI s = if bodyOk (cutSg s).2 (cutSg s).1 then some (if (cutSg s).2 then -(natT (cutSg s).1 : Int) else (natT (cutSg s).1 : Int)) else none := by
 cases s with
 | nil => rfl
 | cons c s =>
  rw [parI_cons]
  rw [cutSg_cons]
  by_cases hc : c = 45
  ·rw [if_pos hc, if_pos hc]; simp
  ·rw [if_neg hc, if_neg hc]; simp
theorem dec_join {u v : Nat} (hu : u ≠ 0) (hv : v < 1000000000) : Lib.decDigits (v + 1000000000 * u) = Lib.decDigits u ++ digF 9 v := by
 obtain ⟨m, hm⟩ : ∃ m, Lib.nDigits u = m + 1 := ⟨Lib.nDigits u - 1, by have := nDigits_pos u; omega⟩
 have h1 := nDigits_lt u
 rw [hm] at h1
 have h2 : 10 ^ m ≤ u := by
  rcases Nat.lt_or_ge u (10 ^ m) with h | h
  ·exfalso
   rcases m with _ | m
   ·rw [Nat.pow_zero] at h; omega
   ·have := (nDigits_iff m u).2 h
    omega
  ·exact h
 have e1 : 10 ^ (m + 9) = 10 ^ m * 1000000000 := by rw [Nat.pow_add]
 have e2 : 10 ^ (m + 9 + 1) = 10 ^ (m + 1) * 1000000000 := by rw [show m + 9 + 1 = m + 1 + 9 by omega, Nat.pow_add]
 have h3 : 10 ^ (m + 9) ≤ v + 1000000000 * u := by rw [e1]; have := Nat.mul_le_mul_right 1000000000 h2; omega
 have h4 : v + 1000000000 * u < 10 ^ (m + 9 + 1) := by
  rw [e2]
  have : (u + 1) * 1000000000 ≤ 10 ^ (m + 1) * 1000000000 := Nat.mul_le_mul_right _ h1
  omega
 rw [← dec_of_digF h3 h4, show m + 9 + 1 = m + 1 + 9 by omega, digF_append]
 have e3 : (v + 1000000000 * u) / 10 ^ 9 = u := by
  simp only [Nat.reducePow]; omega
 have e4 : digF 9 (v + 1000000000 * u) = digF 9 v := digF_mod _ _ _ (by simp only [Nat.reducePow]; omega)
 rw [e3, e4, dec_of_digF h2 h1]
theorem nDigits_nine {v : Nat} (hv : v < 1000000000) : Lib.nDigits v ≤ 9 := (nDigits_iff 8 v).2 (by simpa using hv)
theorem rep_eq (c : UInt8) : ∀ n, Lib.repeatL [c] n = List.replicate n c
 | 0 => rfl
 | n + 1 => by rw [Lib.repeatL, rep_eq c n]; rfl
theorem pad_nine {v : Nat} (hv : v < 1000000000) : Lib.repeatL [48] (9 - (Lib.decDigits v).length) ++ Lib.decDigits v = digF 9 v := by
 have h1 := nDigits_nine hv
 have h2 := nDigits_lt v
 rw [rep_eq, Lib.decDigits_length, decDigits_digF v]
 have := digF_pad (Lib.nDigits v) (9 - Lib.nDigits v) v h2
 rw [show 9 - Lib.nDigits v + Lib.nDigits v = 9 by omega] at this
 exact this.symm
theorem rowsOf_append (a b : List UInt8) : rowsOf (a ++ b) = rowsOf a ++ rowsOf b := by simp [rowsOf]
theorem rowsOf_length (a : List UInt8) : (rowsOf a).length = a.length := by simp [rowsOf]
theorem nth_rowsOf {s : List UInt8} {i : Nat} (h : i < s.length) : nth [] (rowsOf s) i = [.int .u8 ((s[i].toNat : Nat) : Int)] := by
 rw [nth_eq]; simp [rowsOf, h]
theorem cut_rowsOf {s : List UInt8} {i : Nat} (h : i < s.length) : cut (nth [] (rowsOf s) i) 0 1 [.int .u8 ((s[i].toNat : Nat) : Int)] := by
 rw [nth_rowsOf h]; exact ⟨rfl, by simp⟩
theorem val_top {l : List Nat} (hz : l = [] ∨ l.getLast? ≠ some 0) {k : Nat} (hk : k < l.length) : val (l.drop k) ≠ 0 := by
 have h1 : (l.drop k).getLast? ≠ some 0 := by
  rw [List.getLast?_drop, if_neg (by omega)]
  rcases hz with h | h
  ·rw [h] at hk; simp at hk
  ·exact h
 have h2 : l.drop k ≠ [] := fun e => by
  have := congrArg List.length e
  rw [List.length_drop, List.length_nil] at this
  omega
 have := len_lt (a := []) (b := l.drop k) Limbs.nil h1 h2 (List.length_pos_iff.2 h2)
 have e : val [] = 0 := rfl
 rw [e] at this; omega
theorem val_drop_succ {l : List Nat} {k : Nat} (hk : k < l.length) : val (l.drop k) = l[k] + 1000000000 * val (l.drop (k + 1)) := by
 rw [List.drop_eq_getElem_cons hk]; rfl
theorem decv_len {l : List Nat} (hl : Limbs l) {k : Nat} (hk : k < l.length) : (Lib.decDigits (val (l.drop k))).length ≤ 9 * l.length := by
 have h1 := val_lt (hl.drop k)
 rw [List.length_drop, pow_9k] at h1
 obtain ⟨m, hm⟩ : ∃ m, 9 * (l.length - k) = m + 1 := ⟨9 * (l.length - k) - 1, by omega⟩
 rw [hm] at h1
 have := dec_len_le h1
 omega
theorem sgT_len (z : Int) : (sgT z).length ≤ 1 := by unfold sgT; split <;> simp
theorem iFmt_ok (z : Int) (hz : (lim z.natAbs).length ≤ 10000000) : Gives CC 140 [encI z] [.c (.str (decZt z))] := by
 have hll := lim_limbs z.natAbs
 have hlv := lim_val z.natAbs
 have hln := lim_nil (n := z.natAbs)
 have hlast := lim_last z.natAbs
 rw [encI_cells]
 generalize hl : lim z.natAbs = l at *
 have hsg := sgT_len z
 refine wpF_ok (C := CC) (anns := annJ (fun _ => ⟨[.slot 5 (.int .i64 0), .bld 4 115 45], [], fun _ ds => ∃ k : Nat, k < l.length ∧ ds = [.int .i64 ((k : Int) - 1), .sl (rowsOf (sgT z ++ Lib.decDigits (val (l.drop k))))], fun ds => (toI (nth .undef ds 0) + 1).toNat⟩)
  7 ⟨[.bld 4 115 46], [], fun _ ds => ds = [.sl (rowsOf (sgT z))], fun _ => 0⟩) mixedT Tryz.func140 ?_
 rw [vc_iFmt]
 simp only [Int.ofNat_eq_natCast, raw_length]
 have h0 : (((l.length : Nat) : Int) == 0) = decide (z.natAbs = 0) := by
  rw [Bool.eq_iff_iff]
  simp only [beq_iff_eq, decide_eq_true_eq]
  rw [← hln]
  cases l <;> simp
  omega
 rw [h0]
 refine brd (fun h => ?_) (fun hne => ⟨?_, ?_⟩)
 ·have : z = 0 := by omega
  subst this
  rw [decZt_pos (by omega)]
  exact congrArg (fun s => [A.c (D.str s)]) dec_0.symm
 ·refine brb' (fun h => ⟨by unfold room; omega, ?_⟩) (fun h => ?_)
  ·unfold sgT; rw [h]; rfl
  ·unfold sgT; rw [h]; rfl
 have hlpos : 0 < l.length := by
  rcases Nat.eq_zero_or_pos l.length with h | h
  ·exact absurd (hln.1 (List.eq_nil_of_length_eq_zero h)) hne
  ·exact h
 intro es he
 simp only [List.cons.injEq, D.sl.injEq, and_true] at he
 subst he
 have w1 : IntKind.wrap .i64 ((l.length : Int) - 1) = ((l.length - 1 : Nat) : Int) := by rw [i64w (by omega) (by omega)]; omega
 have w2 : IntKind.wrap .i64 ((l.length : Int) - 2) = ((l.length - 1 : Nat) : Int) - 1 := by rw [i64w (by omega) (by omega)]; omega
 rw [w1, w2, Int.toNat_natCast]
 have hk1 : l.length - 1 < l.length := by omega
 have hb1 := hll.get hk1
 have e0 : val (l.drop (l.length - 1)) = l[l.length - 1] := by
  rw [val_drop_succ hk1, show l.length - 1 + 1 = l.length by omega, List.drop_length]
  rfl
 have w3 : IntKind.wrap .u64 ((l[l.length - 1] : Nat) : Int) = ((l[l.length - 1] : Nat) : Int) := u64w (by omega) (by omega)
 have hd1 := decv_len hll hk1
 rw [e0] at hd1
 refine ⟨⟨by omega, by omega, raw_len1 hk1⟩, _, cut_raw hk1, ?_⟩
 rw [w3]
 refine ⟨_, fmtUint_ok _ (by omega), ?_, ⟨l.length - 1, hk1, ?_⟩, ?_⟩
 ·unfold room; rw [rowsOf_length, rowsOf_length]; omega
 ·rw [e0, rowsOf_append]
 rintro n es ⟨k, hk, he⟩
 simp only [List.cons.injEq, D.int.injEq, D.sl.injEq, true_and, and_true] at he
 obtain ⟨rfl, rfl⟩ := he
 refine brd (fun h => ?_) (fun h => ?_)
 ·obtain ⟨j, rfl⟩ : ∃ j, k = j + 1 := ⟨k - 1, by omega⟩
  have hj : j < l.length := by omega
  have hbj := hll.get hj
  have wj : (((j + 1 : Nat) : Int) - 1) = (j : Int) := by omega
  have wu : IntKind.wrap .u64 ((l[j] : Nat) : Int) = ((l[j] : Nat) : Int) := u64w (by omega) (by omega)
  have hdl : (Lib.decDigits l[j]).length ≤ 9 := by rw [Lib.decDigits_length]; exact nDigits_nine hbj
  have w9 : IntKind.wrap .i64 (9 - ((Lib.decDigits l[j]).length : Int)) = ((9 - (Lib.decDigits l[j]).length : Nat) : Int) := by rw [i64w (by omega) (by omega)]; omega
  have wn : IntKind.wrap .i64 ((j : Int) - 1) = (j : Int) - 1 := i64w (by omega) (by omega)
  rw [wj, Int.toNat_natCast]
  refine ⟨⟨by omega, by omega, raw_len1 hj⟩, _, cut_raw hj, ?_⟩
  rw [wu]
  refine ⟨_, fmtUint_ok _ (by omega), ?_⟩
  rw [w9, wn]
  have hdk := decv_len hll hk
  have hnew : rowsOf (sgT z ++ Lib.decDigits (val (l.drop (j + 1)))) ++ rowsOf (Lib.repeatL [48] (9 - (Lib.decDigits l[j]).length)) ++ rowsOf (Lib.decDigits l[j]) = rowsOf (sgT z ++ Lib.decDigits (val (l.drop j))) := by
   rw [← rowsOf_append, ← rowsOf_append, List.append_assoc, pad_nine hbj, List.append_assoc, ← dec_join (val_top hlast hk) hbj, ← val_drop_succ hj]
  have hrl : (Lib.repeatL [48] (9 - (Lib.decDigits l[j]).length)).length ≤ 9 := by rw [Lib.repeatL_length]; simp
  refine ⟨_, repeat_ok [48] _ (by simp only [List.length_cons, List.length_nil]; omega) (by omega), ?_, ?_, ?_, ?_⟩
  ·unfold room; rw [rowsOf_length, rowsOf_length, List.length_append]; omega
  ·unfold room; rw [List.length_append, rowsOf_length, rowsOf_length, rowsOf_length, List.length_append]; omega
  ·rw [hnew]; exact ⟨j, hj, rfl⟩
  ·simp only [nth, toI]; omega
 ·have hk0 : k = 0 := by omega
  subst hk0
  rw [List.drop_zero, hlv]
  refine ⟨⟨fun e => ?_, bytesOk_rowsOf _⟩, ?_⟩
  ·have := congrArg List.length e
   rw [rowsOf_length, List.length_append, List.length_nil] at this
   exact dec_ne z.natAbs (List.eq_nil_of_length_eq_zero (by omega))
  ·rw [toBytes_rowsOf]; rfl
end Eng
end

section
namespace Eng
open Go Go.Proofs
set_option maxRecDepth 100000
def outI : Option Int → List A
 | none => [.ag [.bool false, .sl []], .c (.int .i64 2)]
 | some z => [encI z, .c (.int .i64 0)]
theorem bodyOk_iff {neg : Bool} {s : List UInt8} : bodyOk neg s = true ↔ s ≠ [] ∧ s.all isD = true ∧ (nth 0 s 0 = 48 → s.length = 1 ∧ neg = false) := by
 cases s with
 | nil => simp [bodyOk]
 | cons c s =>
  have e : nth 0 (c :: s) 0 = c := rfl
  simp only [bodyOk, e, Bool.and_eq_true, Bool.or_eq_true, decide_eq_true_eq, List.isEmpty_iff, Bool.not_eq_true', List.length_cons, ne_eq, reduceCtorEq, not_false_iff, true_and]
  refine and_congr_right fun _ => ?_
  constructor
  ·rintro (h | h) h2
   ·exact absurd h2 h
   ·exact ⟨by simp [h.1], h.2⟩
  ·intro h
   by_cases hc : c = 48
   ·obtain ⟨h1, h2⟩ := h hc
    exact .inr ⟨List.eq_nil_of_length_eq_zero (by omega), h2⟩
   ·exact .inl hc
theorem parI_bad {s : List UInt8} (h : ¬ bodyOk (cutSg s).2 (cutSg s).1 = true) : parI s = none := by
 rw [parI_eq, if_neg h]
theorem u8_is (c : UInt8) : (((c.toNat : Nat) : Int) == 48) = decide (c = 48) := by
 rw [Bool.eq_iff_iff]
 simp only [beq_iff_eq, decide_eq_true_eq]
 constructor
 ·intro h
  apply UInt8.toNat_inj.1
  have : (48 : UInt8).toNat = 48 := rfl
  omega
 ·rintro rfl; rfl
theorem all_take_succ {s : List UInt8} {k : Nat} (hk : k < s.length) : (s.take (k + 1)).all isD = ((s.take k).all isD && isD s[k]) := by
 rw [List.take_succ_eq_append_getElem hk, List.all_append]; simp
theorem not_all {s : List UInt8} {k : Nat} (hk : k < s.length) (h : isD s[k] = false) : ¬ s.all isD = true := fun h2 => by
 have := List.all_eq_true.1 h2 s[k] (List.getElem_mem hk)
 rw [h] at this; simp at this
def chunk (b : List UInt8) (n : Int) : List UInt8 := (b.take n.toNat).drop (n - 9).toNat
theorem chunk_len {b : List UInt8} {n : Int} : (chunk b n).length ≤ 9 := by
 unfold chunk; rw [List.length_drop, List.length_take]; omega
theorem iParse_ok {s : List UInt8} (hs : s.length ≤ 60000) : Gives CC 210 [.c (.str s)] (outI (parI s)) := by
 have hbl := cutSg_len s
 have hbad := fun h => parI_bad (s := s) h
 have hpar := parI_eq s
 have hcp := tCutP_ok (s := s) (by omega)
 generalize (cutSg s).1 = B at *
 generalize (cutSg s).2 = neg at *
 have herr : ¬ bodyOk neg B = true → [A.ag [D.bool false, D.sl []], A.c (D.int .i64 2)] = outI (parI s) := fun h => by rw [hbad h]; rfl
 refine wpF_ok (C := CC) (anns := annJ (ann3
  ⟨[.slot 40 (.int .i64 0)], [], fun _ ds => ∃ k : Nat, k ≤ B.length ∧ ds = [.int .i64 (k : Int)] ∧ (B.take k).all isD = true, fun ds => (B.length - toI (nth .undef ds 0)).toNat⟩
  ⟨[.own 7 87 1, .slot 8 (.int .i64 0)], [], fun _ ds => ∃ (l : List Nat) (e : Int), ds = [.sl (raw l), .int .i64 e] ∧ Limbs l ∧ e ≤ B.length ∧ -9 < e ∧ val l = natT (B.drop e.toNat) ∧ (9 * l.length : Int) = B.length - e, fun ds => (toI (nth .undef ds 1)).toNat⟩
  ⟨[.slot 9 (.int .u32 0), .slot 69 (.int .i64 0)], [.own 7 87 1, .slot 8 (.int .i64 0)], fun gs ds => ∃ i : Nat, i ≤ (chunk B (toI (nth .undef gs 1))).length ∧ ds = [.int .u32 ((natT ((chunk B (toI (nth .undef gs 1))).take i) : Nat) : Int), .int .i64 (i : Int)], fun ds => (9 - toI (nth .undef ds 1)).toNat⟩)
  4 ⟨[], [.slot 4 (.string ⟨#[]⟩), .slot 5 (.bool false)], fun _ _ => B ≠ [] ∧ (nth 0 B 0 = 48 → B.length = 1 ∧ neg = false), fun _ => 0⟩) mixedT Tryz.func210 ?_
 rw [vc_iParse]
 simp only [Int.ofNat_eq_natCast]
 refine ⟨_, _, hcp, brb (fun h => ?_) (fun h => ?_), ?_⟩
 ·have : B = [] := by simpa using h
  exact herr fun h => (bodyOk_iff.1 h).1 this
 ·have hne : B ≠ [] := by simpa using h
  have hpos := List.length_pos_iff.2 hne
  refine brd (fun h => absurd h (by omega)) (fun _ => ⟨⟨by omega, by omega⟩, ?_⟩)
  have e0 : Int.toNat 0 = 0 := rfl
  rw [e0, u8_is]
  refine brd (fun h48 => brd (fun h1 => ?_) (fun h1 => brb' (fun hn => ?_) (fun hn => ⟨hne, fun _ => ⟨by omega, hn⟩⟩))) (fun h48 => ⟨hne, fun h => absurd h h48⟩)
  ·exact herr fun h => by have := ((bodyOk_iff.1 h).2.2 h48).1; omega
  ·exact herr fun h => by have := ((bodyOk_iff.1 h).2.2 h48).2; rw [hn] at this; simp at this
 rintro ⟨hne, h48⟩
 refine ⟨⟨0, by omega, rfl, by simp⟩, ?_⟩
 rintro n ⟨k, hk, he, hall⟩
 simp only [List.cons.injEq, D.int.injEq, true_and, and_true] at he
 subst he
 refine brd (fun h => ?_) (fun h => ?_)
 ·have hkl : k < B.length := by omega
  rw [Int.toNat_natCast, nth_of_lt 0 hkl]
  refine ⟨⟨by omega, by omega⟩, brd (fun h1 => ?_) (fun h1 => ⟨⟨by omega, by omega⟩, brd (fun h2 => ?_) (fun h2 => ⟨⟨k + 1, by omega, ?_, ?_⟩, ?_⟩)⟩)⟩
  ·exact herr fun h => not_all hkl (by simp [isD]; omega) (bodyOk_iff.1 h).2.1
  ·exact herr fun h => not_all hkl (by simp [isD]; omega) (bodyOk_iff.1 h).2.1
  ·rw [i64w (by omega) (by omega)]; rfl
  ·rw [all_take_succ hkl, hall, Bool.true_and, isD_iff]; omega
  ·rw [i64w (by omega) (by omega)]; simp only [nth, toI]; omega
 have hk0 : k = B.length := by omega
 subst hk0
 rw [List.take_length] at hall
 have hok : bodyOk neg B = true := bodyOk_iff.2 ⟨hne, hall, h48⟩
 rw [if_pos hok] at hpar
 refine ⟨⟨[], B.length, rfl, Limbs.nil, by omega, by omega, ?_, by simp⟩, ?_⟩
 ·rw [Int.toNat_natCast, List.drop_length]; rfl
 rintro es n ⟨l, e, he, hl, heB, he9, hv, hlen⟩
 simp only [List.cons.injEq, D.int.injEq, D.sl.injEq, true_and, and_true] at he
 obtain ⟨rfl, rfl⟩ := he
 refine brd (fun h => ?_) (fun h => ?_)
 ·have w9 : IntKind.wrap .i64 (n - 9) = n - 9 := i64w (by omega) (by omega)
  rw [w9, mxZ_eq, Int.toNat_natCast]
  have hcl := chunk_len (b := B) (n := n)
  have hce : List.drop (n - 9).toNat (List.take n.toNat B) = chunk B n := rfl
  have hcv : val (l ++ [natT (chunk B n)]) = natT (B.drop (n - 9).toNat) := limb_step (e := n.toNat) (by omega) (by omega) (by omega) hv _ (by omega)
  have hca : (chunk B n).all isD = true := all_drop (all_take hall _) _
  have hcb : natT (chunk B n) < 1000000000 := Nat.lt_of_lt_of_le (natT_le hca hcl) (by decide)
  rw [hce]
  refine ⟨⟨by omega, by omega, by omega⟩, by unfold room; omega, ⟨0, by omega, rfl⟩, ?_⟩
  rintro n1 n2 ⟨i, hi, he⟩
  have hI : toI (nth D.undef [D.sl (raw l), D.int .i64 n] 1) = n := rfl
  rw [hI] at hi he
  simp only [List.cons.injEq, D.int.injEq, true_and, and_true] at he
  obtain ⟨rfl, rfl⟩ := he
  rw [rowsOf_length]
  refine brd (fun h2 => ?_) (fun h2 => ?_)
  ·have hil : i < (chunk B n).length := by omega
   have hdi := List.all_eq_true.1 hca _ (List.getElem_mem hil)
   have hdr := isD_iff.1 hdi
   have hx : natT ((chunk B n).take i) < 100000000 := Nat.lt_of_lt_of_le (natT_le (n := 8) (all_take hca i) (by rw [List.length_take]; omega)) (by decide)
   have hst := natT_take_succ hil
   rw [Int.toNat_natCast]
   refine ⟨⟨by omega, by omega, ?_⟩, _, cut_rowsOf hil, ⟨i + 1, by rw [hI]; omega, ?_⟩, ?_⟩
   ·rw [nth_rowsOf hil]; rfl
   ·rw [hI, hst]
    have a1 : IntKind.wrap .u32 (10 * ((natT ((chunk B n).take i) : Nat) : Int)) = ((10 * natT ((chunk B n).take i) : Nat) : Int) := by rw [u32w (by omega) (by omega)]; omega
    have a2 : IntKind.wrap .u8 (((chunk B n)[i].toNat : Int) - 48) = ((dv (chunk B n)[i] : Nat) : Int) := by
     rw [show IntKind.wrap .u8 (((chunk B n)[i].toNat : Int) - 48) = (((chunk B n)[i].toNat : Int) - 48) % 256 from rfl]
     unfold dv; omega
    have a3 := dv_lt hdi
    have a4 : IntKind.wrap .u32 ((dv (chunk B n)[i] : Nat) : Int) = ((dv (chunk B n)[i] : Nat) : Int) := u32w (by omega) (by omega)
    rw [a1, a2, a4, u32w (by omega) (by omega), i64w (by omega) (by omega)]
    rfl
   ·rw [i64w (by omega) (by omega)]; simp only [nth, toI]; omega
  ·have hil : i = (chunk B n).length := by omega
   subst hil
   rw [List.take_length]
   have hra : raw l ++ [[D.int .u32 ((natT (chunk B n) : Nat) : Int)]] = raw (l ++ [natT (chunk B n)]) := by rw [raw_append]; rfl
   refine ⟨⟨by unfold room; rw [raw_length]; omega, ?_⟩, ⟨l ++ [natT (chunk B n)], n - 9, by rw [hra], hl.append (Limbs.cons hcb Limbs.nil), by omega, by omega, hcv, ?_⟩, ?_⟩
   ·intro e he
    simp only [List.mem_cons, List.not_mem_nil, or_false] at he
    rw [he]; rfl
   ·rw [List.length_append]; simp only [List.length_cons, List.length_nil]; omega
   ·simp only [nth, toI]; omega
 ·have hn0 : n.toNat = 0 := by omega
  rw [hn0, List.drop_zero] at hv
  have hz := signed_enc neg hl (by omega) (z := if neg then -(natT B : Int) else (natT B : Int)) (by rw [hv])
  rw [encI_cells] at hz
  refine ⟨_, _, up hz, ?_⟩
  rw [hpar]
  rfl
def outQ : Option Rat → List A
 | none => [.ag [.bool false, .sl [], .bool false, .sl []], .c (.int .i64 2)]
 | some q => [encR q, .c (.int .i64 0)]
theorem pow_three {a b c k : Nat} (h : k = a * b * c) : 10 ^ k = ((10 ^ a) ^ b) ^ c := by rw [h, Nat.pow_mul, Nat.pow_mul]
theorem top_eq (k : Nat) (hk : k = 9 * 100 * 10) : topN = 10 ^ k := by
 rw [pow_three hk]
 rfl
theorem sm_pow {z : Int} {n : Nat} (h : z.natAbs < 10 ^ n) (hn : n ≤ 8000) : Sm z := by
 obtain ⟨k, hk⟩ : ∃ k, k = 9 * 100 * 10 := ⟨_, rfl⟩
 unfold Sm
 rw [top_eq k hk]
 exact Nat.lt_of_lt_of_le h (Nat.pow_le_pow_right (by omega) (by omega))
theorem parI_sm {s : List UInt8} {z : Int} (h : parI s = some z) (hs : s.length ≤ 8000) : Sm z := sm_pow (parI_lt h) hs
theorem cutAt_lens (c : UInt8) : ∀ s, (cutAt c s).1.length ≤ s.length ∧ ((cutAt c s).2.getD []).length ≤ s.length
 | [] => by simp [cutAt]
 | a :: s => by
  have := cutAt_lens c s
  rw [cutAt]
  by_cases h : a = c
  ·rw [if_pos h]; simp
  ·rw [if_neg h]; simp only [List.length_cons]; omega
theorem rWhole_ok (n : Int) : Gives CC 211 [encI n] [encR (n : Rat)] := by
 refine wpF_ok (anns := fun _ => ⟨[], [], fun _ _ => True, fun _ => 0⟩) mixedT Tryz.func211 ?_
 rw [encI_cells, vc_whole]
 refine ⟨_, _, runit_ok, ?_⟩
 rw [encR_cells, Rat.num_intCast, Rat.den_intCast]; rfl
theorem encR_cop {n d : Int} (h1 : 0 < d) (h2 : Nat.gcd n.natAbs d.natAbs = 1) : encR (Rat.divInt n d) = .ag (cI n ++ cI d) := by
 rw [encR_divInt h1, h2]; simp
theorem rParse_ok {s : List UInt8} (hs : s.length ≤ 8000) : Gives CC 148 [.c (.str s)] (outQ (parQ s)) := by
 have hl := cutAt_lens 47 s
 have hcut := tCut_ok (s := s) 47 (by omega)
 have hp : parQ s = match parI (cutAt 47 s).1 with | none => none | some n => quoQ n (cutAt 47 s).2 := rfl
 generalize (cutAt 47 s) = p at *
 obtain ⟨a, b⟩ := p
 simp only at hl hp
 have ha := iParse_ok (s := a) (by omega)
 refine wpF_ok (C := CC) (anns := fun _ => ⟨[], [], fun _ _ => True, fun _ => 0⟩) mixedT Tryz.func148 ?_
 rw [vc_rParse]
 refine ⟨_, _, _, hcut, ?_⟩
 cases hn : parI a with
 | none =>
  rw [hn] at ha hp
  refine ⟨_, _, _, ha, brb (fun _ => ?_) (fun h => by simp at h)⟩
  rw [hp]; rfl
 | some n =>
  rw [hn] at ha hp
  have sn := parI_sm hn (by omega)
  simp only at hp
  refine ⟨_, _, _, ha, brb (fun h => by simp at h) (fun _ => ?_)⟩
  cases b with
  | none =>
   simp only [quoQ] at hp
   refine brb (fun _ => ⟨_, _, _, _, rWhole_ok n, ?_⟩) (fun h => by simp at h)
   rw [hp]; rfl
  | some t =>
   simp only [quoQ, Option.getD_some] at hp hl
   have ht := iParse_ok (s := t) (by omega)
   refine brb (fun h => by simp at h) (fun _ => ?_)
   cases hd : parI t with
   | none =>
    rw [hd] at ht hp
    refine ⟨_, _, _, ht, brb (fun _ => ?_) (fun h => by simp at h)⟩
    rw [hp]; rfl
   | some d =>
    rw [hd] at ht hp
    simp only at hp
    have sd := parI_sm hd (by omega)
    refine ⟨_, _, _, ht, brb (fun h => by simp at h) (fun _ => ⟨_, _, runit_ok, _, up (iCmp_ok sd sm_one), brd (fun h => ?_) (fun h => ⟨_, _, iGCD_ok divOk sn sd, _, _, runit_ok, _, up (iCmp_ok ?_ sm_one), ?_⟩)⟩)⟩
    ·have : ¬ (1 < d ∧ Nat.gcd n.natAbs d.natAbs = 1) := fun h2 => by
      unfold cmpZ at h
      rw [if_neg (by omega), if_pos h2.1] at h
      omega
     rw [if_neg this] at hp
     rw [hp]; rfl
    ·have h1 : 1 < d := by
      unfold cmpZ at h
      split at h
      ·omega
      ·split at h <;> omega
     unfold Sm
     rw [Int.natAbs_natCast]
     exact Nat.lt_of_le_of_lt (Nat.gcd_le_right _ (by omega)) sd
    ·have h1 : 1 < d := by
      unfold cmpZ at h
      split at h
      ·omega
      ·split at h <;> omega
     have hg : 0 < Nat.gcd n.natAbs d.natAbs := Nat.gcd_pos_of_pos_right _ (by omega)
     rw [cmp_one hg]
     refine brd (fun h2 => ?_) (fun h2 => ?_)
     ·rw [if_neg (fun h3 => h2 h3.2)] at hp
      rw [hp]; rfl
     ·have h3 : Nat.gcd n.natAbs d.natAbs = 1 := Decidable.not_not.1 h2
      rw [if_pos ⟨h1, h3⟩] at hp
      rw [hp]
      show _ = [encR (Rat.divInt n d), A.c (D.int .i64 0)]
      rw [encR_cop (by omega) h3]
      rfl
theorem decZt_len {z : Int} {n : Nat} (h : z.natAbs < 10 ^ (n + 1)) : (decZt z).length ≤ n + 2 := by
 unfold decZt
 have := dec_len_le h
 have := sgT_len z
 rw [List.length_append]; omega
theorem sm_len {z : Int} (h : Sm z) : (decZt z).length ≤ 9001 := by
 obtain ⟨k, hk⟩ : ∃ k, k + 1 = 9 * 100 * 10 := ⟨8999, rfl⟩
 have h2 : z.natAbs < 10 ^ (k + 1) := by rw [← top_eq _ hk]; exact h
 have := decZt_len h2
 omega
theorem Sm.fmt {z : Int} (h : Sm z) : Gives CC 140 [encI z] [.c (.str (decZt z))] := iFmt_ok z (Nat.le_trans h.len (by omega))
theorem rFmt_ok {q : Rat} (h1 : Sm q.num) (h2 : Sm (q.den : Int)) : Gives CC 86 [encR q] [.c (.str (ratX q))] := by
 refine wpF_ok (C := CC) (anns := fun _ => ⟨[], [], fun _ _ => True, fun _ => 0⟩) mixedT Tryz.func86 ?_
 rw [encR_cells, vc_rFmt]
 have l1 := sm_len h1
 have l2 := sm_len h2
 have hd := q.den_pos
 have hc : (cmpZ (q.den : Int) 1 == 0) = decide (q.den = 1) := by
  rw [Bool.eq_iff_iff]
  simp only [beq_iff_eq, decide_eq_true_eq, cmpZ]
  split
  ·omega
  ·split <;> omega
 refine ⟨_, _, runit_ok, _, up (iCmp_ok h2 sm_one), ?_⟩
 rw [hc]
 refine brd (fun h => ⟨_, h1.fmt, ?_⟩) (fun h => ⟨_, h1.fmt, by unfold room; omega, _, h2.fmt, ?_, ?_⟩)
 ·unfold ratX; rw [if_pos h]
 ·unfold room; rw [List.length_append]; simp only [List.length_cons, List.length_nil]; omega
 ·unfold ratX
  rw [if_neg h, decZt_pos (z := (q.den : Int)) (by omega), Int.natAbs_natCast]
  simp
end Eng
end

section
namespace Eng
open Go Go.Proofs
set_option maxRecDepth 100000
theorem digF_val {l : List Nat} (hl : Limbs l) {k : Nat} (hk : k < l.length) : digF 9 l[k] ++ digF (9 * k) (val (l.take k)) = digF (9 * (k + 1)) (val (l.take (k + 1))) := by
 have h1 : val (l.take k) < 10 ^ (9 * k) := by
  have := val_lt (hl.take k)
  rw [List.length_take, Nat.min_eq_left (by omega), pow_9k] at this
  exact this
 have h2 : val (l.take (k + 1)) = val (l.take k) + 10 ^ (9 * k) * l[k] := by
  have := val_take_succ l k
  rw [pow_9k, List.getD_eq_getElem?_getD, List.getElem?_eq_getElem hk, Option.getD_some] at this
  exact this
 have h3 : val (l.take (k + 1)) / 10 ^ (9 * k) = l[k] := by
  rw [h2, Nat.add_mul_div_left _ _ (Nat.pow_pos (by omega)), Nat.div_eq_of_lt h1, Nat.zero_add]
 have h4 : val (l.take (k + 1)) % 10 ^ (9 * k) = val (l.take k) % 10 ^ (9 * k) := by
  rw [h2, Nat.add_mul_mod_self_left]
 rw [show 9 * (k + 1) = 9 + 9 * k by omega, digF_append (9 * k) 9, h3, digF_mod _ _ _ h4]
theorem qFmt_ok (z : Int) (hz : (lim z.natAbs).length ≤ 10000000) : Gives CC 145 [encI z] [.c (.str (decZt z))] := by
 have hll := lim_limbs z.natAbs
 have hlv := lim_val z.natAbs
 have hln := lim_nil (n := z.natAbs)
 generalize hl : lim z.natAbs = l at *
 refine wpF_ok (anns := ann3
  ⟨[.slot 3 (.string ⟨#[]⟩), .slot 4 (.int .i64 0)], [], fun _ ds => ∃ k : Nat, k ≤ l.length ∧ ds = [.str (digF (9 * k) (val (l.take k))), .int .i64 (k : Int)], fun ds => (l.length - toI (nth .undef ds 1)).toNat⟩
  ⟨[.slot 3 (.string ⟨#[]⟩), .slot 5 (.int .u32 0), .slot 6 (.int .i64 0)], [.slot 3 (.string ⟨#[]⟩), .slot 4 (.int .i64 0), .slot 5 (.int .u32 0)],
    fun gs ds => ∃ (k j : Nat) (v : Nat), j ≤ 9 ∧ gs = [.str (digF (9 * k) (val (l.take k))), .int .i64 (k : Int), .int .u32 (v : Int)] ∧ ds = [.str (digF j v ++ digF (9 * k) (val (l.take k))), .int .u32 ((v / 10 ^ j : Nat) : Int), .int .i64 (j : Int)],
    fun ds => (9 - toI (nth .undef ds 2)).toNat⟩
  ⟨[.slot 3 (.string ⟨#[]⟩)], [], fun _ ds => ∃ j : Nat, j + 1 ≤ 9 * l.length ∧ ds = [.str (digF (j + 1) z.natAbs)] ∧ z.natAbs < 10 ^ (j + 1), fun ds => (toS (nth .undef ds 0)).length⟩) mixedT Tryz.func145 ?_
 rw [encI_cells, hl, vc_qFmt]
 simp only [Int.ofNat_eq_natCast, raw_length]
 have h0 : (((l.length : Nat) : Int) == 0) = decide (z.natAbs = 0) := by
  rw [Bool.eq_iff_iff]
  simp only [beq_iff_eq, decide_eq_true_eq]
  rw [← hln]
  cases l <;> simp
  omega
 rw [h0]
 refine brd (fun h => ?_) (fun hne => ?_)
 ·have : z = 0 := by omega
  subst this
  rw [decZt_pos (by omega)]; exact congrArg (fun s => [A.c (D.str s)]) dec_0.symm
 have hlpos : 0 < l.length := by
  rcases Nat.eq_zero_or_pos l.length with h | h
  ·exact absurd (hln.1 (List.eq_nil_of_length_eq_zero h)) hne
  ·exact h
 refine ⟨⟨0, by omega, rfl⟩, ?_⟩
 rintro s n ⟨k, hk, he⟩
 simp only [List.cons.injEq, D.str.injEq, D.int.injEq, true_and, and_true] at he
 obtain ⟨rfl, rfl⟩ := he
 refine brd (fun h => ?_) (fun h => ?_)
 ·have hkl : k < l.length := by omega
  have hw : IntKind.wrap .i64 ((k : Int) + 1) = ((k + 1 : Nat) : Int) := by rw [i64w (by omega) (by omega)]; omega
  rw [Int.toNat_natCast]
  refine ⟨⟨by omega, by omega, raw_len1 hkl⟩, _, cut_raw hkl, ⟨k, 0, l[k], by omega, rfl, by simp [digF]⟩, ?_⟩
  rintro s1 n2 n3 ⟨k', j, v, hj, hg, he⟩
  simp only [List.cons.injEq, D.str.injEq, D.int.injEq, true_and, and_true] at hg he
  obtain ⟨_, hk', hv⟩ := hg
  have hk' : k' = k := by omega
  have hv : v = l[k] := by omega
  subst hk' hv
  obtain ⟨rfl, rfl, rfl⟩ := he
  have hvb : l[k'] < 1000000000 := hll.get hkl
  refine brd (fun h2 => ?_) (fun h2 => ?_)
  ·have hq1 : l[k'] / 10 ^ (j + 1) = l[k'] / 10 ^ j / 10 := by rw [Nat.pow_succ, Nat.div_div_eq_div_mul]
   have hqle : l[k'] / 10 ^ j ≤ l[k'] := Nat.div_le_self _ _
   have hdc := digF_cons j l[k']
   have hinv : ∀ ds : List D, ds = [.str (digF (j + 1) l[k'] ++ digF (9 * k') (val (l.take k'))), .int .u32 ((l[k'] / 10 ^ (j + 1) : Nat) : Int), .int .i64 ((j + 1 : Nat) : Int)] →
    ∃ (k j : Nat) (v : Nat), j ≤ 9 ∧ [D.str (digF (9 * k') (val (l.take k'))), D.int .i64 (k' : Int), D.int .u32 (l[k'] : Int)] = [.str (digF (9 * k) (val (l.take k))), .int .i64 (k : Int), .int .u32 (v : Int)] ∧ ds = [.str (digF j v ++ digF (9 * k) (val (l.take k))), .int .u32 ((v / 10 ^ j : Nat) : Int), .int .i64 (j : Int)] :=
    fun ds h => ⟨k', j + 1, l[k'], by omega, rfl, h⟩
   rw [hq1, hdc] at hinv
   generalize l[k'] / 10 ^ j = q at *
   have e1 : Int.tmod (q : Int) 10 = ((q % 10 : Nat) : Int) := by rw [Int.tmod_eq_emod_of_nonneg (by omega)]; omega
   have e2 : Int.tdiv (q : Int) 10 = ((q / 10 : Nat) : Int) := by rw [Int.tdiv_eq_ediv_of_nonneg (by omega)]; omega
   have e3 : IntKind.wrap .u32 (48 + ((q % 10 : Nat) : Int)) = ((48 + q % 10 : Nat) : Int) := by rw [u32w (by omega) (by omega)]; omega
   have e4 : IntKind.wrap .i32 ((48 + q % 10 : Nat) : Int) = ((48 + q % 10 : Nat) : Int) := by
    simp only [IntKind.wrap, IntKind.bits, IntKind.signed]
    simp
    omega
   have e5 : IntKind.wrap .u32 ((q / 10 : Nat) : Int) = ((q / 10 : Nat) : Int) := u32w (by omega) (by omega)
   have e6 : IntKind.wrap .i64 ((j : Int) + 1) = ((j + 1 : Nat) : Int) := by rw [i64w (by omega) (by omega)]; omega
   rw [e1, e2, e3, e4, e5, e6, Int.toNat_natCast]
   refine ⟨by omega, ⟨by omega, by omega⟩, ?_, by omega, hinv _ rfl, by simp only [nth, toI]; omega⟩
   unfold room; rw [List.length_append, digF_len, digF_len]; omega
  ·have : j = 9 := by omega
   subst this
   rw [hw]
   refine ⟨⟨k' + 1, by omega, ?_⟩, by simp only [nth, toI]; omega⟩
   rw [digF_val hll hkl]
 ·have hkl : k = l.length := by omega
  subst hkl
  rw [List.take_length, hlv]
  have hvl : z.natAbs < 10 ^ (9 * l.length) := by
   have := val_lt hll
   rw [hlv, pow_9k] at this; exact this
  obtain ⟨m, hm⟩ : ∃ m, 9 * l.length = m + 1 := ⟨9 * l.length - 1, by omega⟩
  rw [hm] at hvl ⊢
  refine ⟨⟨m, by omega, rfl, hvl⟩, ?_⟩
  rintro s ⟨j, hj, he, hlt⟩
  simp only [List.cons.injEq, D.str.injEq, and_true] at he
  subst he
  have hd10 : z.natAbs / 10 ^ j % 10 < 10 := Nat.mod_lt _ (by omega)
  rw [digF_cons]
  simp only [List.length_cons, digF_len]
  refine ⟨⟨by omega, by omega⟩, ?_⟩
  have e0 : nth (0 : UInt8) (UInt8.ofNat (48 + z.natAbs / 10 ^ j % 10) :: digF j z.natAbs) (Int.toNat 0) = UInt8.ofNat (48 + z.natAbs / 10 ^ j % 10) := rfl
  rw [e0, dig_toNat hd10]
  have e1 : ((((48 + z.natAbs / 10 ^ j % 10 : Nat)) : Int) == 48) = decide (z.natAbs / 10 ^ j % 10 = 0) := by
   rw [Bool.eq_iff_iff]; simp only [beq_iff_eq, decide_eq_true_eq]; omega
  rw [e1]
  have hq : z.natAbs / 10 ^ j < 10 := by
   rw [Nat.div_lt_iff_lt_mul (Nat.pow_pos (by omega)), ← Nat.pow_succ']; exact hlt
  refine brd (fun h2 => ?_) (fun h2 => ?_)
  ·have hq0 : z.natAbs / 10 ^ j = 0 := by
    generalize z.natAbs / 10 ^ j = q at *
    omega
   have hlt2 : z.natAbs < 10 ^ j := by
    rcases Nat.lt_or_ge z.natAbs (10 ^ j) with h | h
    ·exact h
    ·have := Nat.div_pos h (Nat.pow_pos (by omega)); rw [hq0] at this; omega
   rcases j with _ | j
   ·rw [Nat.pow_zero] at hlt2; omega
   refine ⟨⟨by omega, by omega, by omega⟩, ⟨j, by omega, ?_, hlt2⟩, ?_⟩
   ·rw [Int.toNat_natCast, List.take_of_length_le (by simp [digF_len])]; rfl
   ·rw [Int.toNat_natCast, List.take_of_length_le (by simp [digF_len])]
    simp [nth, toS, digF_len]
  ·have hge : 10 ^ j ≤ z.natAbs := by
    rcases Nat.lt_or_ge z.natAbs (10 ^ j) with h | h
    ·rw [Nat.div_eq_of_lt h] at h2; omega
    ·exact h
   have hdd := dec_of_digF hge hlt
   rw [← digF_cons, hdd]
   have hlen : (Lib.decDigits z.natAbs).length = j + 1 := by rw [← hdd, digF_len]
   refine brb' (fun h3 => ?_) (fun h3 => ?_)
   ·have h3 := of_decide_eq_true h3
    refine ⟨by unfold room; omega, ?_⟩
    unfold decZt sgT
    rw [decide_eq_true h3]; rfl
   ·have h3 := of_decide_eq_false h3
    unfold decZt sgT
    rw [decide_eq_false h3]; rfl
theorem uFmt_ok {q : Rat} (h1 : Sm q.num) (h2 : Sm (q.den : Int)) : Gives CC 91 [encR q] [.c (.str (ratX q))] := by
 refine wpF_ok (C := CC) (anns := fun _ => ⟨[], [], fun _ _ => True, fun _ => 0⟩) mixedT Tryz.func91 ?_
 rw [encR_cells, vc_uFmt]
 have l1 := sm_len h1
 have l2 := sm_len h2
 have f1 : Gives CC 145 [encI q.num] [.c (.str (decZt q.num))] := qFmt_ok _ (Nat.le_trans h1.len (by omega))
 have f2 : Gives CC 145 [encI (q.den : Int)] [.c (.str (decZt (q.den : Int)))] := qFmt_ok _ (Nat.le_trans h2.len (by omega))
 have hd := q.den_pos
 refine ⟨_, _, uunit_ok, _, qSame_ok h2 sm_one, brb' (fun h => ⟨_, f1, ?_⟩) (fun h => ⟨_, f1, by unfold room; omega, _, f2, ?_, ?_⟩)⟩
 ·have h := of_decide_eq_true h
  unfold ratX; rw [if_pos (by omega)]
 ·unfold room; rw [List.length_append]; simp only [List.length_cons, List.length_nil]; omega
 ·have h := of_decide_eq_false h
  unfold ratX
  rw [if_neg (by omega), decZt_pos (z := (q.den : Int)) (by omega), Int.natAbs_natCast]
  simp
theorem pad_zero : ∀ m, pad m 0 = List.replicate m 0
 | 0 => rfl
 | m + 1 => by rw [pad_succ, Nat.zero_mod, Nat.zero_div, pad_zero m]; rfl
theorem qsig_enc {l : List Nat} (b : Bool) (hl : Limbs l) (hr : l.length ≤ 1073741824) {z : Int} (hz : z = if b then -(val l : Int) else (val l : Int)) :
 Gives CC 124 [.c (.bool b), .c (.sl (raw l))] [encI z] := by
 have h := qsigned_ok b hl hr
 have e1 : z.natAbs = val l := by rw [hz]; split <;> omega
 have e2 : decide (z < 0) = (b && decide (0 < val l)) := by
  rw [hz]
  cases b
  ·simp
  ·simp
 rw [encI_cells, e1, e2]
 exact h
theorem cutSg_head (s : List UInt8) (hs : s ≠ []) : (((nth 0 s 0).toNat : Int) == 45) = (cutSg s).2 := by
 match s, hs with
 | c :: s, _ =>
  have e : nth 0 (c :: s) 0 = c := rfl
  rw [e, cutSg_cons]
  by_cases hc : c = 45
  ·subst hc; rfl
  ·rw [if_neg hc]
   have : c.toNat ≠ 45 := fun h => hc (UInt8.toNat_inj.1 h)
   simp only [beq_eq_false_iff_ne, ne_eq]
   omega
theorem cutSg_neg {s : List UInt8} (h : (cutSg s).2 = true) : s = 45 :: (cutSg s).1 := by
 match s, h with
 | c :: s, h =>
  rw [cutSg_cons] at h ⊢
  by_cases hc : c = 45
  ·rw [if_pos hc, hc]
  ·rw [if_neg hc] at h; simp at h
theorem cutSg_pos {s : List UInt8} (h : (cutSg s).2 = false) : (cutSg s).1 = s := by
 match s, h with
 | [], _ => rfl
 | c :: s, h =>
  rw [cutSg_cons] at h ⊢
  by_cases hc : c = 45
  ·rw [if_pos hc] at h; simp at h
  ·rw [if_neg hc]
theorem qParse_ok {s : List UInt8} (hs : s.length ≤ 60000) : Gives CC 212 [.c (.str s)] (outI (parI s)) := by
 have hbl := cutSg_len s
 have hbad := fun h => parI_bad (s := s) h
 have hpar := parI_eq s
 have hhead := cutSg_head s
 have hneg := @cutSg_neg s
 have hpos := @cutSg_pos s
 generalize hB : (cutSg s).1 = B at *
 generalize hN : (cutSg s).2 = neg at *
 have herr : ¬ bodyOk neg B = true → [A.ag [D.bool false, D.sl []], A.c (D.int .i64 2)] = outI (parI s) := fun h => by rw [hbad h]; rfl
 refine wpF_ok (C := CC) (anns := annJ (annJ (ann2
  ⟨[.own 5 42 1, .slot 6 (.int .i64 0)], [], fun _ ds => ∃ i : Nat, i ≤ B.length ∧ ds = [.sl (raw (pad (B.length / 9 + 1) (natT (B.take i) * 10 ^ (B.length - i)))), .int .i64 (i : Int)] ∧ (B.take i).all isD = true, fun ds => (B.length - toI (nth .undef ds 1)).toNat⟩
  ⟨[.slot 8 (.int .u32 0), .slot 9 (.int .i64 0)], [.own 5 42 1, .slot 6 (.int .i64 0), .slot 7 (.int .i64 0)], fun gs ds => ∃ j : Nat, (j : Int) ≤ toI (nth .undef gs 2) % 9 ∧ ds = [.int .u32 ((10 ^ j : Nat) : Int), .int .i64 (j : Int)], fun ds => (9 - toI (nth .undef ds 1)).toNat⟩)
  4 ⟨[.slot 4 (.string ⟨#[]⟩)], [], fun _ ds => ds = [.str B], fun _ => 0⟩)
  6 ⟨[], [.slot 4 (.string ⟨#[]⟩)], fun _ _ => B ≠ [] ∧ (nth 0 B 0 = 48 → B.length = 1 ∧ neg = false), fun _ => 0⟩) mixedT Tryz.func212 ?_
 rw [vc_qParse]
 simp only [Int.ofNat_eq_natCast]
 refine ⟨brd (fun h => ⟨⟨by omega, by omega⟩, ?_⟩) (fun h => ?_), ?_⟩
 ·have hne : s ≠ [] := fun e => by rw [e] at h; simp at h
  have e0 : Int.toNat 0 = 0 := rfl
  rw [e0, hhead hne]
  refine brb (fun h2 => ⟨⟨by omega, by omega, by omega⟩, ?_⟩) (fun h2 => ?_)
  ·have := hneg h2
   rw [Int.toNat_natCast, List.take_length]
   conv => lhs; rw [this]
   rfl
  ·rw [hpos h2]
 ·have : s = [] := List.eq_nil_of_length_eq_zero (by omega)
  subst this
  have : B = [] := by rw [← hB]; rfl
  rw [this]
 intro s1 he
 simp only [List.cons.injEq, D.str.injEq, and_true] at he
 subst he
 refine ⟨brb (fun h => ?_) (fun h => ?_), ?_⟩
 ·have : s1 = [] := by simpa using h
  exact herr fun h => (bodyOk_iff.1 h).1 this
 ·have hne : s1 ≠ [] := by simpa using h
  have hlp := List.length_pos_iff.2 hne
  refine brd (fun h => absurd h (by omega)) (fun _ => ⟨⟨by omega, by omega⟩, ?_⟩)
  have e0 : Int.toNat 0 = 0 := rfl
  rw [e0, u8_is]
  refine brd (fun h48 => brb (fun h1 => ?_) (fun h1 => ⟨hne, fun _ => ?_⟩)) (fun h48 => ⟨hne, fun h => absurd h h48⟩)
  ·have h1 : s ≠ [48] := by simpa using h1
   refine herr fun h => ?_
   obtain ⟨h2, h3⟩ := (bodyOk_iff.1 h).2.2 h48
   have h4 := hpos h3
   refine h1 ?_
   rw [← h4]
   match s1, h2, h48 with
   | [c], _, h48 =>
    have : nth 0 [c] 0 = c := rfl
    rw [this] at h48
    rw [h48]
  ·have h1 : s = [48] := by simpa using h1
   have e1 : s1 = [48] := by rw [← hB, h1]; rfl
   have e2 : neg = false := by rw [← hN, h1]; rfl
   rw [e1, e2]
   exact ⟨rfl, rfl⟩
 rintro ⟨hne, h48⟩
 have hlp := List.length_pos_iff.2 hne
 have e9 : IntKind.wrap .i64 (IntKind.wrap .i64 (Int.tdiv (s1.length : Int) 9) + 1) = ((s1.length / 9 + 1 : Nat) : Int) := by
  rw [Int.tdiv_eq_ediv_of_nonneg (by omega), i64w (n := (s1.length : Int) / 9) (by omega) (by omega), i64w (by omega) (by omega)]
  omega
 rw [e9, Int.toNat_natCast]
 have hm : s1.length < 9 * (s1.length / 9 + 1) := by omega
 generalize hM : s1.length / 9 + 1 = m at *
 refine ⟨by omega, ⟨by omega, by omega, by unfold room; omega⟩, ⟨0, by omega, ?_, by simp⟩, ?_⟩
 ·have : natT (s1.take 0) = 0 := rfl
  rw [this, Nat.zero_mul, pad_zero, ← raw_replicate]; rfl
 rintro es n ⟨i, hi, he, hall⟩
 simp only [List.cons.injEq, D.int.injEq, D.sl.injEq, true_and, and_true] at he
 obtain ⟨rfl, rfl⟩ := he
 refine brd (fun h => ?_) (fun h => ?_)
 ·have hil : i < s1.length := by omega
  rw [Int.toNat_natCast, nth_of_lt 0 hil]
  refine ⟨⟨by omega, by omega⟩, brd (fun h1 => ?_) (fun h1 => ⟨⟨by omega, by omega⟩, brd (fun h2 => ?_) (fun h2 => ?_)⟩)⟩
  ·exact herr fun h => not_all hil (by simp [isD]; omega) (bodyOk_iff.1 h).2.1
  ·exact herr fun h => not_all hil (by simp [isD]; omega) (bodyOk_iff.1 h).2.1
  have hdi : isD s1[i] = true := isD_iff.2 (by omega)
  have hdr := isD_iff.1 hdi
  have hd := dv_lt hdi
  have wat : IntKind.wrap .i64 (IntKind.wrap .i64 ((s1.length : Int) - 1) - (i : Int)) = ((s1.length - 1 - i : Nat) : Int) := by
   rw [i64w (n := (s1.length : Int) - 1) (by omega) (by omega), i64w (by omega) (by omega)]; omega
  obtain ⟨t, ht⟩ : ∃ t, t = s1.length - 1 - i := ⟨_, rfl⟩
  rw [← ht] at wat
  simp only [wat]
  refine ⟨⟨0, ?_, rfl⟩, ?_⟩
  ·show ((0 : Nat) : Int) ≤ ((t : Nat) : Int) % 9
   omega
  rintro n1 n2 ⟨j, hj, he⟩
  have hj : (j : Int) ≤ ((t : Nat) : Int) % 9 := hj
  simp only [List.cons.injEq, D.int.injEq, true_and, and_true] at he
  obtain ⟨rfl, rfl⟩ := he
  have em : Int.tmod (t : Int) 9 = ((t % 9 : Nat) : Int) := by rw [Int.tmod_eq_emod_of_nonneg (by omega)]; omega
  simp only [em]
  refine ⟨by omega, brd (fun h3 => ?_) (fun h3 => ?_)⟩
  ·have hp : 10 ^ (j + 1) ≤ 10 ^ 8 := Nat.pow_le_pow_right (by omega) (by omega)
   have hp2 : 10 ^ (j + 1) = 10 ^ j * 10 := Nat.pow_succ ..
   simp only [Nat.reducePow] at hp
   refine ⟨⟨j + 1, ?_, ?_⟩, ?_⟩
   ·show ((j + 1 : Nat) : Int) ≤ ((t : Nat) : Int) % 9
    omega
   ·rw [hp2, u32w (by omega) (by omega), i64w (by omega) (by omega)]
    rfl
   ·rw [i64w (by omega) (by omega)]; simp only [nth, toI]; omega
  ·have hjt : j = t % 9 := by omega
   have ed : IntKind.wrap .i64 (Int.tdiv (t : Int) 9) = ((t / 9 : Nat) : Int) := by
    rw [Int.tdiv_eq_ediv_of_nonneg (by omega), i64w (by omega) (by omega)]; omega
   have hkm : t / 9 < m := by omega
   have ev : s1.length - i = t + 1 := by omega
   rw [ed, Int.toNat_natCast, ev]
   have hpl := pad_length m (natT (s1.take i) * 10 ^ (t + 1))
   have hkl : t / 9 < (pad m (natT (s1.take i) * 10 ^ (t + 1))).length := by omega
   have e9t : 9 * (t / 9) + j = t := by omega
   obtain ⟨hset, hlt⟩ := pad_set (t / 9) m (natT (s1.take i) * 10 ^ (t + 1)) (dv s1[i]) j hkm (by omega) hd (by rw [e9t, Nat.mul_mod_left])
   have hget := pad_get m (natT (s1.take i) * 10 ^ (t + 1)) (t / 9) hkl
   have hst := natT_take_succ hil
   rw [raw_length]
   refine ⟨by omega, by omega, ⟨by omega, by omega⟩, _, cut_raw hkl, ⟨by omega, by omega⟩, ⟨by omega, by omega⟩, by omega, ?_⟩
   rw [hget]
   generalize natT (s1.take i) * 10 ^ (t + 1) / 1000000000 ^ (t / 9) % 1000000000 = old at *
   have hpj : 10 ^ j ≤ 10 ^ 8 := Nat.pow_le_pow_right (by omega) (by omega)
   simp only [Nat.reducePow] at hpj
   have hx : dv s1[i] * 10 ^ j < 1000000000 := by omega
   have a2 : IntKind.wrap .u8 ((s1[i].toNat : Int) - 48) = ((dv s1[i] : Nat) : Int) := by
    rw [show IntKind.wrap .u8 ((s1[i].toNat : Int) - 48) = ((s1[i].toNat : Int) - 48) % 256 from rfl]
    unfold dv; omega
   have a4 : IntKind.wrap .u32 ((dv s1[i] : Nat) : Int) = ((dv s1[i] : Nat) : Int) := u32w (by omega) (by omega)
   have a5 : ((dv s1[i] : Nat) : Int) * ((10 ^ j : Nat) : Int) = ((dv s1[i] * 10 ^ j : Nat) : Int) := by rw [Int.natCast_mul]
   rw [a2, a4, a5]
   generalize hX : dv s1[i] * 10 ^ j = x at *
   have a6 : IntKind.wrap .u32 ((x : Nat) : Int) = ((x : Nat) : Int) := u32w (by omega) (by omega)
   have a7 : IntKind.wrap .u32 (((old : Nat) : Int) + ((x : Nat) : Int)) = ((old + x : Nat) : Int) := by rw [u32w (by omega) (by omega)]; omega
   rw [a6, a7, upd_raw hkl, hset]
   have hnew : natT (s1.take i) * 10 ^ (t + 1) + dv s1[i] * 10 ^ (9 * (t / 9) + j) = natT (s1.take (i + 1)) * 10 ^ (s1.length - (i + 1)) := by
    rw [e9t, hst, show s1.length - (i + 1) = t by omega, Nat.pow_succ, Nat.add_mul]
    congr 1
    rw [Nat.mul_comm (10 ^ t) 10, ← Nat.mul_assoc, Nat.mul_comm (natT (s1.take i)) 10]
   rw [hnew, i64w (by omega) (by omega)]
   refine ⟨⟨i + 1, by omega, rfl, ?_⟩, by simp only [nth, toI]; omega⟩
   rw [all_take_succ hil, hall, hdi]; rfl
 have hil : i = s1.length := by omega
 subst hil
 rw [List.take_length] at hall
 rw [List.take_length, Nat.sub_self, Nat.pow_zero, Nat.mul_one]
 have hok : bodyOk neg s1 = true := bodyOk_iff.2 ⟨hne, hall, h48⟩
 rw [if_pos hok] at hpar
 have hsne : s ≠ [] := fun e => by rw [e] at hbl; simp at hbl; exact hne hbl
 have hsl := List.length_pos_iff.2 hsne
 have hv : val (pad m (natT s1)) = natT s1 := by
  rw [pad_val, pow_9k]
  exact Nat.mod_eq_of_lt (natT_le hall (by omega))
 have hz := qsig_enc neg (pad_limbs m (natT s1)) (by rw [pad_length]; omega) (z := if neg then -(natT s1 : Int) else (natT s1 : Int)) (by rw [hv])
 rw [encI_cells] at hz
 have e0 : Int.toNat 0 = 0 := rfl
 rw [e0, hhead hsne]
 refine ⟨⟨by omega, by omega⟩, _, _, hz, ?_⟩
 rw [hpar]
 rfl
theorem uParse_ok {s : List UInt8} (hs : s.length ≤ 8000) : Gives CC 150 [.c (.str s)] (outQ (parQ s)) := by
 have hl := cutAt_lens 47 s
 have hcn := @cutAt_fst_none 47 s
 have hct := @cutAt_take 47 s
 have hfst := cutAt_fst (c := 47) s
 have hp : parQ s = match parI (cutAt 47 s).1 with | none => none | some n => quoQ n (cutAt 47 s).2 := rfl
 have hiff := fun q => @parQ_iff s q
 generalize hP : cutAt 47 s = P at *
 obtain ⟨a, b⟩ := P
 simp only at hl hp hcn hct hfst
 have hal : a = s.take a.length := by
  cases b with
  | none => rw [hcn rfl, List.take_length]
  | some t => exact (hct rfl).1
 have ha := qParse_ok (s := a) (by omega)
 have herr : parQ s = none → [A.ag [D.bool false, D.sl [], D.bool false, D.sl []], A.c (D.int .i64 2)] = outQ (parQ s) := fun h => by rw [h]; rfl
 -- the end, once both numbers are read
 have fin : ∀ n d : Int, Sm n → Sm d → (parQ s ≠ none → 0 < d ∧ ∃ q : Rat, s = ratX q ∧ q = Rat.divInt n d) → ∃ x, Gives CC 100 [encI d] [A.c (D.int .i64 x)] ∧
  br (toB (D.bool (x != 1))) ([A.ag [D.bool false, D.sl [], D.bool false, D.sl []], A.c (D.int .i64 2)] = outQ (parQ s))
   (∃ b_3 es_3 b_4 es_4, Gives CC 74 [encI n, encI d] [A.ag [D.bool b_3, D.sl es_3, D.bool b_4, D.sl es_4]] ∧
    ∃ s_1, Gives CC 91 [A.ag [D.bool b_3, D.sl es_3, D.bool b_4, D.sl es_4]] [A.c (D.str s_1)] ∧
     br (toB (D.bool !s_1 == s)) ([A.ag [D.bool false, D.sl [], D.bool false, D.sl []], A.c (D.int .i64 2)] = outQ (parQ s))
      ([A.ag [D.bool b_3, D.sl es_3, D.bool b_4, D.sl es_4], A.c (D.int .i64 0)] = outQ (parQ s))) := by
  intro n d sn sd hq
  refine ⟨_, qSign_ok d, brb (fun h => ?_) (fun h => ?_)⟩
  ·refine herr (Decidable.byContradiction fun h2 => ?_)
   have := (hq h2).1
   have h : sgn d ≠ 1 := by simpa using h
   exact h (sgn_one.2 this)
  ·have h : sgn d = 1 := by simpa using h
   have hd := sgn_one.1 h
   have hof := uOf_ok partsOk sn sd (by omega)
   have hnd := divInt_nd (n := n) hd
   have hfm := uFmt_ok (q := Rat.divInt n d) (by
    rw [hnd.1]
    refine sm_le sn ?_
    rw [Int.natAbs_ediv_of_dvd (by
     have := Int.natCast_dvd_natCast.2 (Nat.gcd_dvd_left n.natAbs d.natAbs)
     exact Int.dvd_natAbs.1 this), Int.natAbs_natCast]
    exact Nat.div_le_self _ _) (by
    rw [hnd.2]
    refine sm_le sd ?_
    rw [Int.natAbs_ediv_of_dvd (by
     have := Int.natCast_dvd_natCast.2 (Nat.gcd_dvd_right n.natAbs d.natAbs)
     exact Int.dvd_natAbs.1 this), Int.natAbs_natCast]
    exact Nat.div_le_self _ _)
   rw [encR_cells] at hof hfm
   refine ⟨_, _, _, _, hof, _, hfm, brb (fun h2 => ?_) (fun h2 => ?_)⟩
   ·have h2 : ratX (Rat.divInt n d) ≠ s := by simpa using h2
    refine herr (Decidable.byContradiction fun h3 => ?_)
    obtain ⟨_, q, h4, h5⟩ := hq h3
    exact h2 (by rw [← h5, h4])
   ·have h2 : ratX (Rat.divInt n d) = s := by simpa using h2
    rw [(hiff _).2 h2.symm]
    rfl
 refine wpF_ok (C := CC) (anns := fun _ => ⟨[.slot 4 (.int .i64 0), .slot 5 (.int .i64 0)], [], fun _ ds => ∃ (k : Nat) (e : Int), -1 ≤ e ∧ e < s.length ∧ ds = [.int .i64 (k : Int), .int .i64 e] ∧ k ≤ s.length ∧ (∀ i (h : i < s.length), e < i → i < k → s[i] ≠ 47) ∧ (∀ h : k < s.length, s[k] = 47) ∧ e < k, fun ds => (toI (nth .undef ds 1) + 1).toNat⟩) mixedT Tryz.func150 ?_
 rw [vc_uParse]
 simp only [Int.ofNat_eq_natCast]
 refine ⟨⟨s.length, (s.length : Int) - 1, by omega, by omega, by rw [i64w (by omega) (by omega)], by omega, fun i _ h1 h2 => by omega, fun h => by omega, by omega⟩, ?_⟩
 rintro n n1 ⟨k, e, h1, h2, he, hk, hno, hat, hek⟩
 simp only [List.cons.injEq, D.int.injEq, true_and, and_true] at he
 obtain ⟨rfl, rfl⟩ := he
 refine brd (fun h => ?_) (fun h => ?_)
 ·obtain ⟨i, rfl⟩ : ∃ i : Nat, n1 = i := ⟨n1.toNat, by omega⟩
  have hil : i < s.length := by omega
  have wn : IntKind.wrap .i64 ((i : Int) - 1) = (i : Int) - 1 := i64w (by omega) (by omega)
  rw [Int.toNat_natCast, nth_of_lt 0 hil, wn]
  have e47 : ((s[i].toNat : Int) == 47) = decide (s[i] = 47) := by
   rw [Bool.eq_iff_iff]
   simp only [beq_iff_eq, decide_eq_true_eq]
   constructor
   ·intro h
    apply UInt8.toNat_inj.1
    have : (47 : UInt8).toNat = 47 := rfl
    omega
   ·intro h; rw [h]; rfl
  rw [e47]
  refine ⟨⟨by omega, by omega⟩, brd (fun h3 => ⟨⟨i, (i : Int) - 1, by omega, by omega, rfl, by omega, fun j _ h4 h5 => by omega, fun _ => h3, by omega⟩, by simp only [nth, toI]; omega⟩)
   (fun h3 => ⟨⟨k, (i : Int) - 1, by omega, by omega, rfl, hk, fun j hj h4 h5 => ?_, hat, by omega⟩, by simp only [nth, toI]; omega⟩)⟩
  rcases Nat.lt_or_ge i j with h6 | h6
  ·exact hno j hj (by omega) h5
  ·have : j = i := by omega
   subst this; exact h3
 ·have hka : k = a.length := by
   rcases Nat.lt_trichotomy k a.length with h3 | h3 | h3
   ·exfalso
    have hkl : k < s.length := by omega
    have h4 := hat hkl
    have h5 : a[k] = s[k] := by
     have : a[k]? = s[k]? := by rw [congrArg (fun l => l[k]?) hal]; rw [List.getElem?_take, if_pos h3]
     rw [List.getElem?_eq_getElem h3, List.getElem?_eq_getElem hkl] at this
     exact Option.some.inj this
    exact hfst _ (List.getElem_mem h3) (h5.trans h4)
   ·exact h3
   ·exfalso
    cases hb : b with
    | none => rw [hcn hb] at h3; omega
    | some t =>
     subst hb
     have h4 : a.length < s.length := (hct rfl).2.2
     have h5 := cutAt_eq (c := 47) s
     rw [hP] at h5
     simp only at h5
     have h6 : s[a.length]? = some 47 := by rw [h5]; simp
     rw [List.getElem?_eq_getElem h4] at h6
     exact hno a.length h4 (by omega) h3 (Option.some.inj h6)
  subst hka
  rw [Int.toNat_natCast, List.drop_zero, ← hal]
  refine ⟨⟨by omega, by omega, by omega⟩, ?_⟩
  have hnn : parI a = none → parQ s = none := fun h3 => by rw [hp, h3]
  cases hn : parI a with
  | none =>
   rw [hn] at ha
   refine ⟨_, _, _, ha, _, _, uunit_ok, brd (fun h3 => ?_) (fun h3 => ?_)⟩
   ·have wk : IntKind.wrap .i64 ((a.length : Int) + 1) = ((a.length + 1 : Nat) : Int) := by rw [i64w (by omega) (by omega)]; omega
    rw [wk, Int.toNat_natCast, Int.toNat_natCast, List.take_length]
    have ht := qParse_ok (s := s.drop (a.length + 1)) (by rw [List.length_drop]; omega)
    cases hd : parI (s.drop (a.length + 1)) with
    | none =>
     rw [hd] at ht
     exact ⟨⟨by omega, by omega, by omega⟩, _, _, _, ht, brb (fun _ => herr (hnn hn)) (fun h => by simp at h)⟩
    | some d =>
     rw [hd] at ht
     exact ⟨⟨by omega, by omega, by omega⟩, _, _, _, ht, brb (fun _ => herr (hnn hn)) (fun h => by simp at h)⟩
   ·exact brb (fun _ => herr (hnn hn)) (fun h => by simp at h)
  | some n =>
   rw [hn] at ha
   have sn := parI_sm hn (by omega)
   rw [hn] at hp
   simp only at hp
   refine ⟨_, _, _, ha, _, _, uunit_ok, brd (fun h3 => ?_) (fun h3 => ?_)⟩
   ·have wk : IntKind.wrap .i64 ((a.length : Int) + 1) = ((a.length + 1 : Nat) : Int) := by rw [i64w (by omega) (by omega)]; omega
    rw [wk, Int.toNat_natCast, Int.toNat_natCast, List.take_length]
    have ht := qParse_ok (s := s.drop (a.length + 1)) (by rw [List.length_drop]; omega)
    refine ⟨⟨by omega, by omega, by omega⟩, ?_⟩
    cases b with
    | none => rw [hcn rfl] at h3; omega
    | some t =>
     have et : t = s.drop (a.length + 1) := (hct rfl).2.1
     rw [← et] at ht ⊢
     simp only [quoQ] at hp
     cases hd : parI t with
     | none =>
      rw [hd] at ht hp
      exact ⟨_, _, _, ht, brb (fun h => by simp at h) (fun _ => brb (fun _ => herr hp) (fun h => by simp at h))⟩
     | some d =>
      rw [hd] at ht hp
      simp only at hp
      have sd := parI_sm hd (by rw [et, List.length_drop]; omega)
      refine ⟨_, _, _, ht, brb (fun h => by simp at h) (fun _ => brb (fun h => by simp at h) (fun _ => fin n d sn sd fun h4 => ?_))⟩
      by_cases h5 : 1 < d ∧ Nat.gcd n.natAbs d.natAbs = 1
      ·rw [if_pos h5] at hp
       exact ⟨by omega, _, (hiff _).1 hp, rfl⟩
      ·rw [if_neg h5] at hp
       exact absurd hp h4
   ·have hb : b = none := by
     cases hb : b with
     | none => rfl
     | some t =>
      subst hb
      have : a.length < s.length := (hct rfl).2.2
      omega
    subst hb
    simp only [quoQ] at hp
    refine brb (fun h => by simp at h) (fun _ => fin n 1 sn sm_one fun _ => ⟨by omega, _, (hiff _).1 hp, ?_⟩)
    have := rat_divInt (n : Rat)
    rw [Rat.num_intCast, Rat.den_intCast] at this
    exact this.symm
end Eng
end
