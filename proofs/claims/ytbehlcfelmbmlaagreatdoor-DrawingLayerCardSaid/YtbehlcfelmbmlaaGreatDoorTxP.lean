/- Decimal digits of numbers, and the text of a length in millimetres: plain laws. -/
import Derived.Test.YtbehlcfelmbmlaaGreatDoorRatA
import Derived.Lib.ItoaNum
section
namespace Eng
open Go
def digF : Nat → Nat → List UInt8
 | 0, _ => []
 | n + 1, v => digF n (v / 10) ++ [UInt8.ofNat (48 + v % 10)]
theorem digF_len : ∀ (n v : Nat), (digF n v).length = n
 | 0, _ => rfl
 | n + 1, v => by simp [digF, digF_len n]
theorem digF_cons : ∀ (n v : Nat), digF (n + 1) v = UInt8.ofNat (48 + v / 10 ^ n % 10) :: digF n v
 | 0, v => by simp [digF]
 | n + 1, v => by
  rw [digF, digF_cons n (v / 10), digF]
  rw [Nat.div_div_eq_div_mul, Nat.pow_succ, Nat.mul_comm 10]
  rfl
theorem digF_append : ∀ (n m v : Nat), digF (m + n) v = digF m (v / 10 ^ n) ++ digF n v
 | 0, m, v => by simp [digF]
 | n + 1, m, v => by
  rw [← Nat.add_assoc, digF, digF, digF_append n m (v / 10), Nat.div_div_eq_div_mul, Nat.pow_succ, Nat.mul_comm 10, List.append_assoc]
theorem digF_mod : ∀ (n v w : Nat), v % 10 ^ n = w % 10 ^ n → digF n v = digF n w
 | 0, _, _, _ => rfl
 | n + 1, v, w, h => by
  rw [digF, digF]
  have h1 : v % 10 = w % 10 := by
   have a := Nat.mod_mul_right_mod v 10 (10 ^ n)
   have b := Nat.mod_mul_right_mod w 10 (10 ^ n)
   rw [Nat.pow_succ, Nat.mul_comm] at h
   rw [← a, ← b, h]
  have h2 : v / 10 % 10 ^ n = w / 10 % 10 ^ n := by
   rw [Nat.pow_succ, Nat.mul_comm] at h
   have a := Nat.mod_mul_right_div_self v 10 (10 ^ n)
   have b := Nat.mod_mul_right_div_self w 10 (10 ^ n)
   rw [← a, ← b, h]
  rw [digF_mod n _ _ h2, h1]
theorem digF_zero (n : Nat) : digF n 0 = List.replicate n 48 := by
 induction n with
 | zero => rfl
 | succ n ih => rw [digF_cons, ih, Nat.zero_div]; rfl
theorem digF_pad (n m v : Nat) (h : v < 10 ^ n) : digF (m + n) v = List.replicate m 48 ++ digF n v := by
 rw [digF_append, Nat.div_eq_of_lt h, digF_zero]
theorem nDigits_pos (u : Nat) : 0 < Lib.nDigits u := by
 rw [Lib.nDigits]; split <;> omega
theorem decDigits_digF (u : Nat) : Lib.decDigits u = digF (Lib.nDigits u) u := by
 induction u using Nat.strongRecOn with
 | _ u ih =>
  rw [Lib.decDigits, Lib.nDigits]
  by_cases h : u < 10
  ·rw [dif_pos h, dif_pos h]
   simp only [digF, List.nil_append]
   rw [Nat.mod_eq_of_lt h]
  ·rw [dif_neg h, dif_neg h, digF, ih (u / 10) (by omega)]
theorem nDigits_iff : ∀ (n u : Nat), Lib.nDigits u ≤ n + 1 ↔ u < 10 ^ (n + 1)
 | 0, u => by
  rw [Lib.nDigits]
  by_cases h : u < 10
  ·rw [dif_pos h]; simp; omega
  ·rw [dif_neg h]
   have := nDigits_pos (u / 10)
   simp; omega
 | n + 1, u => by
  rw [Lib.nDigits]
  by_cases h : u < 10
  ·rw [dif_pos h]
   have : 10 ^ 1 ≤ 10 ^ (n + 1 + 1) := Nat.pow_le_pow_right (by omega) (by omega)
   constructor
   ·intro _; omega
   ·intro _; omega
  ·rw [dif_neg h]
   have := nDigits_iff n (u / 10)
   rw [Nat.pow_succ 10 (n + 1)]
   rw [Nat.div_lt_iff_lt_mul (by omega)] at this
   omega
theorem nDigits_eq {u n : Nat} (h1 : 10 ^ n ≤ u) (h2 : u < 10 ^ (n + 1)) : Lib.nDigits u = n + 1 := by
 have a := (nDigits_iff n u).2 h2
 cases n with
 | zero => have := nDigits_pos u; omega
 | succ n =>
  have b := nDigits_iff n u
  have : ¬ u < 10 ^ (n + 1) := by omega
  omega
theorem dec_of_digF {u n : Nat} (h1 : 10 ^ n ≤ u) (h2 : u < 10 ^ (n + 1)) : digF (n + 1) u = Lib.decDigits u := by
 rw [decDigits_digF, nDigits_eq h1 h2]
theorem dec_len_le {u n : Nat} (h : u < 10 ^ (n + 1)) : (Lib.decDigits u).length ≤ n + 1 := by
 rw [Lib.decDigits_length]; exact (nDigits_iff n u).2 h
def shownU (u k : Nat) : List UInt8 := match k with
 | 0 => Lib.decDigits u
 | k + 1 => Lib.decDigits (u / 10 ^ (k + 1)) ++ 46 :: digF (k + 1) u
theorem shown_pad {u k L : Nat} (h2 : L = max (Lib.nDigits u) (k + 1)) : (digF L u).take (L - k) ++ 46 :: (digF L u).drop (L - k) = Lib.decDigits (u / 10 ^ k) ++ 46 :: digF k u := by
 have hL : L = (L - k) + k := by omega
 have e := digF_append k (L - k) u
 rw [← hL] at e
 rw [e]
 have hl : (digF (L - k) (u / 10 ^ k)).length = L - k := digF_len _ _
 have ht : ((digF (L - k) (u / 10 ^ k)) ++ digF k u).take (L - k) = digF (L - k) (u / 10 ^ k) := by
  rw [List.take_append_of_le_length (by omega), List.take_of_length_le (by omega)]
 have hd : ((digF (L - k) (u / 10 ^ k)) ++ digF k u).drop (L - k) = digF k u := by
  rw [List.drop_append_of_le_length (by omega), List.drop_of_length_le (by omega), List.nil_append]
 rw [ht, hd]
 congr 1
 by_cases hu : u < 10 ^ k
 ·rw [Nat.div_eq_of_lt hu]
  have hn : Lib.nDigits u ≤ k + 1 := (nDigits_iff k u).2 (Nat.lt_of_lt_of_le hu (Nat.pow_le_pow_right (by omega) (by omega)))
  have : L - k = 1 := by omega
  rw [this]
  rw [Lib.decDigits_one (by omega)]
  rfl
 ·have hge : 10 ^ k ≤ u := Nat.le_of_not_lt hu
  have hq : 1 ≤ u / 10 ^ k := by
   rw [Nat.le_div_iff_mul_le (Nat.pow_pos (by omega)), Nat.one_mul]; exact hge
  -- the number of digits of the quotient
  obtain ⟨n, hn⟩ : ∃ n, Lib.nDigits u = n + 1 := ⟨Lib.nDigits u - 1, by have := nDigits_pos u; omega⟩
  have hup : u < 10 ^ (n + 1) := (nDigits_iff n u).1 (by omega)
  have hlo : 10 ^ n ≤ u := by
   cases n with
   | zero =>
    rw [Nat.pow_zero]
    exact Nat.le_trans (Nat.pow_pos (by omega)) hge
   | succ n =>
    have := nDigits_iff n u
    omega
  have hkn : k ≤ n := by
   rcases Nat.lt_or_ge n k with h | h
   ·have : 10 ^ (n + 1) ≤ 10 ^ k := Nat.pow_le_pow_right (by omega) (by omega)
    omega
   ·exact h
  have hLk : L - k = (n - k) + 1 := by omega
  rw [hLk]
  refine dec_of_digF ?_ ?_
  ·rw [Nat.le_div_iff_mul_le (Nat.pow_pos (by omega)), ← Nat.pow_add]
   rw [show n - k + k = n by omega]; exact hlo
  ·rw [Nat.div_lt_iff_lt_mul (Nat.pow_pos (by omega)), ← Nat.pow_add]
   rw [show n - k + 1 + k = n + 1 by omega]; exact hup
end Eng
end

section
namespace Eng
open Go
def isD (c : UInt8) : Bool := decide (48 ≤ c.toNat) && decide (c.toNat ≤ 57)
def dv (c : UInt8) : Nat := c.toNat - 48
def natT : List UInt8 → Nat
 | [] => 0
 | c :: s => dv c * 10 ^ s.length + natT s
theorem dig_toNat {v : Nat} (h : v < 10) : (UInt8.ofNat (48 + v)).toNat = 48 + v := by
 simp [UInt8.toNat_ofNat']; omega
theorem dec_0 : Lib.decDigits 0 = [48] := by rw [Lib.decDigits]; rfl
def sgT (z : Int) : List UInt8 := match decide (z < 0) with | true => [45] | false => []
def decZt (z : Int) : List UInt8 := sgT z ++ Lib.decDigits z.natAbs
theorem decZt_pos {z : Int} (h : 0 ≤ z) : decZt z = Lib.decDigits z.natAbs := by
 unfold decZt sgT
 rw [decide_eq_false (by omega)]; rfl
def cutAt (c : UInt8) : List UInt8 → List UInt8 × Option (List UInt8)
 | [] => ([], none)
 | a :: s => if a = c then ([], some s) else (a :: (cutAt c s).1, (cutAt c s).2)
theorem rat_int {q : Rat} (h : q.den = 1) : ((q.num : Int) : Rat) = q := by
 apply Rat.ext
 ·simp
 ·simp [h]
end Eng
end

section
namespace Eng
open Go
theorem pow_9k (k : Nat) : 1000000000 ^ k = 10 ^ (9 * k) := by rw [Nat.pow_mul]
end Eng
end
