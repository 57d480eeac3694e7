/- The verification conditions of functions, printed by a program (vcgen.py) and checked by the kernel. -/
import Derived.Test.YtbehlcfelmbmlaaGreatDoorCtxB
import Derived.Test.YtbehlcfelmbmlaaGreatDoorRefA
import Derived.Test.YtbehlcfelmbmlaaGreatDoorRatA
import Derived.KernelRfl
section
open Go Go.Proofs Eng
set_option maxRecDepth 1000000
namespace Eng
theorem vc_uunit (Gv : Nat → List A → List A → Prop)  (Q : List A → Prop) :
 wpF CC Gv (fun _ => ⟨[], [], fun _ _ => True, fun _ => 0⟩) Tryz.f69 [] Q = (
 ∃ b es, Gv 68 [A.c (D.int .i64 (1 : Int))] [A.ag [D.bool b, D.sl es]] ∧ Q [A.ag [D.bool b, D.sl es]]) := by kernel_rfl
theorem vc_uOf (Gv : Nat → List A → List A → Prop) (J3 : List D → List D → Prop) (p q : Bool) (es fs : List (List D)) (Q : List A → Prop) :
 wpF CC Gv (annJ (fun _ => ⟨[], [], fun _ _ => True, fun _ => 0⟩) 3 ⟨[.box 2 [.bool false, .slice none 0 0], .box 3 [.bool false, .slice none 0 0]], [.box 2 [.bool false, .slice none 0 0], .box 3 [.bool false, .slice none 0 0]], J3, fun _ => 0⟩) Tryz.f145 [.ag [.bool p, .sl es], .ag [.bool q, .sl fs]] Q = (
 (∃ n,
 Gv 173 [A.ag [D.bool q, D.sl fs]] [A.c (D.int .i64 n)] ∧
 br (toB (D.bool (decide (n < (0 : Int)))))
 (∃ b es_1,
 Gv 239 [A.ag [D.bool p, D.sl es]] [A.ag [D.bool b, D.sl es_1]] ∧
 ∃ b_1 es_2,
 Gv 239 [A.ag [D.bool q, D.sl fs]] [A.ag [D.bool b_1, D.sl es_2]] ∧
 J3 [D.bool p, D.sl es, D.bool q, D.sl fs] [D.bool b, D.sl es_1, D.bool b_1, D.sl es_2])
 (J3 [D.bool p, D.sl es, D.bool q, D.sl fs] [D.bool p, D.sl es, D.bool q, D.sl fs])) ∧
 ∀ (b : Bool) (es_1 : List (List D)) (b_1 : Bool) (es_2 : List (List D)),
 J3 [D.bool p, D.sl es, D.bool q, D.sl fs] [D.bool b, D.sl es_1, D.bool b_1, D.sl es_2] →
 ∃ b_2 es,
 Gv 201 [A.ag [D.bool b, D.sl es_1], A.ag [D.bool b_1, D.sl es_2]] [A.ag [D.bool b_2, D.sl es]] ∧
 ∃ b_3 es_3 b_4 es_4 n,
 Gv 240 [A.ag [D.bool b, D.sl es_1], A.ag [D.bool b_2, D.sl es]]
 [A.ag [D.bool b_3, D.sl es_3], A.ag [D.bool b_4, D.sl es_4], A.c (D.int .i64 n)] ∧
 ∃ b es_5 b_5 es_6 n,
 Gv 240 [A.ag [D.bool b_1, D.sl es_2], A.ag [D.bool b_2, D.sl es]]
 [A.ag [D.bool b, D.sl es_5], A.ag [D.bool b_5, D.sl es_6], A.c (D.int .i64 n)] ∧
 Q [A.ag [D.bool b_3, D.sl es_3, D.bool b, D.sl es_5]]) := by kernel_rfl
theorem vc_uFromInt64 (Gv : Nat → List A → List A → Prop) (n : Int) (Q : List A → Prop) :
 wpF CC Gv (fun _ => ⟨[], [], fun _ _ => True, fun _ => 0⟩) Tryz.f27 [.c (.int .i64 n)] Q = (
 ∃ b es,
 Gv 68 [A.c (D.int .i64 n)] [A.ag [D.bool b, D.sl es]] ∧
 ∃ b_1 es_1, Gv 69 [] [A.ag [D.bool b_1, D.sl es_1]] ∧ Q [A.ag [D.bool b, D.sl es, D.bool b_1, D.sl es_1]]) := by kernel_rfl
theorem vc_uSign (Gv : Nat → List A → List A → Prop) (p q : Bool) (es fs : List (List D)) (Q : List A → Prop) :
 wpF CC Gv (fun _ => ⟨[], [], fun _ _ => True, fun _ => 0⟩) Tryz.f92 [.ag [.bool p, .sl es, .bool q, .sl fs]] Q = (
 ∃ n, Gv 173 [A.ag [D.bool p, D.sl es]] [A.c (D.int .i64 n)] ∧ Q [A.c (D.int .i64 n)]) := by kernel_rfl
theorem vc_uNeg (Gv : Nat → List A → List A → Prop) (p q : Bool) (es fs : List (List D)) (Q : List A → Prop) :
 wpF CC Gv (fun _ => ⟨[], [], fun _ _ => True, fun _ => 0⟩) Tryz.f172 [.ag [.bool p, .sl es, .bool q, .sl fs]] Q = (
 ∃ b es_1, Gv 239 [A.ag [D.bool p, D.sl es]] [A.ag [D.bool b, D.sl es_1]] ∧ Q [A.ag [D.bool b, D.sl es_1, D.bool q, D.sl fs]]) := by kernel_rfl
theorem vc_uAdd (Gv : Nat → List A → List A → Prop) (p q r s : Bool) (es fs gs hs : List (List D)) (Q : List A → Prop) :
 wpF CC Gv (fun _ => ⟨[], [], fun _ _ => True, fun _ => 0⟩) Tryz.f272 [.ag [.bool p, .sl es, .bool q, .sl fs], .ag [.bool r, .sl gs, .bool s, .sl hs]] Q = (
 ∃ b es_1,
 Gv 193 [A.ag [D.bool p, D.sl es], A.ag [D.bool s, D.sl hs]] [A.ag [D.bool b, D.sl es_1]] ∧
 ∃ b_1 es,
 Gv 193 [A.ag [D.bool r, D.sl gs], A.ag [D.bool q, D.sl fs]] [A.ag [D.bool b_1, D.sl es]] ∧
 ∃ b_2 es_2,
 Gv 314 [A.ag [D.bool b, D.sl es_1], A.ag [D.bool b_1, D.sl es]] [A.ag [D.bool b_2, D.sl es_2]] ∧
 ∃ b es,
 Gv 193 [A.ag [D.bool q, D.sl fs], A.ag [D.bool s, D.sl hs]] [A.ag [D.bool b, D.sl es]] ∧
 ∃ b_3 es_3 b_4 es_4,
 Gv 145 [A.ag [D.bool b_2, D.sl es_2], A.ag [D.bool b, D.sl es]] [A.ag [D.bool b_3, D.sl es_3, D.bool b_4, D.sl es_4]] ∧
 Q [A.ag [D.bool b_3, D.sl es_3, D.bool b_4, D.sl es_4]]) := by kernel_rfl
theorem vc_uSub (Gv : Nat → List A → List A → Prop) (p q r s : Bool) (es fs gs hs : List (List D)) (Q : List A → Prop) :
 wpF CC Gv (fun _ => ⟨[], [], fun _ _ => True, fun _ => 0⟩) Tryz.f198 [.ag [.bool p, .sl es, .bool q, .sl fs], .ag [.bool r, .sl gs, .bool s, .sl hs]] Q = (
 ∃ b es_1 b_1 es_2,
 Gv 172 [A.ag [D.bool r, D.sl gs, D.bool s, D.sl hs]] [A.ag [D.bool b, D.sl es_1, D.bool b_1, D.sl es_2]] ∧
 ∃ b_2 es_3 b_3 es_4,
 Gv 272 [A.ag [D.bool p, D.sl es, D.bool q, D.sl fs], A.ag [D.bool b, D.sl es_1, D.bool b_1, D.sl es_2]]
 [A.ag [D.bool b_2, D.sl es_3, D.bool b_3, D.sl es_4]] ∧
 Q [A.ag [D.bool b_2, D.sl es_3, D.bool b_3, D.sl es_4]]) := by kernel_rfl
theorem vc_uCmp (Gv : Nat → List A → List A → Prop) (p q r s : Bool) (es fs gs hs : List (List D)) (Q : List A → Prop) :
 wpF CC Gv (fun _ => ⟨[], [], fun _ _ => True, fun _ => 0⟩) Tryz.f171 [.ag [.bool p, .sl es, .bool q, .sl fs], .ag [.bool r, .sl gs, .bool s, .sl hs]] Q = (
 ∃ b es_1,
 Gv 193 [A.ag [D.bool p, D.sl es], A.ag [D.bool s, D.sl hs]] [A.ag [D.bool b, D.sl es_1]] ∧
 ∃ b_1 es,
 Gv 193 [A.ag [D.bool r, D.sl gs], A.ag [D.bool q, D.sl fs]] [A.ag [D.bool b_1, D.sl es]] ∧
 ∃ n, Gv 263 [A.ag [D.bool b, D.sl es_1], A.ag [D.bool b_1, D.sl es]] [A.c (D.int .i64 n)] ∧ Q [A.c (D.int .i64 n)]) := by kernel_rfl
theorem vc_uMul (Gv : Nat → List A → List A → Prop) (p q r s : Bool) (es fs gs hs : List (List D)) (Q : List A → Prop) :
 wpF CC Gv (fun _ => ⟨[], [], fun _ _ => True, fun _ => 0⟩) Tryz.f103 [.ag [.bool p, .sl es, .bool q, .sl fs], .ag [.bool r, .sl gs, .bool s, .sl hs]] Q = (
 ∃ b es_1,
 Gv 193 [A.ag [D.bool p, D.sl es], A.ag [D.bool r, D.sl gs]] [A.ag [D.bool b, D.sl es_1]] ∧
 ∃ b_1 es,
 Gv 193 [A.ag [D.bool q, D.sl fs], A.ag [D.bool s, D.sl hs]] [A.ag [D.bool b_1, D.sl es]] ∧
 ∃ b_2 es_2 b_3 es_3,
 Gv 145 [A.ag [D.bool b, D.sl es_1], A.ag [D.bool b_1, D.sl es]] [A.ag [D.bool b_2, D.sl es_2, D.bool b_3, D.sl es_3]] ∧
 Q [A.ag [D.bool b_2, D.sl es_2, D.bool b_3, D.sl es_3]]) := by kernel_rfl
end Eng
end

section
namespace Eng
open Go Go.Proofs
set_option maxRecDepth 100000
def PartsOk : Prop := ∀ x y : Nat, y ≠ 0 → (lim x).length ≤ 1000 → (lim y).length ≤ 1000 →
 Gives CC 274 [.c (.sl (raw (lim x))), .c (.sl (raw (lim y)))] [.c (.sl (raw (lim (x / y)))), .c (.sl (raw (lim (x % y))))]
theorem ldif {m n : Nat} (h : m ≤ n) : (lim m).length ≤ (lim n).length :=
 lim_length_le (Nat.lt_of_le_of_lt h (by have := val_lt (lim_limbs n); rw [lim_val] at this; exact this))
theorem qGCD_ok (hd : PartsOk) {x y : Int} (hx : Sm x) (hy : Sm y) : Gives CC 201 [encI x, encI y] [encI (Nat.gcd x.natAbs y.natAbs : Nat)] := by
 generalize hG : Nat.gcd x.natAbs y.natAbs = G
 refine wpF_ok (anns := ann2
  ⟨[.slot 5 (.slice none 0 0), .slot 6 (.slice none 0 0)], [], fun _ ds => ∃ m n : Nat, ds = [.sl (raw (lim m)), .sl (raw (lim n))] ∧ Nat.gcd m n = G ∧ m < topN ∧ n < topN, fun ds => valD (toL (nth .undef ds 1))⟩
  ⟨[.slot 9 (.int .u64 0), .slot 10 (.int .u64 0)], [], fun _ ds => ∃ u v : Nat, ds = [.int .u64 (u : Int), .int .u64 (v : Int)] ∧ Nat.gcd u v = G ∧ u < 1000000000000000000 ∧ v < 1000000000000000000, fun ds => (toI (nth .undef ds 1)).toNat⟩) mixedT Tryz.func201 ?_
 rw [encI_cells' x, encI_cells' y, vc_qGCD]
 simp only [Int.ofNat_eq_natCast]
 refine ⟨⟨x.natAbs, y.natAbs, rfl, hG, hx, hy⟩, ?_⟩
 rintro es fs ⟨m, n, he, hg, hm, hn⟩
 simp only [List.cons.injEq, D.sl.injEq, and_true] at he
 obtain ⟨rfl, rfl⟩ := he
 have lm := (smN.2 hm).len
 have ln := (smN.2 hn).len
 rw [Int.natAbs_natCast] at lm ln
 rw [raw_length, raw_length]
 have hstep : 0 < n → ∃ es_2 es_3, Gives CC 274 [A.c (D.sl (raw (lim m))), A.c (D.sl (raw (lim n)))] [A.c (D.sl es_2), A.c (D.sl es_3)] ∧
  (∃ m' n' : Nat, [D.sl (raw (lim n)), D.sl es_3] = [.sl (raw (lim m')), .sl (raw (lim n'))] ∧ Nat.gcd m' n' = G ∧ m' < topN ∧ n' < topN) ∧
  valD (toL (nth .undef [D.sl (raw (lim n)), D.sl es_3] 1)) < valD (toL (nth .undef [D.sl (raw (lim m)), D.sl (raw (lim n))] 1)) := by
  intro hn0
  have hmod := Nat.mod_lt m hn0
  refine ⟨_, _, hd m n (by omega) lm ln, ⟨n, m % n, rfl, ?_, hn, by omega⟩, ?_⟩
  ·rw [← hg, Nat.gcd_comm n, ← Nat.gcd_rec, Nat.gcd_comm]
  ·simp only [nth, toL, valD_raw, lim_val]; exact hmod
 have hsmall : ∀ {k : Nat}, ¬ ((lim k).length : Int) > 2 → k < 1000000000000000000 := by
  intro k hk
  have h1 := val_lt (lim_limbs k)
  rw [lim_val] at h1
  have h2 : 1000000000 ^ (lim k).length ≤ 1000000000 ^ 2 := Nat.pow_le_pow_right (by omega) (by omega)
  have h3 : (1000000000 : Nat) ^ 2 = 1000000000000000000 := by decide
  omega
 have hzero : n = 0 → ∃ b es_2, Gives CC 128 [A.c (D.bool false), A.c (D.sl (raw (lim m)))] [A.ag [D.bool b, D.sl es_2]] ∧ [A.ag [D.bool b, D.sl es_2]] = [encI (G : Int)] := by
  intro hn0
  subst hn0
  rw [Nat.gcd_zero_right] at hg
  subst hg
  exact ⟨_, _, qsigned_enc false (lim_limbs m) (by omega) (z := (m : Int)) (by simp [lim_val]), rfl⟩
 have hend : m < 1000000000000000000 → n < 1000000000000000000 →
  ∃ a, Gives CC 275 [A.c (D.sl (raw (lim m)))] [A.c (D.int IntKind.u64 a)] ∧ ∃ b, Gives CC 275 [A.c (D.sl (raw (lim n)))] [A.c (D.int IntKind.u64 b)] ∧
   (∃ u v : Nat, [D.int IntKind.u64 a, D.int IntKind.u64 b] = [.int .u64 (u : Int), .int .u64 (v : Int)] ∧ Nat.gcd u v = G ∧ u < 1000000000000000000 ∧ v < 1000000000000000000) ∧
   ∀ (n n_2 : Int), (∃ u v : Nat, [D.int IntKind.u64 n, D.int IntKind.u64 n_2] = [.int .u64 (u : Int), .int .u64 (v : Int)] ∧ Nat.gcd u v = G ∧ u < 1000000000000000000 ∧ v < 1000000000000000000) →
    br (toB (D.bool (decide (n_2 > (0 : Int)))))
     (n_2 ≠ (0 : Int) ∧
      (∃ u v : Nat, [D.int IntKind.u64 n_2, D.int IntKind.u64 (Int.tmod n n_2)] = [.int .u64 (u : Int), .int .u64 (v : Int)] ∧ Nat.gcd u v = G ∧ u < 1000000000000000000 ∧ v < 1000000000000000000) ∧
       (toI (nth .undef [D.int IntKind.u64 n_2, D.int IntKind.u64 (Int.tmod n n_2)] 1)).toNat < (toI (nth .undef [D.int IntKind.u64 n, D.int IntKind.u64 n_2] 1)).toNat)
     (∃ es, Gives CC 129 [A.c (D.int IntKind.u64 n)] [A.c (D.sl es)] ∧
      ∃ b es_2, Gives CC 128 [A.c (D.bool false), A.c (D.sl es)] [A.ag [D.bool b, D.sl es_2]] ∧ [A.ag [D.bool b, D.sl es_2]] = [encI (G : Int)]) := by
  intro sm sn
  have h3 : (1000000000 : Nat) ^ 2 = 1000000000000000000 := by decide
  have g1 := qshort_ok (lim_limbs m) (lim_length_le (by omega))
  have g2 := qshort_ok (lim_limbs n) (lim_length_le (by omega))
  rw [lim_val] at g1 g2
  refine ⟨_, g1, _, g2, ⟨m, n, rfl, hg, sm, sn⟩, ?_⟩
  rintro a b ⟨u, v, he, hg', hu, hv⟩
  simp only [List.cons.injEq, D.int.injEq, true_and, and_true] at he
  obtain ⟨rfl, rfl⟩ := he
  refine brd (fun h2 => ?_) (fun h2 => ?_)
  ·have hv0 : 0 < v := by omega
   have e2 : Int.tmod (u : Int) (v : Int) = ((u % v : Nat) : Int) := by rw [Int.tmod_eq_emod_of_nonneg (by omega)]; rfl
   have hmod := Nat.mod_lt u hv0
   rw [e2]
   refine ⟨by omega, ⟨v, u % v, rfl, by rw [← hg', Nat.gcd_comm v, ← Nat.gcd_rec, Nat.gcd_comm], hv, by omega⟩, ?_⟩
   simp only [nth, toI, Int.toNat_natCast]
   exact hmod
  ·have hv0 : v = 0 := by omega
   subst hv0
   rw [Nat.gcd_zero_right] at hg'
   subst hg'
   have : (lim u).length ≤ 2 := lim_length_le (by omega)
   exact ⟨_, qlimbs_ok (by omega), _, _, qsigned_enc false (lim_limbs u) (by omega) (z := (u : Int)) (by simp [lim_val]), rfl⟩
 refine brd (fun h => ?_) (fun h => ?_)
 ·have hn0 : 0 < n := lim_len_pos.1 (by omega)
  refine brd (fun h1 => hstep hn0) (fun h1 => brd (fun h2 => hstep hn0) (fun h2 => brb (fun h3 => ?_) (fun _ => hend (hsmall h1) (hsmall h2))))
  have : ((lim n).length : Int) = 0 := by simpa using h3
  omega
 ·have hn0 : n = 0 := by
   rcases Nat.eq_zero_or_pos n with h0 | h0
   ·exact h0
   ·have := lim_len_pos.2 h0; omega
  refine brb (fun _ => hzero hn0) (fun h3 => ?_)
  subst hn0
  simp [lim_zero] at h3
theorem qDivMod_ok (hd : PartsOk) {x y : Int} (hx : Sm x) (hy : Sm y) (hy0 : 0 < y) : Gives CC 240 [encI x, encI y] [encI (x / y), encI (x % y), .c (.int .i64 0)] := by
 refine wpF_ok (anns := fun _ => ⟨[], [], fun _ _ => True, fun _ => 0⟩) mixedT Tryz.func240 ?_
 have lx := hx.len
 have ly := hy.len
 have hyn : y.natAbs ≠ 0 := by omega
 have hlp : 0 < (lim y.natAbs).length := lim_len_pos.2 (by omega)
 have h1 := hd x.natAbs y.natAbs hyn lx ly
 have hqs : (x / y).natAbs ≤ x.natAbs + 1 := by
  have := Int.natAbs_ediv_le_natAbs x y
  omega
 rw [encI_cells' x, encI_cells' y, vc_qDivMod]
 simp only [Int.ofNat_eq_natCast]
 obtain ⟨a, ha⟩ : ∃ a : Nat, x.natAbs = a := ⟨_, rfl⟩
 obtain ⟨b, hb⟩ : ∃ b : Nat, y = (b : Int) := ⟨y.natAbs, by omega⟩
 have hbn : y.natAbs = b := by omega
 have hb0 : 0 < b := by omega
 rw [ha, hbn] at h1
 rw [ha] at lx
 rw [hbn] at ly
 have hdm := Nat.div_add_mod a b
 have hml := Nat.mod_lt a hb0
 have lq : (lim (a / b)).length ≤ 1000 := Nat.le_trans (ldif (Nat.div_le_self a b)) lx
 have lr : (lim (a % b)).length ≤ 1000 := Nat.le_trans (ldif (Nat.mod_le a b)) lx
 refine brb (fun h => ?_) (fun _ => ?_)
 ·rw [raw_length] at h
  have : ((lim y.natAbs).length : Int) = 0 := by simpa using h
  omega
 have hyf : decide (y < 0) = false := decide_eq_false (by omega)
 rw [hyf]
 by_cases hx0 : x < 0
 ·have hxt : decide (x < 0) = true := decide_eq_true hx0
  rw [hxt, ha, hbn]
  have hxa : x = -(a : Int) := by omega
  have gq := qsigned_enc true (lim_limbs (a / b)) (by omega) (z := -((a / b : Nat) : Int)) (by rw [lim_val]; rfl)
  have gr := qsigned_enc true (lim_limbs (a % b)) (by omega) (z := -((a % b : Nat) : Int)) (by rw [lim_val]; rfl)
  refine ⟨_, _, h1, _, _, gq, _, _, gr, ?_⟩
  rw [raw_length]
  refine brd (fun h => brb (fun h2 => ?_) (fun h2 => ?_)) (fun h => ?_)
  ·have hr0 : 0 < a % b := lim_len_pos.1 (by omega)
   have g1 := qFromInt64_ok (n := 1) (by omega) (by omega)
   have hq : (a / b) < topN := Nat.lt_of_le_of_lt (Nat.div_le_self _ _) (ha ▸ hx)
   have sq : Sm (-((a / b : Nat) : Int)) := by unfold Sm; rw [Int.natAbs_neg, Int.natAbs_natCast]; exact hq
   have sr : Sm (-((a % b : Nat) : Int)) := by unfold Sm; rw [Int.natAbs_neg, Int.natAbs_natCast]; exact Nat.lt_trans hml (hbn ▸ hy)
   have gs := qSub_ok sq sm_one
   have ga := qAdd_ok sr hy
   have ga2 : Gives CC 314 [encI (-((a % b : Nat) : Int)), .ag [.bool false, .sl (raw (lim b))]] [encI (-((a % b : Nat) : Int) + y)] := by
    have e0 : encI y = .ag [.bool false, .sl (raw (lim b))] := by rw [encI_cells' y, hyf, hbn]
    rw [e0] at ga
    exact ga
   refine ⟨_, _, g1, _, _, gs, _, _, ga2, ?_⟩
   have e1 : x / y = -((a / b : Nat) : Int) - 1 ∧ x % y = -((a % b : Nat) : Int) + y := by
    have := Int.ediv_emod_unique (a := x) (b := y) (r := -((a % b : Nat) : Int) + y) (q := -((a / b : Nat) : Int) - 1) hy0
    refine this.2 ⟨?_, by omega, by omega⟩
    rw [hxa, hb]
    have h5 : (b : Int) * (-((a / b : Nat) : Int) - 1) = -((b * (a / b) : Nat) : Int) - b := by rw [Int.mul_sub, Int.mul_neg, Int.mul_one, Int.natCast_mul]
    rw [h5]
    omega
   rw [e1.1, e1.2]
   rfl
  ·simp at h2
  ·have hr0 : a % b = 0 := by
    rcases Nat.eq_zero_or_pos (a % b) with h0 | h0
    ·exact h0
    ·have := lim_len_pos.2 h0; omega
   have e1 : x / y = -((a / b : Nat) : Int) ∧ x % y = -((a % b : Nat) : Int) := by
    have := Int.ediv_emod_unique (a := x) (b := y) (r := -((a % b : Nat) : Int)) (q := -((a / b : Nat) : Int)) hy0
    refine this.2 ⟨?_, by omega, by omega⟩
    rw [hxa, hb, Int.mul_neg, ← Int.natCast_mul]
    omega
   rw [e1.1, e1.2]
   rfl
 ·have hxf : decide (x < 0) = false := decide_eq_false hx0
  rw [hxf, ha, hbn]
  have hxa : x = (a : Int) := by omega
  have gq := qsigned_enc false (lim_limbs (a / b)) (by omega) (z := ((a / b : Nat) : Int)) (by rw [lim_val]; rfl)
  have gr := qsigned_enc false (lim_limbs (a % b)) (by omega) (z := ((a % b : Nat) : Int)) (by rw [lim_val]; rfl)
  refine ⟨_, _, h1, _, _, gq, _, _, gr, ?_⟩
  have e1 : x / y = ((a / b : Nat) : Int) ∧ x % y = ((a % b : Nat) : Int) := by rw [hxa, hb]; exact ⟨rfl, rfl⟩
  refine brd (fun h => brb (fun h2 => ?_) (fun h2 => ?_)) (fun h => ?_)
  ·simp at h2
  ·rw [e1.1, e1.2]; rfl
  ·rw [e1.1, e1.2]; rfl
theorem uunit_ok : Gives CC 69 [] [encI 1] := by
 refine wpF_ok (anns := fun _ => ⟨[], [], fun _ _ => True, fun _ => 0⟩) mixedT Tryz.func69 ?_
 rw [vc_uunit]
 exact ⟨_, _, qFromInt64_ok (n := 1) (by omega) (by omega), rfl⟩
theorem cI_cells (z : Int) : cI z = [.bool (decide (z < 0)), .sl (raw (lim z.natAbs))] := rfl
theorem uOf_ok (hd : PartsOk) {x y : Int} (hx : Sm x) (hy : Sm y) (hy0 : y ≠ 0) : Gives CC 145 [encI x, encI y] [encR (Rat.divInt x y)] := by
 refine wpF_ok (anns := annJ (fun _ => ⟨[], [], fun _ _ => True, fun _ => 0⟩) 3 ⟨[.box 2 [.bool false, .slice none 0 0], .box 3 [.bool false, .slice none 0 0]], [.box 2 [.bool false, .slice none 0 0], .box 3 [.bool false, .slice none 0 0]], fun _ ds => ∃ u v : Int, ds = cI u ++ cI v ∧ Sm u ∧ Sm v ∧ 0 < v ∧ Rat.divInt u v = Rat.divInt x y, fun _ => 0⟩) mixedT Tryz.func145 ?_
 rw [encI_cells' x, encI_cells' y, vc_uOf]
 have hS := qSign_ok y
 rw [encI_cells' y] at hS
 have hnx := qNeg_ok hx
 have hny := qNeg_ok hy
 rw [encI_cells' x, encI_cells'] at hnx
 rw [encI_cells' y, encI_cells'] at hny
 refine ⟨⟨_, hS, brd (fun h => ?_) (fun h => ?_)⟩, ?_⟩
 ·have hy1 : y < 0 := by
   unfold sgn at h
   split at h
   ·assumption
   ·split at h <;> omega
  exact ⟨_, _, hnx, _, _, hny, -x, -y, rfl, sm_neg hx, sm_neg hy, by omega, by rw [Rat.neg_divInt_neg]⟩
 ·have hy1 : 0 < y := by
   unfold sgn at h
   split at h
   ·omega
   ·omega
  exact ⟨x, y, rfl, hx, hy, hy1, rfl⟩
 ·rintro b1 es1 b2 es2 ⟨u, v, he, hu, hv, hv0, hr⟩
  simp only [cI_cells, List.cons_append, List.nil_append, List.cons.injEq, D.bool.injEq, D.sl.injEq, and_true] at he
  obtain ⟨rfl, rfl, rfl, rfl⟩ := he
  obtain ⟨g, hg⟩ : ∃ g : Nat, g = Nat.gcd u.natAbs v.natAbs := ⟨_, rfl⟩
  have hgp : 0 < g := by rw [hg]; exact Nat.gcd_pos_of_pos_right _ (by omega)
  have hgs : Sm (g : Int) := smN.2 (by rw [hg]; exact Nat.lt_of_le_of_lt (Nat.gcd_le_right _ (by omega)) hv)
  have g1 := qGCD_ok hd hu hv
  rw [← hg] at g1
  have g2 := qDivMod_ok hd hu hgs (by omega)
  have g3 := qDivMod_ok hd hv hgs (by omega)
  refine ⟨_, _, g1, _, _, _, _, _, g2, _, _, _, _, _, g3, ?_⟩
  rw [← hr, encR_divInt hv0, ← hg]
  rfl
theorem uSign_ok (r : Rat) : Gives CC 92 [encR r] [.c (.int .i64 (sgn r.num))] := by
 refine wpF_ok (anns := fun _ => ⟨[], [], fun _ _ => True, fun _ => 0⟩) mixedT Tryz.func92 ?_
 rw [encR_cells, vc_uSign]
 exact ⟨_, qSign_ok r.num, rfl⟩
theorem uNeg_ok {x : Rat} (hx : Sr x) : Gives CC 172 [encR x] [encR (-x)] := by
 refine wpF_ok (anns := fun _ => ⟨[], [], fun _ _ => True, fun _ => 0⟩) mixedT Tryz.func172 ?_
 rw [encR_cells, vc_uNeg]
 refine ⟨_, _, qNeg_ok hx.1.sm, ?_⟩
 rw [encR_cells, Rat.neg_num]
 have : (-x).den = x.den := rfl
 rw [this]
theorem uAdd_ok (hd : PartsOk) {x y : Rat} (hx : Sr x) (hy : Sr y) : Gives CC 272 [encR x, encR y] [encR (x + y)] := by
 refine wpF_ok (anns := fun _ => ⟨[], [], fun _ _ => True, fun _ => 0⟩) mixedT Tryz.func272 ?_
 rw [encR_cells, encR_cells, vc_uAdd]
 have px := den_pos x
 have py := den_pos y
 have hp := Int.mul_pos px py
 have e0 : x + y = Rat.divInt (x.num * y.den + y.num * x.den) (x.den * y.den) := by
  rw [← Rat.divInt_add_divInt _ _ (by omega) (by omega), Rat.num_divInt_den, Rat.num_divInt_den]
 refine ⟨_, _, qMul_ok hx.1.sm hy.2.sm, _, _, qMul_ok hy.1.sm hx.2.sm, _, _, qAdd_ok (hx.1.mul hy.2) (hy.1.mul hx.2), _, _, qMul_ok hx.2.sm hy.2.sm, _, _, _, _, uOf_ok hd (hx.1.mul_add hy.2 hy.1 hx.2) (hx.2.mul hy.2) (by omega), ?_⟩
 rw [e0]; rfl
theorem uSub_ok (hd : PartsOk) {x y : Rat} (hx : Sr x) (hy : Sr y) : Gives CC 198 [encR x, encR y] [encR (x - y)] := by
 refine wpF_ok (anns := fun _ => ⟨[], [], fun _ _ => True, fun _ => 0⟩) mixedT Tryz.func198 ?_
 rw [encR_cells, encR_cells, vc_uSub]
 refine ⟨_, _, _, _, uNeg_ok hy, _, _, _, _, uAdd_ok hd hx hy.neg, ?_⟩
 rw [Rat.sub_eq_add_neg]; rfl
theorem uCmp_ok {x y : Rat} (hx : Sr x) (hy : Sr y) : Gives CC 171 [encR x, encR y] [.c (.int .i64 (cmpR x y))] := by
 refine wpF_ok (anns := fun _ => ⟨[], [], fun _ _ => True, fun _ => 0⟩) mixedT Tryz.func171 ?_
 rw [encR_cells, encR_cells, vc_uCmp]
 rw [cmpR_eq]
 exact ⟨_, _, qMul_ok hx.1.sm hy.2.sm, _, _, qMul_ok hy.1.sm hx.2.sm, _, qCmp_ok (hx.1.mul hy.2) (hy.1.mul hx.2), rfl⟩
theorem uMul_ok (hd : PartsOk) {x y : Rat} (hx : Sr x) (hy : Sr y) : Gives CC 103 [encR x, encR y] [encR (x * y)] := by
 refine wpF_ok (anns := fun _ => ⟨[], [], fun _ _ => True, fun _ => 0⟩) mixedT Tryz.func103 ?_
 rw [encR_cells, encR_cells, vc_uMul]
 have px := den_pos x
 have py := den_pos y
 have := Int.mul_pos px py
 refine ⟨_, _, qMul_ok hx.1.sm hy.1.sm, _, _, qMul_ok hx.2.sm hy.2.sm, _, _, _, _, uOf_ok hd (hx.1.mul hy.1) (hx.2.mul hy.2) (by omega), ?_⟩
 have e : x * y = Rat.divInt (x.num * y.num) (x.den * y.den) := by
  rw [← Rat.divInt_mul_divInt, Rat.num_divInt_den, Rat.num_divInt_den]
 rw [e]; rfl
theorem uFromInt64_ok {n : Int} (h1 : -9223372036854775808 ≤ n) (h2 : n < 9223372036854775808) : Gives CC 27 [.c (.int .i64 n)] [encR (n : Rat)] := by
 refine wpF_ok (anns := fun _ => ⟨[], [], fun _ _ => True, fun _ => 0⟩) mixedT Tryz.func27 ?_
 rw [vc_uFromInt64]
 refine ⟨_, _, qFromInt64_ok h1 h2, _, _, uunit_ok, ?_⟩
 rw [encR_cells, Rat.num_intCast, Rat.den_intCast]; rfl
end Eng
end
