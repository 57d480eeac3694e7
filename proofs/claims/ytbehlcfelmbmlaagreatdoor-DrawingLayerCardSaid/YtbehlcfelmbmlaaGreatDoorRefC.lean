/- The verification conditions of functions, printed by a program (vcgen.py) and checked by the kernel. -/
import Derived.Test.YtbehlcfelmbmlaaGreatDoorCtxB
import Derived.Test.YtbehlcfelmbmlaaGreatDoorIntA
import Derived.Test.YtbehlcfelmbmlaaGreatDoorRefA
import Derived.Test.YtbehlcfelmbmlaaGreatDoorRefB
import Derived.KernelRfl
section
open Go Go.Proofs Eng
set_option maxRecDepth 1000000
namespace Eng
theorem vc_qparts (Gv : Nat → List A → List A → Prop) (I0 : List D → List D → Prop) (M0 : List D → Nat) (I1 : List D → List D → Prop) (M1 : List D → Nat) (I2 : List D → List D → Prop) (M2 : List D → Nat) (J4 : List D → List D → Prop) (J18 : List D → List D → Prop) (J20 : List D → List D → Prop) (J23 : List D → List D → Prop) (es fs : List (List D)) (Q : List A → Prop) :
 wpF CC Gv (annJ (annJ (annJ (annJ (ann3 ⟨[.own 12 173 1, .slot 11 (.slice none 0 0), .slot 14 (.int .i64 0)], [], I0, M0⟩ ⟨[.slot 16 (.int .u64 0), .slot 17 (.slice none 0 0)], [.slot 11 (.slice none 0 0), .slot 14 (.int .i64 0), .own 12 173 1], I1, M1⟩ ⟨[.own 19 174 1, .slot 18 (.int .u64 0), .slot 20 (.int .i64 0)], [.slot 11 (.slice none 0 0)], I2, M2⟩) 4 ⟨[], [], J4, fun _ => 0⟩) 18 ⟨[.slot 15 (.int .u64 0)], [.slot 11 (.slice none 0 0)], J18, fun _ => 0⟩) 20 ⟨[.slot 15 (.int .u64 0)], [.slot 11 (.slice none 0 0)], J20, fun _ => 0⟩) 23 ⟨[.slot 16 (.int .u64 0)], [.slot 11 (.slice none 0 0)], J23, fun _ => 0⟩) Tryz.f274 [.c (.sl es), .c (.sl fs)] Q = (
 br (toB (D.bool (decide ((Int.ofNat (List.length es)) ≤ (2 : Int)))))
 (br (toB (D.bool (decide ((Int.ofNat (List.length fs)) ≤ (2 : Int)))))
 (∃ n,
 Gv 275 [A.c (D.sl es)] [A.c (D.int .u64 n)] ∧
 ∃ n_1,
 Gv 275 [A.c (D.sl fs)] [A.c (D.int .u64 n_1)] ∧
 n_1 ≠ (0 : Int) ∧
 ∃ es,
 Gv 129 [A.c (D.int .u64 (IntKind.wrap .u64 (Int.tdiv n n_1)))] [A.c (D.sl es)] ∧
 n_1 ≠ (0 : Int) ∧ ∃ es_1, Gv 129 [A.c (D.int .u64 (Int.tmod n n_1))] [A.c (D.sl es_1)] ∧ Q [A.c (D.sl es), A.c (D.sl es_1)])
 (J4 [] []))
 (J4 [] []) ∧
 (J4 [] [] →
 ((0 : Int) ≤ IntKind.wrap .i64 ((Int.ofNat (List.length fs)) - (1 : Int)) ∧
 IntKind.wrap .i64 ((Int.ofNat (List.length fs)) - (1 : Int)) < (Int.ofNat (List.length fs)) ∧
 List.length (nth [] fs (Int.toNat (IntKind.wrap .i64 ((Int.ofNat (List.length fs)) - (1 : Int))))) = 1) ∧
 ∃ n,
 cut (nth [] fs (Int.toNat (IntKind.wrap .i64 ((Int.ofNat (List.length fs)) - (1 : Int))))) 0 1 [D.int .u32 n] ∧
 IntKind.wrap .u64 (IntKind.wrap .u64 n + (1 : Int)) ≠ (0 : Int) ∧
 ∃ es_1,
 Gv 337
 [A.c (D.sl fs),
 A.c
 (D.int .u32
 (IntKind.wrap .u32
 (IntKind.wrap .u64 (Int.tdiv (1000000000 : Int) (IntKind.wrap .u64 (IntKind.wrap .u64 n + (1 : Int)))))))]
 [A.c (D.sl es_1)] ∧
 ((0 : Int) ≤ IntKind.wrap .i64 ((Int.ofNat (List.length es_1)) - (1 : Int)) ∧
 IntKind.wrap .i64 ((Int.ofNat (List.length es_1)) - (1 : Int)) < (Int.ofNat (List.length es_1)) ∧
 List.length (nth [] es_1 (Int.toNat (IntKind.wrap .i64 ((Int.ofNat (List.length es_1)) - (1 : Int))))) = 1) ∧
 ∃ n_1,
 cut (nth [] es_1 (Int.toNat (IntKind.wrap .i64 ((Int.ofNat (List.length es_1)) - (1 : Int))))) 0 1 [D.int .u32 n_1] ∧
 ((0 : Int) ≤ IntKind.wrap .i64 ((Int.ofNat (List.length es)) + (1 : Int)) ∧
 IntKind.wrap .i64 ((Int.ofNat (List.length es)) + (1 : Int)) ≤ IntKind.wrap .i64 ((Int.ofNat (List.length es)) + (1 : Int)) ∧
 room (Int.toNat (IntKind.wrap .i64 ((Int.ofNat (List.length es)) + (1 : Int))))) ∧
 ∃ es_2,
 Gv 337
 [A.c (D.sl es),
 A.c
 (D.int .u32
 (IntKind.wrap .u32
 (IntKind.wrap .u64
 (Int.tdiv (1000000000 : Int) (IntKind.wrap .u64 (IntKind.wrap .u64 n + (1 : Int)))))))]
 [A.c (D.sl es_2)] ∧
 ((0 : Int) ≤ (Int.ofNat (List.length es_2)) ∧
 (Int.ofNat (List.length es_2)) ≤
 (Int.ofNat (List.length
 (List.replicate (Int.toNat (IntKind.wrap .i64 ((Int.ofNat (List.length es)) + (1 : Int)))) [D.int .u32 (0 : Int)]))) ∧
 0 <
 List.length
 (List.replicate (Int.toNat (IntKind.wrap .i64 ((Int.ofNat (List.length es)) + (1 : Int)))) [D.int .u32 (0 : Int)])) ∧
 I0 []
 [D.sl
 (List.take (Int.toNat (Int.ofNat (List.length es_2)))
 (List.replicate (Int.toNat (IntKind.wrap .i64 ((Int.ofNat (List.length es)) + (1 : Int)))) [D.int .u32 (0 : Int)])),
 D.sl [], D.int .i64 (IntKind.wrap .i64 ((Int.ofNat (List.length es_2)) - (1 : Int)))] ∧
 ∀ (es es_3 : List (List D)) (n_2 : Int),
 I0 [] [D.sl es, D.sl es_3, D.int .i64 n_2] →
 br (toB (D.bool (decide (n_2 ≥ (0 : Int)))))
 (((0 : Int) ≤ n_2 ∧ n_2 < (Int.ofNat (List.length es_2)) ∧ List.length (nth [] es_2 (Int.toNat n_2)) = 1) ∧
 ∃ n,
 cut (nth [] es_2 (Int.toNat n_2)) 0 1 [D.int .u32 n] ∧
 (room (1 + List.length es_3) ∧ lens 1 es_3) ∧
 ∃ es_4,
 Gv 224 [A.c (D.sl ([D.int .u32 n] :: es_3))] [A.c (D.sl es_4)] ∧
 br (toB (D.bool (decide ((Int.ofNat (List.length es_4)) > (Int.ofNat (List.length es_1))))))
 (((0 : Int) ≤ (Int.ofNat (List.length es_1)) ∧
 (Int.ofNat (List.length es_1)) < (Int.ofNat (List.length es_4)) ∧
 List.length (nth [] es_4 (Int.toNat (Int.ofNat (List.length es_1)))) = 1) ∧
 ∃ n,
 cut (nth [] es_4 (Int.toNat (Int.ofNat (List.length es_1)))) 0 1 [D.int .u32 n] ∧
 J18 [D.sl es_4]
 [D.int .u64 (IntKind.wrap .u64 (IntKind.wrap .u64 n * (1000000000 : Int)))])
 (J18 [D.sl es_4] [D.int .u64 (0 : Int)]) ∧
 ∀ (n : Int),
 J18 [D.sl es_4] [D.int .u64 n] →
 br (toB (D.bool (decide ((Int.ofNat (List.length es_4)) ≥ (Int.ofNat (List.length es_1))))))
 (((0 : Int) ≤ IntKind.wrap .i64 ((Int.ofNat (List.length es_1)) - (1 : Int)) ∧
 IntKind.wrap .i64 ((Int.ofNat (List.length es_1)) - (1 : Int)) < (Int.ofNat (List.length es_4)) ∧
 List.length
 (nth [] es_4 (Int.toNat (IntKind.wrap .i64 ((Int.ofNat (List.length es_1)) - (1 : Int))))) =
 1) ∧
 ∃ n_3,
 cut (nth [] es_4 (Int.toNat (IntKind.wrap .i64 ((Int.ofNat (List.length es_1)) - (1 : Int)))))
 0 1 [D.int .u32 n_3] ∧
 J20 [D.sl es_4]
 [D.int .u64 (IntKind.wrap .u64 (n + IntKind.wrap .u64 n_3))])
 (J20 [D.sl es_4] [D.int .u64 n]) ∧
 ∀ (n : Int),
 J20 [D.sl es_4] [D.int .u64 n] →
 IntKind.wrap .u64 n_1 ≠ (0 : Int) ∧
 br
 (toB
 (D.bool
 (decide
 (IntKind.wrap .u64 (Int.tdiv n (IntKind.wrap .u64 n_1)) >
 (999999999 : Int)))))
 (J23 [D.sl es_4] [D.int .u64 (999999999 : Int)])
 (J23 [D.sl es_4]
 [D.int .u64
 (IntKind.wrap .u64 (Int.tdiv n (IntKind.wrap .u64 n_1)))]) ∧
 ∀ (n : Int),
 J23 [D.sl es_4] [D.int .u64 n] →
 ∃ es_5,
 Gv 337 [A.c (D.sl es_1), A.c (D.int .u32 (IntKind.wrap .u32 n))]
 [A.c (D.sl es_5)] ∧
 I1 [D.sl es_4, D.int .i64 n_2, D.sl es] [D.int .u64 n, D.sl es_5] ∧
 ∀ (n : Int) (es_6 : List (List D)),
 I1 [D.sl es_4, D.int .i64 n_2, D.sl es] [D.int .u64 n, D.sl es_6] →
 ∃ n_3,
 Gv 127 [A.c (D.sl es_6), A.c (D.sl es_4)]
 [A.c (D.int .i64 n_3)] ∧
 br (toB (D.bool (decide (n_3 > (0 : Int)))))
 (∃ es_7,
 Gv 338 [A.c (D.sl es_6), A.c (D.sl es_1)] [A.c (D.sl es_7)] ∧
 I1 [D.sl es_4, D.int .i64 n_2, D.sl es]
 [D.int .u64 (IntKind.wrap .u64 (n - (1 : Int))),
 D.sl es_7] ∧
 M1
 [D.int .u64 (IntKind.wrap .u64 (n - (1 : Int))),
 D.sl es_7] <
 M1 [D.int .u64 n, D.sl es_6])
 (∃ es_7,
 Gv 338 [A.c (D.sl es_4), A.c (D.sl es_6)] [A.c (D.sl es_7)] ∧
 ((0 : Int) ≤ n_2 ∧ n_2 < (Int.ofNat (List.length es))) ∧
 0 < 1 ∧
 I0 []
 [D.sl
 (upd es (Int.toNat n_2)
 (upd (nth [] es (Int.toNat n_2)) 0
 (D.int .u32 (IntKind.wrap .u32 n)))),
 D.sl es_7,
 D.int .i64
 (IntKind.wrap .i64 (n_2 - (1 : Int)))] ∧
 M0
 [D.sl
 (upd es (Int.toNat n_2)
 (upd (nth [] es (Int.toNat n_2)) 0
 (D.int .u32 (IntKind.wrap .u32 n)))),
 D.sl es_7,
 D.int .i64
 (IntKind.wrap .i64 (n_2 - (1 : Int)))] <
 M0 [D.sl es, D.sl es_3, D.int .i64 n_2]))
 (((0 : Int) ≤ (Int.ofNat (List.length es_3)) ∧ (Int.ofNat (List.length es_3)) ≤ (Int.ofNat (List.length es_3)) ∧ room (Int.toNat (Int.ofNat (List.length es_3)))) ∧
 I2 [D.sl es_3]
 [D.sl (List.replicate (Int.toNat (Int.ofNat (List.length es_3))) [D.int .u32 (0 : Int)]), D.int .u64 (0 : Int),
 D.int .i64 (IntKind.wrap .i64 ((Int.ofNat (List.length es_3)) - (1 : Int)))] ∧
 ∀ (es_4 : List (List D)) (n_3 n_4 : Int),
 I2 [D.sl es_3] [D.sl es_4, D.int .u64 n_3, D.int .i64 n_4] →
 br (toB (D.bool (decide (n_4 ≥ (0 : Int)))))
 (((0 : Int) ≤ n_4 ∧ n_4 < (Int.ofNat (List.length es_3)) ∧ List.length (nth [] es_3 (Int.toNat n_4)) = 1) ∧
 ∃ n_5,
 cut (nth [] es_3 (Int.toNat n_4)) 0 1 [D.int .u32 n_5] ∧
 IntKind.wrap .u64
 (IntKind.wrap .u32
 (IntKind.wrap .u64
 (Int.tdiv (1000000000 : Int)
 (IntKind.wrap .u64 (IntKind.wrap .u64 n + (1 : Int)))))) ≠
 (0 : Int) ∧
 ((0 : Int) ≤ n_4 ∧ n_4 < (Int.ofNat (List.length es_4))) ∧
 0 < 1 ∧
 IntKind.wrap .u64
 (IntKind.wrap .u32
 (IntKind.wrap .u64
 (Int.tdiv (1000000000 : Int)
 (IntKind.wrap .u64 (IntKind.wrap .u64 n + (1 : Int)))))) ≠
 (0 : Int) ∧
 I2 [D.sl es_3]
 [D.sl
 (upd es_4 (Int.toNat n_4)
 (upd (nth [] es_4 (Int.toNat n_4)) 0
 (D.int .u32
 (IntKind.wrap .u32
 (IntKind.wrap .u64
 (Int.tdiv
 (IntKind.wrap .u64
 (IntKind.wrap .u64 (n_3 * (1000000000 : Int)) +
 IntKind.wrap .u64 n_5))
 (IntKind.wrap .u64
 (IntKind.wrap .u32
 (IntKind.wrap .u64
 (Int.tdiv (1000000000 : Int)
 (IntKind.wrap .u64
 (IntKind.wrap .u64 n + (1 : Int))))))))))))),
 D.int .u64
 (Int.tmod
 (IntKind.wrap .u64
 (IntKind.wrap .u64 (n_3 * (1000000000 : Int)) + IntKind.wrap .u64 n_5))
 (IntKind.wrap .u64
 (IntKind.wrap .u32
 (IntKind.wrap .u64
 (Int.tdiv (1000000000 : Int)
 (IntKind.wrap .u64 (IntKind.wrap .u64 n + (1 : Int)))))))),
 D.int .i64 (IntKind.wrap .i64 (n_4 - (1 : Int)))] ∧
 M2
 [D.sl
 (upd es_4 (Int.toNat n_4)
 (upd (nth [] es_4 (Int.toNat n_4)) 0
 (D.int .u32
 (IntKind.wrap .u32
 (IntKind.wrap .u64
 (Int.tdiv
 (IntKind.wrap .u64
 (IntKind.wrap .u64 (n_3 * (1000000000 : Int)) +
 IntKind.wrap .u64 n_5))
 (IntKind.wrap .u64
 (IntKind.wrap .u32
 (IntKind.wrap .u64
 (Int.tdiv (1000000000 : Int)
 (IntKind.wrap .u64
 (IntKind.wrap .u64 n + (1 : Int))))))))))))),
 D.int .u64
 (Int.tmod
 (IntKind.wrap .u64
 (IntKind.wrap .u64 (n_3 * (1000000000 : Int)) +
 IntKind.wrap .u64 n_5))
 (IntKind.wrap .u64
 (IntKind.wrap .u32
 (IntKind.wrap .u64
 (Int.tdiv (1000000000 : Int)
 (IntKind.wrap .u64 (IntKind.wrap .u64 n + (1 : Int)))))))),
 D.int .i64 (IntKind.wrap .i64 (n_4 - (1 : Int)))] <
 M2 [D.sl es_4, D.int .u64 n_3, D.int .i64 n_4])
 (∃ es_5,
 Gv 224 [A.c (D.sl es)] [A.c (D.sl es_5)] ∧
 ∃ es, Gv 224 [A.c (D.sl es_4)] [A.c (D.sl es)] ∧ Q [A.c (D.sl es_5), A.c (D.sl es)])))) := by kernel_rfl
end Eng
end

section
namespace Eng
open Go Go.Proofs
theorem lim_getD : ∀ (i n : Nat), (lim n).getD i 0 = n / 1000000000 ^ i % 1000000000
 | 0, n => by
  rw [Nat.pow_zero, Nat.div_one]
  rcases Nat.eq_zero_or_pos n with h | h
  ·rw [h]; rfl
  ·rw [lim_cons h]; rfl
 | i + 1, n => by
  rcases Nat.eq_zero_or_pos n with h | h
  ·rw [h, lim_zero, Nat.zero_div]; rfl
  ·rw [lim_cons h, Nat.pow_succ, Nat.mul_comm, ← Nat.div_div_eq_div_mul]
   exact lim_getD i (n / 1000000000)
theorem lim_short {n i : Nat} (h : (lim n).length ≤ i) : n / 1000000000 ^ i = 0 := by
 apply Nat.div_eq_of_lt
 rcases Nat.lt_or_ge n (1000000000 ^ i) with h2 | h2
 ·exact h2
 ·have := lim_length_of_le h2; omega
theorem high_step {R n : Nat} : R / 1000000000 ^ (n + 1) * 1000000000 + R / 1000000000 ^ n % 1000000000 = R / 1000000000 ^ n := by
 rw [Nat.pow_succ, ← Nat.div_div_eq_div_mul]
 generalize R / 1000000000 ^ n = q
 omega
theorem div_up {R V v1 P vl : Nat} (hV : V = v1 * P + vl) (hV0 : 0 < v1 * P) : R / V ≤ R / P / v1 := by
 rw [Nat.div_div_eq_div_mul, Nat.mul_comm P v1]
 exact Nat.div_le_div_left (by omega) hV0
theorem mul_gt {R V d : Nat} (hV : 0 < V) (h : R < V * d) : R / V < d := by
 rw [Nat.div_lt_iff_lt_mul hV, Nat.mul_comm]; exact h
theorem mul_le {R V d : Nat} (hV : 0 < V) (h : V * d ≤ R) (h2 : R / V ≤ d) : d = R / V := by
 have : d ≤ R / V := (Nat.le_div_iff_mul_le hV).2 (by rw [Nat.mul_comm]; exact h)
 omega
theorem sub_mod {R V : Nat} : R - V * (R / V) = R % V := by
 have := Nat.div_add_mod R V
 omega
theorem round_ref {V Q R c B : Nat} : (((c + B * R) / V) + B * Q) * V + (c + B * R) % V = c + B * (Q * V + R) := by
 have h := Nat.div_add_mod (c + B * R) V
 generalize (c + B * R) / V = d at *
 generalize (c + B * R) % V = e at *
 have e1 : (d + B * Q) * V + e = (V * d + e) + B * (Q * V) := by
  rw [Nat.add_mul, Nat.mul_comm d V, Nat.mul_assoc]; omega
 rw [e1, h, Nat.mul_add]; omega
theorem lt_round {V R c B : Nat} (hc : c < B) (hR : R < V) : c + B * R < B * V := by
 have : B * (R + 1) ≤ B * V := Nat.mul_le_mul_left _ hR
 rw [Nat.mul_add] at this; omega
theorem div_lt_round {V R c B : Nat} (hc : c < B) (hR : R < V) : (c + B * R) / V < B := by
 rw [Nat.div_lt_iff_lt_mul (by omega)]; exact lt_round hc hR
theorem drop_val {u : List Nat} {k : Nat} (h : k < u.length) : val (u.drop k) = u[k] + 1000000000 * val (u.drop (k + 1)) := by
 rw [List.drop_eq_getElem_cons h]; rfl
theorem divmod_uniq {U V q r : Nat} (h : q * V + r = U) (hr : r < V) : q = U / V ∧ r = U % V := by
 have hV : 0 < V := by omega
 subst h
 constructor
 ·rw [Nat.mul_comm, Nat.mul_add_div hV, Nat.div_eq_of_lt hr]; omega
 ·rw [Nat.mul_comm, Nat.mul_add_mod, Nat.mod_eq_of_lt hr]
theorem set_next {k d : Nat} {q : List Nat} : (List.replicate (k + 1) 0 ++ q).set k d = List.replicate k 0 ++ d :: q := by
 rw [List.replicate_succ', List.append_assoc, List.set_append]
 simp
end Eng
end

section
namespace Eng
open Go Go.Proofs
set_option maxRecDepth 100000
theorem lraw_inj {a b : Nat} (h : raw (lim a) = raw (lim b)) : a = b := by
 have := raw_inj h
 rw [← lim_val a, ← lim_val b, this]
def annP (a b c j4 j18 j20 j23 : Ann) : Nat → Ann := annJ (annJ (annJ (annJ (ann3 a b c) 4 j4) 18 j18) 20 j20) 23 j23
theorem lim_mul_len {x s : Nat} (hs : s < 1000000000) : (lim (x * s)).length ≤ (lim x).length + 1 := by
 apply lim_length_le
 have h := val_lt (lim_limbs x)
 rw [lim_val] at h
 rw [Nat.pow_succ]
 calc x * s ≤ x * 1000000000 := Nat.mul_le_mul_left _ (by omega)
  _ < 1000000000 ^ (lim x).length * 1000000000 := Nat.mul_lt_mul_of_pos_right h (by omega)
theorem scale_of {y : Nat} (hy : y ≠ 0) : ∃ d s : Nat, 0 < d ∧ d < 1000000000 ∧ (∀ h : (lim y).length - 1 < (lim y).length, (lim y)[(lim y).length - 1] = d) ∧ 0 < s ∧ s = 1000000000 / (d + 1) ∧ s < 1000000000 := by
 have hl : 0 < (lim y).length := lim_len_pos.2 (by omega)
 have hlt : (lim y).length - 1 < (lim y).length := by omega
 obtain ⟨d, hd⟩ : ∃ d, (lim y)[(lim y).length - 1] = d := ⟨_, rfl⟩
 have hd1 : d < 1000000000 := hd ▸ (lim_limbs y).get hlt
 have hd0 : 0 < d := by
  rcases Nat.eq_zero_or_pos d with h0 | h0
  ·exfalso
   rcases lim_last y with h | h
   ·rw [h] at hl; simp at hl
   ·apply h
    rw [List.getLast?_eq_getElem?, List.getElem?_eq_getElem hlt, hd, h0]
  ·exact h0
 obtain ⟨_, hs2, hs3⟩ := scale_half hd0 hd1 (s := 1000000000 / (d + 1)) rfl
 refine ⟨d, 1000000000 / (d + 1), hd0, hd1, fun _ => hd, by omega, rfl, ?_⟩
 generalize 1000000000 / (d + 1) = s at *
 have : s * 2 ≤ s * (d + 1) := Nat.mul_le_mul_left _ (by omega)
 omega
theorem top_of {V p : Nat} (hp : (lim V).length = p + 1) : ∃ v1 : Nat, v1 = V / 1000000000 ^ p ∧ 0 < v1 ∧ v1 < 1000000000 ∧ (∀ h : p < (lim V).length, (lim V)[p] = v1) ∧ v1 * 1000000000 ^ p ≤ V ∧ V < 1000000000 ^ (p + 1) := by
 have hB : V < 1000000000 ^ (p + 1) := by have h := val_lt (lim_limbs V); rw [lim_val, hp] at h; exact h
 have hP : 1000000000 ^ p ≤ V := by
  rcases Nat.lt_or_ge V (1000000000 ^ p) with h | h
  ·have := lim_length_le h; omega
  ·exact h
 have hpp : 0 < 1000000000 ^ p := Nat.pow_pos (by omega)
 have hv : V / 1000000000 ^ p < 1000000000 := by
  rw [Nat.div_lt_iff_lt_mul hpp, Nat.mul_comm, ← Nat.pow_succ]; exact hB
 refine ⟨V / 1000000000 ^ p, rfl, Nat.div_pos hP hpp, hv, fun h => ?_, Nat.div_mul_le_self _ _, hB⟩
 have h2 := lim_getD p V
 rw [Nat.mod_eq_of_lt hv] at h2
 rw [← h2]; simp [List.getD, h]
theorem high_lt {T V p : Nat} (h : T < 1000000000 * V) (hV : V < 1000000000 ^ (p + 1)) : T / 1000000000 ^ (p + 1) < 1000000000 ∧ T / 1000000000 ^ p < 1000000000000000000 := by
 have h1 : T < 1000000000 * 1000000000 ^ (p + 1) := Nat.lt_trans h (Nat.mul_lt_mul_of_pos_left hV (by omega))
 constructor
 ·rw [Nat.div_lt_iff_lt_mul (Nat.pow_pos (by omega))]; exact h1
 ·rw [Nat.div_lt_iff_lt_mul (Nat.pow_pos (by omega))]
  rw [Nat.pow_succ] at h1
  calc T < 1000000000 * (1000000000 ^ p * 1000000000) := h1
   _ = 1000000000000000000 * 1000000000 ^ p := by rw [Nat.mul_comm (1000000000 ^ p), ← Nat.mul_assoc]
def qr (u : List Nat) (V : Nat) (kk : Nat) (ql : List Nat) (R : Nat) : Prop :=
 kk + ql.length = u.length ∧ Limbs ql ∧ R < V ∧ val ql * V + R = val (u.drop kk)
theorem qr.start {u : List Nat} {V : Nat} (hV : 0 < V) : qr u V u.length [] 0 := by
 refine ⟨rfl, Limbs.nil, hV, ?_⟩
 rw [List.drop_length]; simp [val]
theorem qr.next {u : List Nat} {V k R c : Nat} {ql : List Nat} (h : qr u V (k + 1) ql R) (hc : c < 1000000000) (hk : ∀ h : k < u.length, u[k] = c) : qr u V k ((c + 1000000000 * R) / V :: ql) ((c + 1000000000 * R) % V) := by
 obtain ⟨h1, h2, h3, h4⟩ := h
 have hku : k < u.length := by omega
 refine ⟨by simp only [List.length_cons]; omega, h2.cons (div_lt_round hc h3), Nat.mod_lt _ (by omega), ?_⟩
 rw [drop_val hku, ← h4, hk hku, ← round_ref]; rfl
theorem qr.fin {u : List Nat} {V R : Nat} {ql : List Nat} (h : qr u V 0 ql R) : val ql = val u / V ∧ R = val u % V := by
 obtain ⟨h1, h2, h3, h4⟩ := h
 rw [List.drop_zero] at h4
 exact divmod_uniq h4 h3
theorem parts_small {x y : Nat} (h1 : (lim x).length ≤ 2) (h2 : (lim y).length ≤ 2) (hy : y ≠ 0) {Q : List A → Prop} (hQ : Q [.c (.sl (raw (lim (x / y)))), .c (.sl (raw (lim (x % y))))]) :
 ∃ n, Gives CC 275 [A.c (D.sl (raw (lim x)))] [A.c (D.int IntKind.u64 n)] ∧
  ∃ n_1, Gives CC 275 [A.c (D.sl (raw (lim y)))] [A.c (D.int IntKind.u64 n_1)] ∧ n_1 ≠ (0 : Int) ∧
   ∃ es, Gives CC 129 [A.c (D.int IntKind.u64 (IntKind.wrap IntKind.u64 (Int.tdiv n n_1)))] [A.c (D.sl es)] ∧
    n_1 ≠ (0 : Int) ∧ ∃ es_1, Gives CC 129 [A.c (D.int IntKind.u64 (Int.tmod n n_1))] [A.c (D.sl es_1)] ∧ Q [A.c (D.sl es), A.c (D.sl es_1)] := by
 have hx := qshort_ok (lim_limbs x) h1
 have hy' := qshort_ok (lim_limbs y) h2
 rw [lim_val] at hx hy'
 have bx : x < 1000000000000000000 := by
  have h := val_lt (lim_limbs x)
  rw [lim_val] at h
  exact Nat.lt_of_lt_of_le h (Nat.le_trans (Nat.pow_le_pow_right (by omega) h1) (by decide))
 have by_ : y < 1000000000000000000 := by
  have h := val_lt (lim_limbs y)
  rw [lim_val] at h
  exact Nat.lt_of_lt_of_le h (Nat.le_trans (Nat.pow_le_pow_right (by omega) h2) (by decide))
 have e1 : Int.tdiv (x : Int) (y : Int) = ((x / y : Nat) : Int) := (Int.ofNat_tdiv x y).symm
 have e2 : Int.tmod (x : Int) (y : Int) = ((x % y : Nat) : Int) := (Int.ofNat_tmod x y).symm
 have l1 : x / y ≤ x := Nat.div_le_self _ _
 have l2 : x % y < y := Nat.mod_lt _ (by omega)
 refine ⟨_, hx, _, hy', by omega, ?_⟩
 rw [e1, e2]
 generalize x / y = q at *
 generalize x % y = r at *
 rw [u64w (by omega) (by omega)]
 exact ⟨_, qlimbs_ok (by omega), by omega, _, qlimbs_ok (by omega), hQ⟩
theorem partsOk : PartsOk := by
 intro x y hy hlx hly
 by_cases hsmall : (lim x).length ≤ 2 ∧ (lim y).length ≤ 2
 ·refine wpF_ok (anns := annP ⟨[.own 12 173 1, .slot 11 (.slice none 0 0), .slot 14 (.int .i64 0)], [], fun _ _ => True, fun _ => 0⟩ ⟨[.slot 16 (.int .u64 0), .slot 17 (.slice none 0 0)], [.slot 11 (.slice none 0 0), .slot 14 (.int .i64 0), .own 12 173 1], fun _ _ => True, fun _ => 0⟩ ⟨[.own 19 174 1, .slot 18 (.int .u64 0), .slot 20 (.int .i64 0)], [.slot 11 (.slice none 0 0)], fun _ _ => True, fun _ => 0⟩
   ⟨[], [], fun _ _ => False, fun _ => 0⟩ ⟨[.slot 15 (.int .u64 0)], [.slot 11 (.slice none 0 0)], fun _ _ => True, fun _ => 0⟩ ⟨[.slot 15 (.int .u64 0)], [.slot 11 (.slice none 0 0)], fun _ _ => True, fun _ => 0⟩ ⟨[.slot 16 (.int .u64 0)], [.slot 11 (.slice none 0 0)], fun _ _ => True, fun _ => 0⟩) mixedT Tryz.func274 ?_
  unfold annP
  rw [vc_qparts]
  simp only [Int.ofNat_eq_natCast, raw_length]
  refine ⟨brd (fun _ => brd (fun _ => parts_small (Q := fun rs => rs = [.c (.sl (raw (lim (x / y)))), .c (.sl (raw (lim (x % y))))]) hsmall.1 hsmall.2 hy rfl) (fun h => ?_)) (fun h => ?_), fun h => h.elim⟩
  ·exact h (by have := hsmall.2; omega)
  ·exact h (by have := hsmall.1; omega)
 ·-- the scale
  obtain ⟨d, s, hd0, hd1, hdl, hs0, hs, hs1⟩ := scale_of hy
  have hlyp : 0 < (lim y).length := lim_len_pos.2 (by omega)
  obtain ⟨V, hV⟩ : ∃ V, V = y * s := ⟨_, rfl⟩
  obtain ⟨U, hU⟩ : ∃ U, U = x * s := ⟨_, rfl⟩
  have hV0 : 0 < V := by rw [hV]; exact Nat.mul_pos (by omega) hs0
  have hcV := qby_ok (lim_limbs y) hs1 (by omega)
  have hcU := qby_ok (lim_limbs x) hs1 (by omega)
  rw [lim_val, ← hV] at hcV
  rw [lim_val, ← hU] at hcU
  have hlV : (lim V).length ≤ (lim y).length + 1 := by rw [hV]; exact lim_mul_len hs1
  have hlU : (lim U).length ≤ (lim x).length + 1 := by rw [hU]; exact lim_mul_len hs1
  have hlVp : 0 < (lim V).length := lim_len_pos.2 hV0
  obtain ⟨p, hp⟩ : ∃ p, (lim V).length = p + 1 := ⟨(lim V).length - 1, by omega⟩
  obtain ⟨v1, hv1, hv0, hvB, hvl, hvP, hVB⟩ := top_of hp
  have hwd : IntKind.wrap .u32 (IntKind.wrap .u64 (Int.tdiv 1000000000 (IntKind.wrap .u64 (IntKind.wrap .u64 (d : Int) + 1)))) = (s : Int) := by
   rw [u64w (n := (d : Int)) (by omega) (by omega), u64w (n := (d : Int) + 1) (by omega) (by omega)]
   have : Int.tdiv (1000000000 : Int) ((d : Int) + 1) = ((1000000000 / (d + 1) : Nat) : Int) := (Int.ofNat_tdiv 1000000000 (d + 1)).symm
   rw [this, ← hs, u64w (by omega) (by omega), u32w (by omega) (by omega)]
  have hws : IntKind.wrap .u64 (s : Int) = (s : Int) := u64w (by omega) (by omega)
  have hwp : IntKind.wrap .i64 (((lim V).length : Int) - 1) = (p : Int) := by rw [hp, i64w (by omega) (by omega)]; omega
  have hwv : IntKind.wrap .u64 (v1 : Int) = (v1 : Int) := u64w (by omega) (by omega)
  refine wpF_ok (anns := annP
   ⟨[.own 12 173 1, .slot 11 (.slice none 0 0), .slot 14 (.int .i64 0)], [], fun _ ds => ∃ (kk : Nat) (ql : List Nat) (R : Nat), ds = [.sl (raw (List.replicate kk 0 ++ ql)), .sl (raw (lim R)), .int .i64 ((kk : Int) - 1)] ∧ qr (lim U) V kk ql R, fun ds => (toI (nth .undef ds 2) + 1).toNat⟩
   ⟨[.slot 16 (.int .u64 0), .slot 17 (.slice none 0 0)], [.slot 11 (.slice none 0 0), .slot 14 (.int .i64 0), .own 12 173 1], fun gs ds => ∃ (T g : Nat), nth .undef gs 0 = .sl (raw (lim T)) ∧ ds = [.int .u64 (g : Int), .sl (raw (lim (V * g)))] ∧ T / V ≤ g ∧ g ≤ 999999999, fun ds => (toI (nth .undef ds 0)).toNat⟩
   ⟨[.own 19 174 1, .slot 18 (.int .u64 0), .slot 20 (.int .i64 0)], [.slot 11 (.slice none 0 0)], fun gs ds => ∃ (R kk : Nat) (ql : List Nat) (t : Nat), gs = [.sl (raw (lim R))] ∧ ds = [.sl (raw (List.replicate kk 0 ++ ql)), .int .u64 (t : Int), .int .i64 ((kk : Int) - 1)] ∧ qr (lim R) s kk ql t, fun ds => (toI (nth .undef ds 2) + 1).toNat⟩
   ⟨[], [], fun _ _ => True, fun _ => 0⟩
   ⟨[.slot 15 (.int .u64 0)], [.slot 11 (.slice none 0 0)], fun gs ds => ∃ T : Nat, gs = [.sl (raw (lim T))] ∧ ds = [.int .u64 ((T / 1000000000 ^ (p + 1) * 1000000000 : Nat) : Int)], fun _ => 0⟩
   ⟨[.slot 15 (.int .u64 0)], [.slot 11 (.slice none 0 0)], fun gs ds => ∃ T : Nat, gs = [.sl (raw (lim T))] ∧ ds = [.int .u64 ((T / 1000000000 ^ p : Nat) : Int)], fun _ => 0⟩
   ⟨[.slot 16 (.int .u64 0)], [.slot 11 (.slice none 0 0)], fun gs ds => ∃ (T g : Nat), gs = [.sl (raw (lim T))] ∧ ds = [.int .u64 (g : Int)] ∧ T / V ≤ g ∧ g ≤ 999999999, fun _ => 0⟩) mixedT Tryz.func274 ?_
  unfold annP
  rw [vc_qparts]
  simp only [Int.ofNat_eq_natCast, raw_length]
  refine ⟨brd (fun _ => brd (fun h => ?_) (fun _ => trivial)) (fun _ => trivial), fun _ => ?_⟩
  ·exact absurd ⟨by omega, by omega⟩ hsmall
  have hwl : IntKind.wrap .i64 (((lim y).length : Int) - 1) = (((lim y).length - 1 : Nat) : Int) := by rw [i64w (by omega) (by omega)]; omega
  have hwx : IntKind.wrap .i64 (((lim x).length : Int) + 1) = (((lim x).length + 1 : Nat) : Int) := by rw [i64w (by omega) (by omega)]; omega
  rw [hwl, hwx, Int.toNat_natCast, Int.toNat_natCast]
  have hdc : cut (nth [] (raw (lim y)) ((lim y).length - 1)) 0 1 [.int .u32 (d : Int)] := by
   have := cut_raw (l := lim y) (i := (lim y).length - 1) (by omega)
   rw [hdl (by omega)] at this; exact this
  refine ⟨⟨by omega, by omega, raw_len1 (by omega)⟩, _, hdc, ?_⟩
  rw [hwd]
  refine ⟨?_, _, hcV, ?_⟩
  ·rw [u64w (n := (d : Int)) (by omega) (by omega), u64w (n := (d : Int) + 1) (by omega) (by omega)]; omega
  have hvc : cut (nth [] (raw (lim V)) p) 0 1 [.int .u32 (v1 : Int)] := by
   have := cut_raw (l := lim V) (i := p) (by omega)
   rw [hvl (by omega)] at this; exact this
  rw [raw_length, hwp, Int.toNat_natCast]
  refine ⟨⟨by omega, by omega, raw_len1 (by omega)⟩, _, hvc, ⟨by omega, by omega, by unfold room; omega⟩, _, hcU, ?_⟩
  rw [hws, hwv]
  simp only [raw_length, List.length_replicate, Int.toNat_natCast]
  refine ⟨⟨by omega, by omega, by omega⟩, ⟨(lim U).length, [], 0, ?_, qr.start hV0⟩, ?_⟩
  ·rw [List.take_replicate, Nat.min_eq_left hlU, raw_replicate, List.append_nil, i64w (by omega) (by omega)]; rfl
  rintro es es_3 n_2 ⟨kk, ql, R, he, hq⟩
  simp only [List.cons.injEq, D.sl.injEq, D.int.injEq, true_and, and_true] at he
  obtain ⟨rfl, rfl, rfl⟩ := he
  refine brd (fun h => ?_) (fun h => ?_)
  ·obtain ⟨k, rfl⟩ : ∃ k, kk = k + 1 := ⟨kk - 1, by omega⟩
   have hk1 : ((k + 1 : Nat) : Int) - 1 = (k : Int) := by omega
   have hkU : k < (lim U).length := by have := hq.1; omega
   obtain ⟨c, hc⟩ : ∃ c, (lim U)[k] = c := ⟨_, rfl⟩
   have hcB : c < 1000000000 := hc ▸ (lim_limbs U).get hkU
   have hRV : R < V := hq.2.2.1
   obtain ⟨T, hT⟩ : ∃ T, T = c + 1000000000 * R := ⟨_, rfl⟩
   have hnext := hq.next hcB (fun _ => hc)
   rw [← hT] at hnext
   have hTV : T < 1000000000 * V := hT ▸ lt_round hcB hRV
   have hTq : T / V < 1000000000 := hT ▸ div_lt_round hcB hRV
   have hlR : (lim R).length ≤ (lim V).length := ldif (Nat.le_of_lt hRV)
   have hlT : (lim T).length ≤ (lim V).length + 1 := by
    refine Nat.le_trans (ldif (Nat.le_of_lt hTV)) ?_
    rw [Nat.mul_comm]
    apply lim_length_le
    rw [hp, Nat.pow_succ]
    exact Nat.mul_lt_mul_of_pos_right hVB (by omega)
   have htrim : Gives CC 224 [.c (.sl ([D.int .u32 (c : Int)] :: raw (lim R)))] [.c (.sl (raw (lim T)))] := by
    have h := qtrim_ok (l := c :: lim R) ((lim_limbs R).cons hcB) (by rw [List.length_cons]; omega)
    rw [show val (c :: lim R) = T by show c + 1000000000 * val (lim R) = T; rw [lim_val, hT]] at h
    exact h
   have hcut : cut (nth [] (raw (lim U)) k) 0 1 [.int .u32 (c : Int)] := by
    have h := cut_raw (l := lim U) (i := k) hkU
    rw [hc] at h; exact h
   obtain ⟨hH1, hH0⟩ := high_lt hTV hVB
   rw [hk1, Int.toNat_natCast]
   refine ⟨⟨by omega, by omega, raw_len1 hkU⟩, _, hcut, ⟨by rw [raw_length]; unfold room; omega, lens_raw _⟩, _, htrim, ?_⟩
   simp only [raw_length]
   rw [hp]
   refine ⟨brd (fun h2 => ?_) (fun h2 => ?_), ?_⟩
   ·have hlt : p + 1 < (lim T).length := by omega
    have hcu := cut_raw (l := lim T) (i := p + 1) hlt
    have hg := lim_getD (p + 1) T
    rw [Nat.mod_eq_of_lt hH1, List.getD, List.getElem?_eq_getElem hlt, Option.getD_some] at hg
    rw [hg] at hcu
    refine ⟨⟨by omega, by omega, raw_len1 hlt⟩, _, hcu, T, rfl, ?_⟩
    generalize T / 1000000000 ^ (p + 1) = t at *
    rw [u64w (n := (t : Int)) (by omega) (by omega), u64w (by omega) (by omega)]; rfl
   ·have := lim_short (n := T) (i := p + 1) (by omega)
    exact ⟨T, rfl, by rw [this]; rfl⟩
   rintro n ⟨T', h2, h3⟩
   simp only [List.cons.injEq, D.sl.injEq, D.int.injEq, true_and, and_true] at h2 h3
   obtain rfl := lraw_inj h2
   subst h3
   refine ⟨brd (fun h2 => ?_) (fun h2 => ?_), ?_⟩
   ·have hlt : p < (lim T).length := by omega
    have hcu := cut_raw (l := lim T) (i := p) hlt
    have hg := lim_getD p T
    rw [List.getD, List.getElem?_eq_getElem hlt, Option.getD_some] at hg
    rw [hg] at hcu
    refine ⟨⟨by omega, by omega, raw_len1 hlt⟩, _, hcu, T, rfl, ?_⟩
    have hst := high_step (R := T) (n := p)
    have hm := Nat.mod_lt (T / 1000000000 ^ p) (show 1000000000 > 0 by omega)
    generalize T / 1000000000 ^ (p + 1) = t at *
    generalize T / 1000000000 ^ p = t2 at *
    generalize t2 % 1000000000 = t3 at *
    rw [u64w (n := (t3 : Int)) (by omega) (by omega), u64w (by omega) (by omega), ← hst]; rfl
   ·have h4 := lim_short (n := T) (i := p) (by omega)
    have hst := high_step (R := T) (n := p)
    rw [h4, Nat.zero_mod, Nat.add_zero] at hst
    exact ⟨T, rfl, by rw [h4, hst]⟩
   rintro n ⟨T', h2, h3⟩
   simp only [List.cons.injEq, D.sl.injEq, D.int.injEq, true_and, and_true] at h2 h3
   obtain rfl := lraw_inj h2
   subst h3
   have hup : T / V ≤ T / 1000000000 ^ p / v1 := div_up (vl := V - v1 * 1000000000 ^ p) (Nat.add_sub_cancel' hvP).symm (Nat.mul_pos hv0 (Nat.pow_pos (by omega)))
   have htd : Int.tdiv ((T / 1000000000 ^ p : Nat) : Int) (v1 : Int) = ((T / 1000000000 ^ p / v1 : Nat) : Int) := (Int.ofNat_tdiv _ _).symm
   have hle : T / 1000000000 ^ p / v1 ≤ T / 1000000000 ^ p := Nat.div_le_self _ _
   rw [htd]
   generalize T / 1000000000 ^ p / v1 = G at *
   generalize T / 1000000000 ^ p = H at *
   rw [u64w (n := (G : Int)) (by omega) (by omega)]
   refine ⟨by omega, brd (fun h2 => ?_) (fun h2 => ?_), ?_⟩
   ·exact ⟨T, 999999999, rfl, rfl, by generalize T / V = q at *; omega, by omega⟩
   ·exact ⟨T, G, rfl, rfl, hup, by omega⟩
   rintro n ⟨T', g, h2, h3, hg1, hg2⟩
   simp only [List.cons.injEq, D.sl.injEq, D.int.injEq, true_and, and_true] at h2 h3
   obtain rfl := lraw_inj h2
   subst h3
   have hby := qby_ok (lim_limbs V) (d := g) (by omega) (by omega)
   rw [lim_val] at hby
   rw [u32w (n := (g : Int)) (by omega) (by omega)]
   refine ⟨_, hby, ⟨T, g, rfl, rfl, hg1, hg2⟩, ?_⟩
   rintro n es_6 ⟨T', g', h2, h3, hg1', hg2'⟩
   simp only [nth, List.cons.injEq, D.sl.injEq, D.int.injEq, true_and, and_true] at h2 h3
   obtain rfl := lraw_inj h2
   obtain ⟨rfl, rfl⟩ := h3
   have hlg : (lim (V * g')).length ≤ (lim V).length + 1 := lim_mul_len (by omega)
   refine ⟨_, qcompare_ok (x := V * g') (y := T) (by omega) (by omega), brd (fun h2 => ?_) (fun h2 => ?_)⟩
   ·have hgt : T < V * g' := by
     unfold cmpN at h2
     split at h2
     ·omega
     ·split at h2
      ·assumption
      ·omega
    have hg0 : T / V < g' := mul_gt hV0 hgt
    have hg00 : 0 < g' := Nat.lt_of_le_of_lt (Nat.zero_le _) hg0
    have hg01 : T / V ≤ g' - 1 := Nat.le_sub_one_of_lt hg0
    clear hg0 hg1 hg1' hTq
    have hm := qminus_ok (lim_limbs (V * g')) (lim_limbs V) (by omega) (by rw [lim_val, lim_val]; exact Nat.le_mul_of_pos_right _ hg00)
    rw [lim_val, lim_val, show V * g' - V = V * (g' - 1) by rw [Nat.mul_sub_one]] at hm
    have hw : IntKind.wrap .u64 ((g' : Int) - 1) = ((g' - 1 : Nat) : Int) := by rw [u64w (by omega) (by omega)]; omega
    rw [hw]
    exact ⟨_, hm, ⟨T, g' - 1, rfl, rfl, hg01, by omega⟩, by simp only [nth, toI]; omega⟩
   ·have hle2 : V * g' ≤ T := by
     unfold cmpN at h2
     split at h2
     ·omega
     ·split at h2
      ·omega
      ·omega
    have hge := mul_le hV0 hle2 hg1'
    have hm := qminus_ok (lim_limbs T) (lim_limbs (V * g')) (by omega) (by rw [lim_val, lim_val]; exact hle2)
    rw [lim_val, lim_val, hge, sub_mod] at hm
    rw [hge]
    have hq32 : IntKind.wrap .u32 ((T / V : Nat) : Int) = ((T / V : Nat) : Int) := by
     have h5 := hTq
     generalize T / V = q at h5
     exact u32w (by omega) (by omega)
    rw [hq32, upd_raw (by rw [List.length_append, List.length_replicate]; omega), set_next]
    have hw : IntKind.wrap .i64 ((k : Int) - 1) = (k : Int) - 1 := i64w (by omega) (by omega)
    rw [hw]
    refine ⟨_, hm, ⟨by omega, by simp only [List.length_append, List.length_replicate]; omega⟩, by omega, ⟨k, _, _, rfl, hnext⟩, ?_⟩
    simp only [nth, toI]; omega
  ·obtain rfl : kk = 0 := by omega
   have hqf := hq.fin
   rw [lim_val] at hqf
   have e1 : U / V = x / y := by rw [hU, hV]; exact Nat.mul_div_mul_right _ _ hs0
   have e2 : U % V = x % y * s := by rw [hU, hV]; exact Nat.mul_mod_mul_right _ _ _
   rw [e1, e2] at hqf
   obtain ⟨hv, hR⟩ := hqf
   have hRV : R < V := hq.2.2.1
   have hlR : (lim R).length ≤ (lim V).length := ldif (Nat.le_of_lt hRV)
   have hlq : ql.length = (lim U).length := by have := hq.1; omega
   have hLq : Limbs ql := hq.2.1
   simp only [raw_length]
   refine ⟨⟨by omega, by omega, by unfold room; omega⟩, ⟨R, (lim R).length, [], 0, rfl, ?_, qr.start hs0⟩, ?_⟩
   ·rw [List.append_nil, raw_replicate, i64w (by omega) (by omega)]; rfl
   rintro es_4 n_3 n_4 ⟨R', kk, ll, t, h2, h3, hr⟩
   simp only [List.cons.injEq, D.sl.injEq, D.int.injEq, true_and, and_true] at h2 h3
   obtain rfl := lraw_inj h2
   obtain ⟨rfl, rfl, rfl⟩ := h3
   refine brd (fun h4 => ?_) (fun h4 => ?_)
   ·obtain ⟨k, rfl⟩ : ∃ k, kk = k + 1 := ⟨kk - 1, by omega⟩
    have hk1 : ((k + 1 : Nat) : Int) - 1 = (k : Int) := by omega
    have hkU : k < (lim R).length := by have := hr.1; omega
    obtain ⟨c, hc⟩ : ∃ c, (lim R)[k] = c := ⟨_, rfl⟩
    have hcB : c < 1000000000 := hc ▸ (lim_limbs R).get hkU
    have hts : t < s := hr.2.2.1
    have hnext := hr.next hcB (fun _ => hc)
    have hq := div_lt_round hcB hts
    have hcut : cut (nth [] (raw (lim R)) k) 0 1 [.int .u32 (c : Int)] := by
     have h := cut_raw (l := lim R) (i := k) hkU
     rw [hc] at h; exact h
    have hw : IntKind.wrap .u64 (IntKind.wrap .u64 ((t : Int) * 1000000000) + IntKind.wrap .u64 (c : Int)) = ((c + 1000000000 * t : Nat) : Int) := by
     rw [u64w (n := (c : Int)) (by omega) (by omega), u64w (n := (t : Int) * 1000000000) (by omega) (by omega), u64w (by omega) (by omega)]; omega
    generalize c + 1000000000 * t = T at *
    have hd := (Int.ofNat_tdiv T s).symm
    have hm := (Int.ofNat_tmod T s).symm
    rw [hk1, Int.toNat_natCast]
    refine ⟨⟨by omega, by omega, raw_len1 hkU⟩, _, hcut, ?_⟩
    rw [hw]
    rw [hd, hm]
    have hq32 : IntKind.wrap .u32 (IntKind.wrap .u64 ((T / s : Nat) : Int)) = ((T / s : Nat) : Int) := by
     have h5 := hq
     generalize T / s = q at h5
     rw [u64w (by omega) (by omega)]
     exact u32w (by omega) (by omega)
    rw [hq32, upd_raw (by rw [List.length_append, List.length_replicate]; omega), set_next]
    have hw : IntKind.wrap .i64 ((k : Int) - 1) = (k : Int) - 1 := i64w (by omega) (by omega)
    rw [hw]
    refine ⟨by omega, ⟨by omega, by simp only [raw_length, List.length_append, List.length_replicate]; omega⟩, by omega, by omega, ⟨R, k, _, _, rfl, rfl, hnext⟩, ?_⟩
    simp only [nth, toI]; omega
   ·obtain rfl : kk = 0 := by omega
    have hrf := hr.fin
    rw [lim_val, hR, Nat.mul_div_cancel _ hs0] at hrf
    have ho := qtrim_ok hLq (by omega)
    rw [hv] at ho
    have hl := qtrim_ok hr.2.1 (by have := hr.1; omega)
    rw [hrf.1] at hl
    exact ⟨_, ho, _, hl, rfl⟩
end Eng
end
