/- The verification conditions of functions, printed by a program (vcgen.py) and checked by the kernel. -/
import Derived.Test.YtbehlcfelmbmlaaGreatDoorCtxB
import Derived.KernelRfl
section
open Go Go.Proofs Eng
set_option maxRecDepth 1000000
namespace Eng
theorem vc_unit (Gv : Nat → List A → List A → Prop)  (Q : List A → Prop) :
 wpF CC Gv (fun _ => ⟨[], [], fun _ _ => True, fun _ => 0⟩) Tryz.f187 [] Q = (
 ∃ b es, Gv 136 [A.c (D.int .i64 (1 : Int))] [A.ag [D.bool b, D.sl es]] ∧ Q [A.ag [D.bool b, D.sl es]]) := by kernel_rfl
theorem vc_whole (Gv : Nat → List A → List A → Prop) (p : Bool) (es : List (List D)) (Q : List A → Prop) :
 wpF CC Gv (fun _ => ⟨[], [], fun _ _ => True, fun _ => 0⟩) Tryz.f219 [.ag [.bool p, .sl es]] Q = (
 ∃ b es_1, Gv 187 [] [A.ag [D.bool b, D.sl es_1]] ∧ Q [A.ag [D.bool p, D.sl es, D.bool b, D.sl es_1]]) := by kernel_rfl
theorem vc_RFromInt64 (Gv : Nat → List A → List A → Prop) (n : Int) (Q : List A → Prop) :
 wpF CC Gv (fun _ => ⟨[], [], fun _ _ => True, fun _ => 0⟩) Tryz.f121 [.c (.int .i64 n)] Q = (
 ∃ b es,
 Gv 136 [A.c (D.int .i64 n)] [A.ag [D.bool b, D.sl es]] ∧
 ∃ b_1 es_1 b_2 es_2,
 Gv 219 [A.ag [D.bool b, D.sl es]] [A.ag [D.bool b_1, D.sl es_1, D.bool b_2, D.sl es_2]] ∧ Q [A.ag [D.bool b_1, D.sl es_1, D.bool b_2, D.sl es_2]]) := by kernel_rfl
theorem vc_exact (Gv : Nat → List A → List A → Prop) (p q : Bool) (es fs : List (List D)) (Q : List A → Prop) :
 wpF CC Gv (fun _ => ⟨[], [], fun _ _ => True, fun _ => 0⟩) Tryz.f188 [.ag [.bool p, .sl es], .ag [.bool q, .sl fs]] Q = (
 ∃ b es_1 b_1 es_2 n,
 Gv 137 [A.ag [D.bool p, D.sl es], A.ag [D.bool q, D.sl fs]] [A.ag [D.bool b, D.sl es_1], A.ag [D.bool b_1, D.sl es_2], A.c (D.int .i64 n)] ∧
 Q [A.ag [D.bool b, D.sl es_1]]) := by kernel_rfl
theorem vc_reduce (Gv : Nat → List A → List A → Prop) (p q : Bool) (es fs : List (List D)) (Q : List A → Prop) :
 wpF CC Gv (fun _ => ⟨[], [], fun _ _ => True, fun _ => 0⟩) Tryz.f100 [.ag [.bool p, .sl es], .ag [.bool q, .sl fs]] Q = (
 ∃ n,
 Gv 138 [A.ag [D.bool q, D.sl fs]] [A.c (D.int .i64 n)] ∧
 br (toB (D.bool (decide (n < (0 : Int)))))
 (∃ b es_1,
 Gv 185 [A.ag [D.bool p, D.sl es]] [A.ag [D.bool b, D.sl es_1]] ∧
 ∃ b_1 es,
 Gv 185 [A.ag [D.bool q, D.sl fs]] [A.ag [D.bool b_1, D.sl es]] ∧
 ∃ b_2 es_2,
 Gv 186 [A.ag [D.bool b, D.sl es_1], A.ag [D.bool b_1, D.sl es]] [A.ag [D.bool b_2, D.sl es_2]] ∧
 ∃ b_3 es_3,
 Gv 187 [] [A.ag [D.bool b_3, D.sl es_3]] ∧
 ∃ n,
 Gv 183 [A.ag [D.bool b_2, D.sl es_2], A.ag [D.bool b_3, D.sl es_3]] [A.c (D.int .i64 n)] ∧
 br (toB (D.bool (n != (0 : Int))))
 (∃ b_4 es_4,
 Gv 188 [A.ag [D.bool b, D.sl es_1], A.ag [D.bool b_2, D.sl es_2]] [A.ag [D.bool b_4, D.sl es_4]] ∧
 ∃ b es_5,
 Gv 188 [A.ag [D.bool b_1, D.sl es], A.ag [D.bool b_2, D.sl es_2]] [A.ag [D.bool b, D.sl es_5]] ∧
 Q [A.ag [D.bool b_4, D.sl es_4, D.bool b, D.sl es_5]])
 (Q [A.ag [D.bool b, D.sl es_1, D.bool b_1, D.sl es]]))
 (∃ b es_1,
 Gv 186 [A.ag [D.bool p, D.sl es], A.ag [D.bool q, D.sl fs]] [A.ag [D.bool b, D.sl es_1]] ∧
 ∃ b_1 es_2,
 Gv 187 [] [A.ag [D.bool b_1, D.sl es_2]] ∧
 ∃ n,
 Gv 183 [A.ag [D.bool b, D.sl es_1], A.ag [D.bool b_1, D.sl es_2]] [A.c (D.int .i64 n)] ∧
 br (toB (D.bool (n != (0 : Int))))
 (∃ b_2 es_3,
 Gv 188 [A.ag [D.bool p, D.sl es], A.ag [D.bool b, D.sl es_1]] [A.ag [D.bool b_2, D.sl es_3]] ∧
 ∃ b_3 es,
 Gv 188 [A.ag [D.bool q, D.sl fs], A.ag [D.bool b, D.sl es_1]] [A.ag [D.bool b_3, D.sl es]] ∧
 Q [A.ag [D.bool b_2, D.sl es_3, D.bool b_3, D.sl es]])
 (Q [A.ag [D.bool p, D.sl es, D.bool q, D.sl fs]]))) := by kernel_rfl
theorem vc_RSign (Gv : Nat → List A → List A → Prop) (p q : Bool) (es fs : List (List D)) (Q : List A → Prop) :
 wpF CC Gv (fun _ => ⟨[], [], fun _ _ => True, fun _ => 0⟩) Tryz.f148 [.ag [.bool p, .sl es, .bool q, .sl fs]] Q = (
 ∃ n, Gv 138 [A.ag [D.bool p, D.sl es]] [A.c (D.int .i64 n)] ∧ Q [A.c (D.int .i64 n)]) := by kernel_rfl
theorem vc_cmpCompare (Gv : Nat → List A → List A → Prop) (m n : Int) (Q : List A → Prop) :
 wpF CC Gv (fun _ => ⟨[], [], fun _ _ => True, fun _ => 0⟩) Tryz.f182 [.c (.int .i64 m), .c (.int .i64 n)] Q = (
 ∃ b,
 Gv 265 [A.c (D.int .i64 m)] [A.c (D.bool b)] ∧
 ∃ b_1,
 Gv 265 [A.c (D.int .i64 n)] [A.c (D.bool b_1)] ∧
 br b (br b_1 (Q [A.c (D.int .i64 (0 : Int))]) (Q [A.c (D.int .i64 (-1 : Int))]))
 (br b_1 (Q [A.c (D.int .i64 (1 : Int))])
 (br (toB (D.bool (decide (m < n)))) (Q [A.c (D.int .i64 (-1 : Int))])
 (br (toB (D.bool (decide (m > n)))) (Q [A.c (D.int .i64 (1 : Int))]) (Q [A.c (D.int .i64 (0 : Int))]))))) := by kernel_rfl
theorem vc_isNaN (Gv : Nat → List A → List A → Prop) (m : Int) (Q : List A → Prop) :
 wpF CC Gv (fun _ => ⟨[], [], fun _ _ => True, fun _ => 0⟩) Tryz.f265 [.c (.int .i64 m)] Q = (
 Q [A.c (D.bool (m != m))]) := by kernel_rfl
theorem vc_RCmp (Gv : Nat → List A → List A → Prop) (p q r s : Bool) (es fs gs hs : List (List D)) (Q : List A → Prop) :
 wpF CC Gv (fun _ => ⟨[], [], fun _ _ => True, fun _ => 0⟩) Tryz.f98 [.ag [.bool p, .sl es, .bool q, .sl fs], .ag [.bool r, .sl gs, .bool s, .sl hs]] Q = (
 ∃ n,
 Gv 148 [A.ag [D.bool p, D.sl es, D.bool q, D.sl fs]] [A.c (D.int .i64 n)] ∧
 ∃ n_1,
 Gv 148 [A.ag [D.bool r, D.sl gs, D.bool s, D.sl hs]] [A.c (D.int .i64 n_1)] ∧
 ∃ n_2,
 Gv 182 [A.c (D.int .i64 n), A.c (D.int .i64 n_1)] [A.c (D.int .i64 n_2)] ∧
 br (toB (D.bool (n_2 != (0 : Int)))) (Q [A.c (D.int .i64 n_2)])
 (∃ b es_1,
 Gv 101 [A.ag [D.bool p, D.sl es], A.ag [D.bool s, D.sl hs]] [A.ag [D.bool b, D.sl es_1]] ∧
 ∃ b_1 es,
 Gv 101 [A.ag [D.bool r, D.sl gs], A.ag [D.bool q, D.sl fs]] [A.ag [D.bool b_1, D.sl es]] ∧
 ∃ n, Gv 183 [A.ag [D.bool b, D.sl es_1], A.ag [D.bool b_1, D.sl es]] [A.c (D.int .i64 n)] ∧ Q [A.c (D.int .i64 n)])) := by kernel_rfl
theorem vc_RAdd (Gv : Nat → List A → List A → Prop) (p q r s : Bool) (es fs gs hs : List (List D)) (Q : List A → Prop) :
 wpF CC Gv (fun _ => ⟨[], [], fun _ _ => True, fun _ => 0⟩) Tryz.f180 [.ag [.bool p, .sl es, .bool q, .sl fs], .ag [.bool r, .sl gs, .bool s, .sl hs]] Q = (
 ∃ n,
 Gv 183 [A.ag [D.bool q, D.sl fs], A.ag [D.bool s, D.sl hs]] [A.c (D.int .i64 n)] ∧
 br (toB (D.bool (n == (0 : Int))))
 (∃ b es_1,
 Gv 235 [A.ag [D.bool p, D.sl es], A.ag [D.bool r, D.sl gs]] [A.ag [D.bool b, D.sl es_1]] ∧
 ∃ b_1 es b_2 es_2,
 Gv 100 [A.ag [D.bool b, D.sl es_1], A.ag [D.bool q, D.sl fs]] [A.ag [D.bool b_1, D.sl es, D.bool b_2, D.sl es_2]] ∧
 Q [A.ag [D.bool b_1, D.sl es, D.bool b_2, D.sl es_2]])
 (∃ b es_1,
 Gv 101 [A.ag [D.bool p, D.sl es], A.ag [D.bool s, D.sl hs]] [A.ag [D.bool b, D.sl es_1]] ∧
 ∃ b_1 es,
 Gv 101 [A.ag [D.bool r, D.sl gs], A.ag [D.bool q, D.sl fs]] [A.ag [D.bool b_1, D.sl es]] ∧
 ∃ b_2 es_2,
 Gv 235 [A.ag [D.bool b, D.sl es_1], A.ag [D.bool b_1, D.sl es]] [A.ag [D.bool b_2, D.sl es_2]] ∧
 ∃ b es,
 Gv 101 [A.ag [D.bool q, D.sl fs], A.ag [D.bool s, D.sl hs]] [A.ag [D.bool b, D.sl es]] ∧
 ∃ b_3 es_3 b_4 es_4,
 Gv 100 [A.ag [D.bool b_2, D.sl es_2], A.ag [D.bool b, D.sl es]] [A.ag [D.bool b_3, D.sl es_3, D.bool b_4, D.sl es_4]] ∧
 Q [A.ag [D.bool b_3, D.sl es_3, D.bool b_4, D.sl es_4]])) := by kernel_rfl
theorem vc_RSub (Gv : Nat → List A → List A → Prop) (p q r s : Bool) (es fs gs hs : List (List D)) (Q : List A → Prop) :
 wpF CC Gv (fun _ => ⟨[], [], fun _ _ => True, fun _ => 0⟩) Tryz.f97 [.ag [.bool p, .sl es, .bool q, .sl fs], .ag [.bool r, .sl gs, .bool s, .sl hs]] Q = (
 ∃ b es_1 b_1 es_2,
 Gv 181 [A.ag [D.bool r, D.sl gs, D.bool s, D.sl hs]] [A.ag [D.bool b, D.sl es_1, D.bool b_1, D.sl es_2]] ∧
 ∃ b_2 es_3 b_3 es_4,
 Gv 180 [A.ag [D.bool p, D.sl es, D.bool q, D.sl fs], A.ag [D.bool b, D.sl es_1, D.bool b_1, D.sl es_2]]
 [A.ag [D.bool b_2, D.sl es_3, D.bool b_3, D.sl es_4]] ∧
 Q [A.ag [D.bool b_2, D.sl es_3, D.bool b_3, D.sl es_4]]) := by kernel_rfl
theorem vc_RNeg (Gv : Nat → List A → List A → Prop) (p q : Bool) (es fs : List (List D)) (Q : List A → Prop) :
 wpF CC Gv (fun _ => ⟨[], [], fun _ _ => True, fun _ => 0⟩) Tryz.f181 [.ag [.bool p, .sl es, .bool q, .sl fs]] Q = (
 ∃ b es_1, Gv 185 [A.ag [D.bool p, D.sl es]] [A.ag [D.bool b, D.sl es_1]] ∧ Q [A.ag [D.bool b, D.sl es_1, D.bool q, D.sl fs]]) := by kernel_rfl
theorem vc_RMul (Gv : Nat → List A → List A → Prop) (p q r s : Bool) (es fs gs hs : List (List D)) (Q : List A → Prop) :
 wpF CC Gv (fun _ => ⟨[], [], fun _ _ => True, fun _ => 0⟩) Tryz.f50 [.ag [.bool p, .sl es, .bool q, .sl fs], .ag [.bool r, .sl gs, .bool s, .sl hs]] Q = (
 ∃ b es_1,
 Gv 101 [A.ag [D.bool p, D.sl es], A.ag [D.bool r, D.sl gs]] [A.ag [D.bool b, D.sl es_1]] ∧
 ∃ b_1 es,
 Gv 101 [A.ag [D.bool q, D.sl fs], A.ag [D.bool s, D.sl hs]] [A.ag [D.bool b_1, D.sl es]] ∧
 ∃ b_2 es_2 b_3 es_3,
 Gv 100 [A.ag [D.bool b, D.sl es_1], A.ag [D.bool b_1, D.sl es]] [A.ag [D.bool b_2, D.sl es_2, D.bool b_3, D.sl es_3]] ∧
 Q [A.ag [D.bool b_2, D.sl es_2, D.bool b_3, D.sl es_3]]) := by kernel_rfl
end Eng
end

section
namespace Eng
open Go Go.Proofs
set_option maxRecDepth 100000
def cR (r : Rat) : List D := cI r.num ++ cI (r.den : Int)
def encR (r : Rat) : A := .ag (cR r)
theorem sm_one : Sm 1 := by unfold Sm; decide
theorem runit_ok : Gives CC 187 [] [encI 1] := by
 refine wpF_ok (anns := fun _ => ⟨[], [], fun _ _ => True, fun _ => 0⟩) mixedT Tryz.func187 ?_
 rw [vc_unit]
 exact ⟨_, _, up (iFromInt64_ok (n := 1) (by omega) (by omega)), rfl⟩
theorem rexact_ok (hd : DivOk) {x y : Int} (hx : Sm x) (hy : Sm y) (hy0 : 0 < y) : Gives CC 188 [encI x, encI y] [encI (x / y)] := by
 refine wpF_ok (anns := fun _ => ⟨[], [], fun _ _ => True, fun _ => 0⟩) mixedT Tryz.func188 ?_
 rw [show encI x = .ag (cI x) from rfl, show encI y = .ag (cI y) from rfl, cI, cI, vc_exact]
 exact ⟨_, _, _, _, _, iDivMod_ok hd hx hy hy0, rfl⟩
theorem sm_neg {x : Int} (h : Sm x) : Sm (-x) := by unfold Sm at *; rw [Int.natAbs_neg]; exact h
theorem cmp_one {g : Nat} (hg : 0 < g) : (cmpZ (g : Int) 1 != 0) = decide (g ≠ 1) := by
 unfold cmpZ
 by_cases h : g = 1
 ·subst h; rfl
 ·rw [if_neg (by omega), if_pos (by omega), decide_eq_true h]; rfl
theorem divInt_nd {n d : Int} (hd : 0 < d) : (Rat.divInt n d).num = n / (Nat.gcd n.natAbs d.natAbs : Nat) ∧ ((Rat.divInt n d).den : Int) = d / (Nat.gcd n.natAbs d.natAbs : Nat) := by
 have e : d.gcd n = Nat.gcd n.natAbs d.natAbs := by rw [Int.gcd_comm]; rfl
 refine ⟨?_, ?_⟩
 ·rw [Rat.num_divInt, Int.sign_eq_one_of_pos hd, Int.one_mul, e]
 ·rw [Rat.den_divInt, if_neg (by omega), e]
  obtain ⟨k, rfl⟩ : ∃ k : Nat, d = (k : Int) := ⟨d.toNat, by omega⟩
  rw [Int.natAbs_natCast, Int.natCast_ediv]
theorem encR_divInt {n d : Int} (hd : 0 < d) : encR (Rat.divInt n d) = .ag (cI (n / (Nat.gcd n.natAbs d.natAbs : Nat)) ++ cI (d / (Nat.gcd n.natAbs d.natAbs : Nat))) := by
 unfold encR cR
 rw [(divInt_nd hd).1, (divInt_nd hd).2]
theorem rreduce_ok (hd : DivOk) {x y : Int} (hx : Sm x) (hy : Sm y) (hy0 : y ≠ 0) : Gives CC 100 [encI x, encI y] [encR (Rat.divInt x y)] := by
 refine wpF_ok (anns := fun _ => ⟨[], [], fun _ _ => True, fun _ => 0⟩) mixedT Tryz.func100 ?_
 have hS := up (iSign_ok y)
 have hmain : ∀ {u v : Int}, Sm u → Sm v → 0 < v → ∃ g : Nat, g = Nat.gcd u.natAbs v.natAbs ∧ Gives CC 186 [encI u, encI v] [encI (g : Int)] ∧ Gives CC 183 [encI (g : Int), encI 1] [.c (.int .i64 (cmpZ g 1))] ∧ 0 < g ∧ Gives CC 188 [encI u, encI (g : Int)] [encI (u / g)] ∧ Gives CC 188 [encI v, encI (g : Int)] [encI (v / g)] := by
  intro u v hu hv hv0
  refine ⟨_, rfl, iGCD_ok hd hu hv, ?_⟩
  have hgp : 0 < Nat.gcd u.natAbs v.natAbs := Nat.gcd_pos_of_pos_right _ (by omega)
  have hgs : Sm (Nat.gcd u.natAbs v.natAbs : Nat) := smN.2 (Nat.lt_of_le_of_lt (Nat.gcd_le_right _ (by omega)) hv)
  exact ⟨up (iCmp_ok hgs sm_one), hgp, rexact_ok hd hu hgs (by omega), rexact_ok hd hv hgs (by omega)⟩
 rw [show encI x = .ag (cI x) from rfl, show encI y = .ag (cI y) from rfl]
 rw [cI, cI, vc_reduce]
 refine ⟨_, hS, ?_⟩
 refine brd (fun h => ?_) (fun h => ?_)
 ·have hy1 : y < 0 := by
   unfold sgn at h
   split at h
   ·assumption
   ·split at h <;> omega
  obtain ⟨g, hg, h1, h2, h3, h4, h5⟩ := hmain (sm_neg hx) (sm_neg hy) (by omega)
  refine ⟨_, _, up (iNeg_ok hx), _, _, up (iNeg_ok hy), _, _, h1, _, _, runit_ok, _, h2, ?_⟩
  have he : encR (Rat.divInt x y) = .ag (cI ((-x) / (g : Int)) ++ cI ((-y) / (g : Int))) := by
   have : Rat.divInt x y = Rat.divInt (-x) (-y) := by rw [Rat.neg_divInt_neg]
   rw [this, encR_divInt (by omega), hg]
  refine brb (fun h => ?_) (fun h => ?_)
  ·refine ⟨_, _, h4, _, _, h5, ?_⟩
   rw [he]; rfl
  ·rw [cmp_one h3] at h
   have : g = 1 := by simpa using h
   rw [he, this]
   rw [show ((1 : Nat) : Int) = 1 from rfl, Int.ediv_one, Int.ediv_one]; rfl
 ·have hy1 : 0 < y := by
   unfold sgn at h
   split at h
   ·omega
   ·omega
  obtain ⟨g, hg, h1, h2, h3, h4, h5⟩ := hmain hx hy hy1
  refine ⟨_, _, h1, _, _, runit_ok, _, h2, ?_⟩
  have he : encR (Rat.divInt x y) = .ag (cI (x / (g : Int)) ++ cI (y / (g : Int))) := by
   rw [encR_divInt hy1, hg]
  refine brb (fun h => ?_) (fun h => ?_)
  ·refine ⟨_, _, h4, _, _, h5, ?_⟩
   rw [he]; rfl
  ·rw [cmp_one h3] at h
   have : g = 1 := by simpa using h
   rw [he, this]
   rw [show ((1 : Nat) : Int) = 1 from rfl, Int.ediv_one, Int.ediv_one]; rfl
end Eng
end

section
namespace Eng
open Go Go.Proofs
set_option maxRecDepth 100000
def halfN : Nat := (1000000000 ^ 100) ^ 4
def Sq (z : Int) : Prop := z.natAbs < halfN
def Sr (r : Rat) : Prop := Sq r.num ∧ Sq (r.den : Int)
theorem half_top : halfN * halfN * 2 ≤ topN := by decide
theorem Sq.sm {z : Int} (h : Sq z) : Sm z := by
 have h0 : halfN ≤ topN := by decide
 exact Nat.lt_of_lt_of_le h h0
theorem Sq.mul {x y : Int} (hx : Sq x) (hy : Sq y) : Sm (x * y) := by
 unfold Sm; rw [Int.natAbs_mul]
 have := Nat.mul_lt_mul'' hx hy
 have := half_top
 omega
theorem Sq.mul_add {a b c d : Int} (ha : Sq a) (hb : Sq b) (hc : Sq c) (hd : Sq d) : Sm (a * b + c * d) := by
 unfold Sm
 have h1 := Nat.mul_lt_mul'' ha hb
 have h2 := Nat.mul_lt_mul'' hc hd
 rw [← Int.natAbs_mul] at h1 h2
 have := half_top
 omega
theorem Sq.add {a b : Int} (ha : Sq a) (hb : Sq b) : Sm (a + b) := by
 unfold Sm
 have h0 : halfN * 2 ≤ topN := by decide
 have h1 : a.natAbs < halfN := ha
 have h2 : b.natAbs < halfN := hb
 omega
theorem den_pos (r : Rat) : 0 < (r.den : Int) := by have := r.den_pos; omega
theorem encR_cells (r : Rat) : encR r = .ag [.bool (decide (r.num < 0)), .sl (raw (lim r.num.natAbs)), .bool (decide ((r.den : Int) < 0)), .sl (raw (lim (r.den : Int).natAbs))] := rfl
theorem encI_cells (z : Int) : encI z = .ag [.bool (decide (z < 0)), .sl (raw (lim z.natAbs))] := rfl
theorem rSign_ok (r : Rat) : Gives CC 148 [encR r] [.c (.int .i64 (sgn r.num))] := by
 refine wpF_ok (anns := fun _ => ⟨[], [], fun _ _ => True, fun _ => 0⟩) mixedT Tryz.func148 ?_
 rw [encR_cells, vc_RSign]
 exact ⟨_, up (iSign_ok r.num), rfl⟩
theorem isNaN_ok (n : Int) : Gives CC 265 [.c (.int .i64 n)] [.c (.bool false)] := by
 refine wpF_ok (anns := fun _ => ⟨[], [], fun _ _ => True, fun _ => 0⟩) mixedT Tryz.func265 ?_
 rw [vc_isNaN]
 simp
theorem cmpCompare_ok (m n : Int) : Gives CC 182 [.c (.int .i64 m), .c (.int .i64 n)] [.c (.int .i64 (cmpZ m n))] := by
 refine wpF_ok (anns := fun _ => ⟨[], [], fun _ _ => True, fun _ => 0⟩) mixedT Tryz.func182 ?_
 rw [vc_cmpCompare]
 refine ⟨_, isNaN_ok m, _, isNaN_ok n, ?_⟩
 refine brb' (fun h => by simp at h) (fun _ => ?_)
 refine brb' (fun h => by simp at h) (fun _ => ?_)
 unfold cmpZ
 refine brd (fun h => ?_) (fun h => ?_)
 ·rw [if_pos h]
 ·rw [if_neg h]
  refine brd (fun h => ?_) (fun h => ?_)
  ·rw [if_pos h]
  ·rw [if_neg h]
def cmpR (x y : Rat) : Int := if x < y then -1 else if y < x then 1 else 0
theorem cmpR_eq (x y : Rat) : cmpR x y = cmpZ (x.num * y.den) (y.num * x.den) := by
 unfold cmpR cmpZ
 simp only [Rat.lt_iff]
theorem rCmp_ok {x y : Rat} (hx : Sr x) (hy : Sr y) : Gives CC 98 [encR x, encR y] [.c (.int .i64 (cmpR x y))] := by
 refine wpF_ok (anns := fun _ => ⟨[], [], fun _ _ => True, fun _ => 0⟩) mixedT Tryz.func98 ?_
 have h1 := rSign_ok x
 have h2 := rSign_ok y
 rw [encR_cells] at h1 h2
 rw [encR_cells, encR_cells, vc_RCmp]
 refine ⟨_, h1, _, h2, _, cmpCompare_ok _ _, ?_⟩
 have hm1 := up (iMul_ok hx.1.sm hy.2.sm)
 have hm2 := up (iMul_ok hy.1.sm hx.2.sm)
 have hc := up (iCmp_ok (hx.1.mul hy.2) (hy.1.mul hx.2))
 have px := den_pos x
 have py := den_pos y
 refine brb (fun h => ?_) (fun h => ?_)
 ·have e : cmpZ (sgn x.num) (sgn y.num) = cmpR x y := by
   rw [cmpR_eq]
   have hs : ∀ (z d : Int), 0 < d → sgn (z * d) = sgn z := by
    intro z d hd'
    unfold sgn
    rcases Int.lt_trichotomy z 0 with h | h | h
    ·have := Int.mul_neg_of_neg_of_pos h hd'
     rw [if_pos h, if_pos this]
    ·subst h; simp
    ·have := Int.mul_pos h hd'
     rw [if_neg (show ¬ z < 0 by omega), if_pos h, if_neg (show ¬ z * d < 0 by omega), if_pos this]
   rw [← hs x.num _ py, ← hs y.num _ px] at h ⊢
   generalize x.num * (y.den : Int) = a at *
   generalize y.num * (x.den : Int) = b at *
   unfold cmpZ sgn at *
   simp only [bne_iff_ne, ne_eq] at h
   split at h <;> split at h <;> (try split at h) <;> (try split at h) <;> split <;> (try split) <;> omega
  rw [e]
 ·rw [cmpR_eq]
  exact ⟨_, _, hm1, _, _, hm2, _, hc, rfl⟩
theorem rNeg_ok {x : Rat} (hx : Sr x) : Gives CC 181 [encR x] [encR (-x)] := by
 refine wpF_ok (anns := fun _ => ⟨[], [], fun _ _ => True, fun _ => 0⟩) mixedT Tryz.func181 ?_
 rw [encR_cells, vc_RNeg]
 refine ⟨_, _, up (iNeg_ok hx.1.sm), ?_⟩
 rw [encR_cells, Rat.neg_num]
 have : (-x).den = x.den := rfl
 rw [this]
theorem rMul_ok (hd : DivOk) {x y : Rat} (hx : Sr x) (hy : Sr y) : Gives CC 50 [encR x, encR y] [encR (x * y)] := by
 refine wpF_ok (anns := fun _ => ⟨[], [], fun _ _ => True, fun _ => 0⟩) mixedT Tryz.func50 ?_
 rw [encR_cells, encR_cells, vc_RMul]
 have px := den_pos x
 have py := den_pos y
 have := Int.mul_pos px py
 refine ⟨_, _, up (iMul_ok hx.1.sm hy.1.sm), _, _, up (iMul_ok hx.2.sm hy.2.sm), _, _, _, _, rreduce_ok hd (hx.1.mul hy.1) (hx.2.mul hy.2) (by omega), ?_⟩
 have e : x * y = Rat.divInt (x.num * y.num) (x.den * y.den) := by
  rw [← Rat.divInt_mul_divInt, Rat.num_divInt_den, Rat.num_divInt_den]
 rw [e]; rfl
theorem rAdd_ok (hd : DivOk) {x y : Rat} (hx : Sr x) (hy : Sr y) : Gives CC 180 [encR x, encR y] [encR (x + y)] := by
 refine wpF_ok (anns := fun _ => ⟨[], [], fun _ _ => True, fun _ => 0⟩) mixedT Tryz.func180 ?_
 rw [encR_cells, encR_cells, vc_RAdd]
 have px := den_pos x
 have py := den_pos y
 have hp := Int.mul_pos px py
 have e0 : x + y = Rat.divInt (x.num * y.den + y.num * x.den) (x.den * y.den) := by
  rw [← Rat.divInt_add_divInt _ _ (by omega) (by omega), Rat.num_divInt_den, Rat.num_divInt_den]
 refine ⟨_, up (iCmp_ok hx.2.sm hy.2.sm), ?_⟩
 refine brb (fun h => ?_) (fun h => ?_)
 ·have hxy : (x.den : Int) = y.den := by
   unfold cmpZ at h
   split at h
   ·simp at h
   ·split at h
    ·simp at h
    ·omega
  have e1 : x + y = Rat.divInt (x.num + y.num) x.den := by
   rw [e0, ← hxy, ← Int.add_mul, Rat.divInt_mul_right (by omega)]
  refine ⟨_, _, up (iAdd_ok hx.1.sm hy.1.sm), _, _, _, _, rreduce_ok hd (hx.1.add hy.1) hx.2.sm (by omega), ?_⟩
  rw [e1]; rfl
 ·refine ⟨_, _, up (iMul_ok hx.1.sm hy.2.sm), _, _, up (iMul_ok hy.1.sm hx.2.sm), _, _, up (iAdd_ok (hx.1.mul hy.2) (hy.1.mul hx.2)), _, _, up (iMul_ok hx.2.sm hy.2.sm), _, _, _, _, rreduce_ok hd (hx.1.mul_add hy.2 hy.1 hx.2) (hx.2.mul hy.2) (by omega), ?_⟩
  rw [e0]; rfl
theorem Sr.neg {x : Rat} (h : Sr x) : Sr (-x) := by
 refine ⟨?_, h.2⟩
 rw [Rat.neg_num]
 unfold Sq; rw [Int.natAbs_neg]; exact h.1
theorem rSub_ok (hd : DivOk) {x y : Rat} (hx : Sr x) (hy : Sr y) : Gives CC 97 [encR x, encR y] [encR (x - y)] := by
 refine wpF_ok (anns := fun _ => ⟨[], [], fun _ _ => True, fun _ => 0⟩) mixedT Tryz.func97 ?_
 rw [encR_cells, encR_cells, vc_RSub]
 refine ⟨_, _, _, _, rNeg_ok hy, _, _, _, _, rAdd_ok hd hx hy.neg, ?_⟩
 rw [Rat.sub_eq_add_neg]; rfl
theorem rFromInt64_ok {n : Int} (h1 : -9223372036854775808 ≤ n) (h2 : n < 9223372036854775808) : Gives CC 121 [.c (.int .i64 n)] [encR (n : Rat)] := by
 have hw : Gives CC 219 [encI n] [encR (n : Rat)] := by
  refine wpF_ok (anns := fun _ => ⟨[], [], fun _ _ => True, fun _ => 0⟩) mixedT Tryz.func219 ?_
  rw [encI_cells, vc_whole]
  refine ⟨_, _, runit_ok, ?_⟩
  rw [encR_cells, Rat.num_intCast, Rat.den_intCast]; rfl
 refine wpF_ok (anns := fun _ => ⟨[], [], fun _ _ => True, fun _ => 0⟩) mixedT Tryz.func121 ?_
 rw [vc_RFromInt64]
 exact ⟨_, _, up (iFromInt64_ok h1 h2), _, _, _, _, hw, rfl⟩
end Eng
end
