/- Chapter 22's reference: its numbers and lengths. -/
import Derived.Test.YtbehlcfelmbmlaaGreatDoorTxA
import Derived.Test.YtbehlcfelmbmlaaGreatDoorCdA
import Derived.Test.YtbehlcfelmbmlaaGreatDoorLexA
section
namespace Eng
open Go Go.Proofs
set_option maxRecDepth 100000
theorem qSame_ok {x y : Int} (hx : Sm x) (hy : Sm y) : Gives CC 67 [encI x, encI y] [.c (.bool (decide (x = y)))] := by
 refine wpF_ok (anns := fun _ => ⟨[], [], fun _ _ => True, fun _ => 0⟩) mixedT Tryz.func67 ?_
 rw [encI_cells, encI_cells, vc_qSame]
 have hc := qcompare_ok (x := x.natAbs) (y := y.natAbs) (Nat.le_trans hx.len (by omega)) (Nat.le_trans hy.len (by omega))
 refine brb (fun h => ⟨_, hc, ?_⟩) (fun h => ?_)
 ·rw [beq_iff_eq, decide_eq_decide] at h
  have : (cmpN x.natAbs y.natAbs == 0) = decide (x = y) := by
   rw [Bool.eq_iff_iff, beq_iff_eq, decide_eq_true_eq]
   unfold cmpN
   split
   ·omega
   ·split <;> omega
  rw [this]
 ·have : decide (x = y) = false := by
   refine decide_eq_false fun e => ?_
   subst e; simp at h
  rw [this]
theorem uValid_ok {p q : Bool} {l m : List Nat} (hl : l.length ≤ 6) (hm : m.length ≤ 6) : Gives CC 108 [.ag [.bool p, .sl (raw l), .bool q, .sl (raw m)]] [.c (.bool (okQ p l q m))] := by
 refine wpF_ok (anns := fun _ => ⟨[], [], fun _ _ => True, fun _ => 0⟩) mixedT Tryz.func108 ?_
 rw [vc_uValid]
 refine ⟨_, qValid_ok (by omega), ?_⟩
 cases h1 : okZ p (raw l) with
 | false => refine brb (fun _ => ?_) (fun h => by simp at h); unfold okQ; rw [h1]; rfl
 | true =>
  refine brb (fun h => by simp at h) (fun _ => ⟨_, qValid_ok (by omega), ?_⟩)
  cases h2 : okZ q (raw m) with
  | false => refine brb (fun _ => ?_) (fun h => by simp at h); unfold okQ; rw [h1, h2]; rfl
  | true =>
   refine brb (fun h => by simp at h) (fun _ => ?_)
   have s1 := small_sm (dec_small h1 hl)
   have s2 := small_sm (dec_small h2 hm)
   have hs := qSign_ok (decZ q (raw m))
   have hg := qGCD_ok partsOk s1 s2
   have hu := uunit_ok
   have hsm : Sm ((Nat.gcd (decZ p (raw l)).natAbs (decZ q (raw m)).natAbs : Nat) : Int) := by
    rw [smN]
    rcases Nat.eq_zero_or_pos (decZ p (raw l)).natAbs with h | h
    ·rw [h, Nat.gcd_zero_left]; exact s2
    ·exact Nat.lt_of_le_of_lt (Nat.gcd_le_left _ h) s1
   have hc := qSame_ok hsm sm_one
   have ho : okQ p l q m = (decide (0 < decZ q (raw m)) && (Nat.gcd (decZ p (raw l)).natAbs (decZ q (raw m)).natAbs == 1)) := by
    unfold okQ; rw [h1, h2]; simp
   rw [encI_dec h2] at hs
   rw [encI_dec h1, encI_dec h2] at hg
   rw [ho]
   clear ho
   generalize Nat.gcd (decZ p (raw l)).natAbs (decZ q (raw m)).natAbs = g at hg hsm hc ⊢
   generalize decZ q (raw m) = z at hs ⊢
   rw [encI_cells] at hg hu
   rw [encI_cells, encI_cells] at hc
   refine ⟨_, hs, brb (fun h => ?_) (fun h => ⟨_, _, hg, _, _, hu, _, hc, ?_⟩)⟩
   ·rw [decide_eq_false (by have := mt sgn_one.2 (by simpa using h); omega)]; rfl
   ·have e : decide (0 < z) = true := decide_eq_true (sgn_one.1 (by simpa using h))
    rw [e, Bool.true_and]
    have : decide ((g : Int) = 1) = (g == 1) := by
     rw [Bool.eq_iff_iff, decide_eq_true_eq, beq_iff_eq]; omega
    rw [this]
def Rw.val (x : Rw) : Rat := Rat.divInt (decZ x.p (raw x.l)) (decZ x.q (raw x.m))
theorem Rw.val_ok {x : Rw} (h : x.ok = true) (hf : x.few) : x.cs = cR x.val ∧ Sz 54 x.val := by
 obtain ⟨p, l, q, m⟩ := x
 simp only [Rw.ok, okQ, Bool.and_eq_true, decide_eq_true_eq, beq_iff_eq] at h
 obtain ⟨h1, h2, h3, h4⟩ := h
 have b1 := dec_small h1 hf.1
 have b2 := dec_small h2 hf.2
 have hs : Sz 54 (Rat.divInt (decZ p (raw l)) (decZ q (raw m))) := Sz.divInt h3 (by omega) (by omega)
 refine ⟨?_, hs⟩
 have e := encR_divInt (n := decZ p (raw l)) h3
 rw [h4] at e
 have e2 : ∀ z : Int, z / ((1 : Nat) : Int) = z := fun z => by simp
 rw [e2, e2, okZ_ok h1, okZ_ok h2] at e
 unfold encR at e
 have e3 := A.ag.inj e
 show _ = cR (Rat.divInt (decZ p (raw l)) (decZ q (raw m)))
 rw [e3]; rfl
theorem cmpR_gt {x y : Rat} : cmpR x y > 0 ↔ y < x := by
 unfold cmpR; split
 ·rename_i h
  have : ¬ y < x := fun h2 => by grind
  simp_all
 ·split <;> simp_all
theorem sm_64 {n : Int} (h1 : -9223372036854775808 ≤ n) (h2 : n < 9223372036854775808) : Sm n := by
 have : n.natAbs < 10 ^ 40 := by omega
 exact Nat.lt_trans this (by unfold topN; decide)
theorem sq_40 {z : Int} (h : z.natAbs < 10 ^ 40) : Sq z := Nat.lt_trans h (by unfold halfN; decide)
theorem eFrac_ok {m d : Int} (h1 : -9223372036854775808 ≤ m) (h2 : m < 9223372036854775808) (h3 : -9223372036854775808 ≤ d) (h4 : d < 9223372036854775808) (hd : d ≠ 0) : Gives CC 76 [.c (.int .i64 m), .c (.int .i64 d)] [encR (Rat.divInt m d)] := by
 refine wpF_ok (anns := fun _ => ⟨[], [], fun _ _ => True, fun _ => 0⟩) mixedT Tryz.func76 ?_
 rw [vc_eFrac]
 refine brb (fun h => absurd (by simpa using h) hd) (fun _ => ?_)
 have := uOf_ok partsOk (sm_64 h1 h2) (sm_64 h3 h4) hd
 rw [encR_cells] at this ⊢
 exact ⟨_, _, qFromInt64_ok h1 h2, _, _, qFromInt64_ok h3 h4, _, _, _, _, this, rfl⟩
theorem natR_num (m : Nat) : ((m : Nat) : Rat).num = (m : Int) := by simp
theorem natR_den (m : Nat) : ((m : Nat) : Rat).den = 1 := by simp
theorem sr_nat {m : Nat} (h : m < 10 ^ 40) : Sr ((m : Nat) : Rat) := by
 refine ⟨?_, ?_⟩
 ·rw [natR_num]; exact sq_40 (by omega)
 ·rw [natR_den]; exact sq_40 (by decide)
theorem ePower_ok {k : Nat} (hk : k ≤ 30) : Gives CC 143 [.c (.int .i64 (k : Int))] [encR ((10 ^ k : Nat) : Rat)] := by
 refine wpF_ok (anns := fun _ => ⟨[.slot 4 (.int .i64 0), .box 3 [.bool false, .slice none 0 0, .bool false, .slice none 0 0]], [], fun _ ds => ∃ j : Nat, j ≤ k ∧ ds = .int .i64 (j : Int) :: cR ((10 ^ j : Nat) : Rat), fun ds => (k - toI (nth .undef ds 0)).toNat⟩) mixedT Tryz.func143 ?_
 rw [vc_ePower]
 have h1 := uFromInt64_ok (n := 1) (by omega) (by omega)
 have h10 := uFromInt64_ok (n := 10) (by omega) (by omega)
 rw [encR_cells] at h1 h10
 refine ⟨_, _, _, _, h1, ⟨0, by omega, rfl⟩, ?_⟩
 rintro n b es b2 es2 ⟨j, hj, he⟩
 simp only [List.cons.injEq, D.int.injEq, true_and] at he
 obtain ⟨rfl, he⟩ := he
 refine brd (fun h => ?_) (fun h => ?_)
 ·have hw : IntKind.wrap .i64 ((j : Int) + 1) = ((j + 1 : Nat) : Int) := by rw [i64w (by omega) (by omega)]; omega
  have hp : 10 ^ j < 10 ^ 31 := Nat.pow_lt_pow_right (by omega) (by omega)
  have hm := uMul_ok partsOk (sr_nat (m := 10 ^ j) (Nat.lt_trans hp (by decide))) (sr_nat (m := 10) (by decide))
  have e : ((10 ^ j : Nat) : Rat) * ((10 : Nat) : Rat) = ((10 ^ (j + 1) : Nat) : Rat) := by
   rw [Nat.pow_succ, Rat.natCast_mul]
  rw [e, encR, ← he] at hm
  rw [hw]
  rw [encR_cells ((10 ^ (j + 1) : Nat) : Rat)] at hm
  refine ⟨_, _, _, _, h10, _, _, _, _, hm, ⟨j + 1, by omega, rfl⟩, by simp only [nth, toI]; omega⟩
 ·have : j = k := by omega
  subst this
  rw [he]; rfl
theorem ofNat_toNat_digit {v : Nat} (h : v < 10) : (UInt8.ofNat (48 + v)).toNat = 48 + v := by
 simp [UInt8.toNat_ofNat']; omega
theorem u8_eq (a : UInt8) (n : Nat) (hn : n < 256) : ((a.toNat : Int) == (n : Int)) = decide (a = UInt8.ofNat n) := by
 rw [Bool.eq_iff_iff]
 simp only [beq_iff_eq, decide_eq_true_eq]
 constructor
 ·intro h
  have : a.toNat = n := by omega
  rw [← this]; simp
 ·rintro rfl
  simp [UInt8.toNat_ofNat']; omega
theorem dec_head (u : Nat) : nth 0 (Lib.decDigits u) 0 ≠ 45 := by
 have hp := nDigits_pos u
 obtain ⟨n, hn⟩ : ∃ n, Lib.nDigits u = n + 1 := ⟨Lib.nDigits u - 1, by omega⟩
 rw [decDigits_digF, hn, digF_cons]
 show UInt8.ofNat (48 + u / 10 ^ n % 10) ≠ 45
 have h10 : u / 10 ^ n % 10 < 10 := Nat.mod_lt _ (by omega)
 intro e
 have := congrArg UInt8.toNat e
 rw [ofNat_toNat_digit h10] at this
 have h45 : (45 : UInt8).toNat = 45 := rfl
 omega
theorem eshown_ok {z : Int} {k : Nat} (hz : z.natAbs < 10 ^ 90) (hk : k ≤ 30) : Gives CC 144 [encI z, .c (.int .i64 (k : Int))] [.c (.str (sgT z ++ shownU z.natAbs k))] := by
 generalize hU : z.natAbs = U at *
 have hL0 : Lib.nDigits U ≤ 90 := (nDigits_iff 89 U).2 hz
 have hLp := nDigits_pos U
 have hlt0 : U < 10 ^ Lib.nDigits U := by
  obtain ⟨n, hn⟩ : ∃ n, Lib.nDigits U = n + 1 := ⟨Lib.nDigits U - 1, by omega⟩
  rw [hn]; exact (nDigits_iff n U).1 (by omega)
 refine wpF_ok (anns := fun _ => ⟨[.slot 5 (.string ⟨#[]⟩)], [], fun _ ds => ∃ j : Nat, Lib.nDigits U ≤ j ∧ j ≤ max (Lib.nDigits U) (k + 1) ∧ ds = [.str (digF j U)], fun ds => 200 - (toS (nth .undef ds 0)).length⟩) mixedT Tryz.func144 ?_
 have hF := qFmt_ok z (by
  have : (lim z.natAbs).length ≤ 10 := lim_length_le (by rw [hU]; exact Nat.lt_of_lt_of_le hz (by decide))
  omega)
 rw [encI_cells] at hF ⊢
 rw [vc_eshown]
 simp only [Int.ofNat_eq_natCast]
 have hmax : max (Lib.nDigits U) (k + 1) ≤ 90 := by omega
 have hfin : ∀ j, Lib.nDigits U ≤ j → j ≤ max (Lib.nDigits U) (k + 1) → ¬ (j ≤ k) → j = max (Lib.nDigits U) (k + 1) := fun j a b c => by omega
 have hpad : ∀ j, Lib.nDigits U ≤ j → 48 :: digF j U = digF (j + 1) U := fun j hj => by
  have := digF_pad j 1 U (Nat.lt_of_lt_of_le hlt0 (Nat.pow_le_pow_right (by omega) hj))
  rw [Nat.add_comm 1 j] at this
  rw [this]; rfl
 have hend0 : k = 0 → digF (max (Lib.nDigits U) (k + 1)) U = shownU U k := by
  rintro rfl
  rw [show max (Lib.nDigits U) (0 + 1) = Lib.nDigits U by omega, ← decDigits_digF]; rfl
 have hend : k ≠ 0 → (digF (max (Lib.nDigits U) (k + 1)) U).take (max (Lib.nDigits U) (k + 1) - k) ++ 46 :: (digF (max (Lib.nDigits U) (k + 1)) U).drop (max (Lib.nDigits U) (k + 1) - k) = shownU U k := fun h0 => by
  rw [shown_pad (u := U) (k := k) (L := max (Lib.nDigits U) (k + 1)) rfl]
  cases k with
  | zero => omega
  | succ k => rfl
 have hbody : ∀ (pre : List UInt8), pre.length ≤ 1 → sgT z = pre → ∀ (s : List UInt8), (∃ j : Nat, Lib.nDigits U ≤ j ∧ j ≤ max (Lib.nDigits U) (k + 1) ∧ [D.str s] = [.str (digF j U)]) →
  br (toB (D.bool (decide ((s.length : Int) ≤ (k : Int)))))
   (room (1 + s.length) ∧ (∃ j : Nat, Lib.nDigits U ≤ j ∧ j ≤ max (Lib.nDigits U) (k + 1) ∧ [D.str (48 :: s)] = [.str (digF j U)]) ∧ 200 - (toS (nth .undef [D.str (48 :: s)] 0)).length < 200 - (toS (nth .undef [D.str s] 0)).length)
   (br (toB (D.bool ((k : Int) == 0))) (room (pre.length + s.length) ∧ [A.c (D.str (pre ++ s))] = [A.c (D.str (sgT z ++ shownU U k))])
    ((0 ≤ (0 : Int) ∧ 0 ≤ IntKind.wrap .i64 ((s.length : Int) - k) ∧ IntKind.wrap .i64 ((s.length : Int) - k) ≤ s.length) ∧
      room (pre.length + ((s.take (IntKind.wrap .i64 ((s.length : Int) - k)).toNat).drop 0).length) ∧
      room ((pre ++ ((s.take (IntKind.wrap .i64 ((s.length : Int) - k)).toNat).drop 0)).length + 1) ∧
      (0 ≤ IntKind.wrap .i64 ((s.length : Int) - k) ∧ IntKind.wrap .i64 ((s.length : Int) - k) ≤ s.length ∧ (s.length : Int) ≤ s.length) ∧
      room ((pre ++ ((s.take (IntKind.wrap .i64 ((s.length : Int) - k)).toNat).drop 0) ++ [46]).length + ((s.take (Int.toNat s.length)).drop (IntKind.wrap .i64 ((s.length : Int) - k)).toNat).length) ∧
      [A.c (D.str (pre ++ ((s.take (IntKind.wrap .i64 ((s.length : Int) - k)).toNat).drop 0) ++ [46] ++ ((s.take (Int.toNat s.length)).drop (IntKind.wrap .i64 ((s.length : Int) - k)).toNat)))] = [A.c (D.str (sgT z ++ shownU U k))])) := by
  intro pre hpre hsg s ⟨j, hj1, hj2, he⟩
  simp only [List.cons.injEq, D.str.injEq, and_true] at he
  subst he
  rw [digF_len]
  refine brd (fun h => ?_) (fun h => ?_)
  ·have hjk : j ≤ k := by omega
   refine ⟨by unfold room; omega, ⟨j + 1, by omega, by omega, by rw [hpad j hj1]⟩, by simp only [nth, toS, List.length_cons, digF_len]; omega⟩
  ·have hjL := hfin j hj1 hj2 (by omega)
   have hw : IntKind.wrap .i64 ((j : Int) - k) = ((j - k : Nat) : Int) := by rw [i64w (by omega) (by omega)]; omega
   rw [hw, Int.toNat_natCast, Int.toNat_natCast]
   have e0 : ((k : Int) == 0) = decide (k = 0) := by rw [Bool.eq_iff_iff]; simp
   rw [e0]
   refine brd (fun h0 => ?_) (fun h0 => ?_)
   ·refine ⟨by unfold room; omega, ?_⟩
    have := hend0 h0
    rw [← hjL] at this
    rw [this, hsg]
   ·have := hend h0
    rw [← hjL] at this
    have ht : (digF j U).take j = digF j U := List.take_of_length_le (by rw [digF_len]; omega)
    refine ⟨⟨by omega, by omega, by omega⟩, ?_, ?_, ⟨by omega, by omega, by omega⟩, ?_, ?_⟩
    ·unfold room; simp only [List.length_drop, List.length_take, digF_len]; omega
    ·unfold room; simp only [List.length_append, List.length_drop, List.length_take, digF_len]; omega
    ·unfold room; simp only [List.length_append, List.length_cons, List.length_nil, List.length_drop, List.length_take, digF_len]; omega
    ·rw [List.drop_zero, ht, hsg, ← this, List.append_assoc, List.append_assoc]; rfl
 have hdl : (Lib.decDigits U).length = Lib.nDigits U := Lib.decDigits_length U
 by_cases hneg : z < 0
 ·have hs : sgT z = [45] := by unfold sgT; rw [decide_eq_true hneg]
  have hz : decZt z = 45 :: Lib.decDigits U := by unfold decZt; rw [hs, hU]; rfl
  rw [hz] at hF
  refine ⟨_, hF, ⟨by omega, by simp⟩, brb (fun _ => ?_) (fun h => ?_)⟩
  ·refine ⟨⟨by omega, by simp; omega, by omega⟩, ⟨Lib.nDigits U, by omega, by omega, ?_⟩, fun s hs2 => hbody [45] (by simp) hs s hs2⟩
   rw [Int.toNat_natCast, List.take_length, ← decDigits_digF]; rfl
  ·exact absurd h (by simp [nth])
 ·have hs : sgT z = [] := by unfold sgT; rw [decide_eq_false hneg]
  have hz : decZt z = Lib.decDigits U := by unfold decZt; rw [hs, hU]; rfl
  rw [hz] at hF
  refine ⟨_, hF, ⟨by omega, by omega⟩, ?_⟩
  rw [show (45 : Int) = ((45 : Nat) : Int) from rfl, u8_eq _ _ (by omega)]
  refine brd (fun h => absurd h (dec_head U)) (fun _ => ?_)
  exact ⟨⟨Lib.nDigits U, by omega, by omega, by rw [← decDigits_digF]⟩, fun s hs2 => hbody [] (by simp) hs s hs2⟩
theorem rat_den (b : Rat) : b * (b.den : Rat) = (b.num : Rat) := by
 have h := Rat.num_divInt_den b
 rw [Rat.divInt_eq_div] at h
 have hd : (b.den : Rat) ≠ 0 := by exact_mod_cast b.den_nz
 conv => lhs; lhs; rw [← h]
 exact Rat.div_mul_cancel hd
theorem inv_thou : (1000 : Rat)⁻¹ = Rat.divInt 1 1000 := by rw [Rat.inv_def]; rfl
theorem shownU_len {u k : Nat} (hu : u < 10 ^ 90) (hk : k ≤ 30) : (shownU u k).length ≤ 121 := by
 cases k with
 | zero =>
  show (Lib.decDigits u).length ≤ 121
  have := dec_len_le (n := 89) (u := u) (by omega)
  omega
 | succ n =>
  show (Lib.decDigits (u / 10 ^ (n + 1)) ++ 46 :: digF (n + 1) u).length ≤ 121
  have h1 : u / 10 ^ (n + 1) < 10 ^ 90 := Nat.lt_of_le_of_lt (Nat.div_le_self _ _) hu
  have := dec_len_le (n := 89) (u := u / 10 ^ (n + 1)) (by omega)
  rw [List.length_append, List.length_cons, digF_len]
  omega
theorem Sz.sz_pow {k : Nat} (hk : k ≤ 30) : Sz 30 ((10 ^ k : Nat) : Rat) := by
 refine ⟨?_, ?_⟩
 ·rw [natR_num, Int.natAbs_natCast]; exact Nat.pow_le_pow_right (by omega) hk
 ·rw [natR_den]; exact Nat.pos_of_ne_zero (by decide)
theorem Sz.mul2 {j k : Nat} {x y : Rat} (hx : Sz j x) (hy : Sz k y) : Sz (2 * (j + k)) (x * y) := (hx.mono (by omega)).mul (hy.mono (by omega))
theorem eExact_ok {b : Rat} (hb : Sz 57 b) : Gives CC 75 [encR b] [.c (.str (txtQ b)), .c (.bool (exq b).isSome)] := by
 refine wpF_ok (anns := fun _ => ⟨[.slot 4 (.int .i64 0)], [], fun _ ds => ∃ j : Nat, j ≤ 31 ∧ ds = [.int .i64 (j : Int)] ∧ exF b (31 - j) j = exq b, fun ds => (100 - toI (nth .undef ds 0)).toNat⟩) mixedT Tryz.func75 ?_
 have hsr := hb.sr (by omega)
 rw [encR_cells, vc_eExact]
 refine ⟨⟨0, by omega, rfl, rfl⟩, ?_⟩
 rintro m ⟨j, hj, he, hex⟩
 simp only [List.cons.injEq, D.int.injEq, true_and, and_true] at he
 subst he
 refine brd (fun h30 => ?_) (fun h => ?_)
 ·have hj30 : j ≤ 30 := by omega
  have hp := ePower_ok hj30
  have hsp := (Sz.sz_pow hj30).sr (by omega)
  have hm := uMul_ok partsOk hsr hsp
  have hmz := hb.mul2 (Sz.sz_pow hj30)
  have hmsr := hmz.sr (by omega)
  have hs := qSame_ok (x := (b * ((10 ^ j : Nat) : Rat)).den) (y := 1) hmsr.2.sm sm_one
  have h1 := qFromInt64_ok (n := 1) (by omega) (by omega)
  rw [show 31 - j = (30 - j) + 1 by omega, exF] at hex
  have hsh := fun (hz : (b * ((10 ^ j : Nat) : Rat)).num.natAbs < 10 ^ 90) => eshown_ok (z := (b * ((10 ^ j : Nat) : Rat)).num) (k := j) hz hj30
  have hnum : (b * ((10 ^ j : Nat) : Rat)).den = 1 → (b * ((10 ^ j : Nat) : Rat)).num.natAbs < 10 ^ 90 := fun hd => by
   have hq := rat_int hd
   have e1 : ((b * ((10 ^ j : Nat) : Rat)).num : Rat) = b * ((10 ^ j : Nat) : Rat) := hq
   -- the numerator is at most that of b times the power
   have hle : (b * ((10 ^ j : Nat) : Rat)).num.natAbs ≤ b.num.natAbs * 10 ^ j := by
    have hb2 : b = Rat.divInt b.num b.den := (Rat.num_divInt_den b).symm
    have hmul : (b * ((10 ^ j : Nat) : Rat)).num * (b.den : Int) = b.num * ((10 ^ j : Nat) : Int) := by
     have h2 : ((b * ((10 ^ j : Nat) : Rat)).num : Rat) * (b.den : Rat) = (b.num : Rat) * ((10 ^ j : Nat) : Rat) := by
      rw [e1, Rat.mul_assoc, Rat.mul_comm ((10 ^ j : Nat) : Rat), ← Rat.mul_assoc, rat_den]
     exact_mod_cast h2
    have h3 := congrArg Int.natAbs hmul
    rw [Int.natAbs_mul, Int.natAbs_mul, Int.natAbs_natCast, Int.natAbs_natCast] at h3
    have := b.den_pos
    calc (b * ((10 ^ j : Nat) : Rat)).num.natAbs ≤ (b * ((10 ^ j : Nat) : Rat)).num.natAbs * b.den := Nat.le_mul_of_pos_right _ this
     _ = _ := h3
   have h4 : b.num.natAbs * 10 ^ j ≤ 10 ^ 57 * 10 ^ 30 := Nat.mul_le_mul hb.1 (Nat.pow_le_pow_right (by omega) hj30)
   omega
  generalize b * ((10 ^ j : Nat) : Rat) = y at *
  rw [encR_cells] at hp
  rw [encR_cells, encR_cells ((10 ^ j : Nat) : Rat), encR_cells y] at hm
  rw [encI_cells, encI_cells] at hs
  rw [encI_cells] at h1
  refine ⟨_, _, _, _, hp, _, _, _, _, hm, _, _, h1, _, hs, brb' (fun h2 => ?_) (fun h2 => ?_)⟩
  ·have hd : y.den = 1 := by have := of_decide_eq_true h2; omega
   rw [if_pos hd] at hex
   have hn := hnum hd
   have hS := hsh hn
   rw [encI_cells] at hS
   have ht : txtQ b = sgT y.num ++ shownU y.num.natAbs j := by unfold txtQ; rw [← hex]
   have hi : (exq b).isSome = true := by rw [← hex]; rfl
   rw [ht, hi]
   refine ⟨_, hS, brd (fun h => absurd h ?_) (fun _ => rfl)⟩
   have hL0 : Lib.nDigits y.num.natAbs ≤ 90 := (nDigits_iff 89 _).2 hn
   have := shownU_len hn hj30
   have := sgT_len y.num
   simp only [Int.ofNat_eq_natCast, List.length_append]
   omega
  ·have hd : ¬ y.den = 1 := by have := of_decide_eq_false h2; omega
   rw [if_neg hd] at hex
   have hw : IntKind.wrap .i64 ((j : Int) + 1) = ((j + 1 : Nat) : Int) := by rw [i64w (by omega) (by omega)]; omega
   rw [hw]
   exact ⟨⟨j + 1, by omega, rfl, by rw [show 31 - (j + 1) = 30 - j by omega]; exact hex⟩, by simp only [nth, toI]; omega⟩
 ·have : j = 31 := by omega
  subst this
  have hex : none = exq b := hex
  have ht : txtQ b = [] := by unfold txtQ; rw [← hex]
  rw [ht, ← hex]; rfl
theorem ethou_ok {a : Rat} (ha : Sz 54 a) : Gives CC 77 [encR a] [encR (a / 1000)] := by
 refine wpF_ok (anns := fun _ => ⟨[], [], fun _ _ => True, fun _ => 0⟩) mixedT Tryz.func77 ?_
 rw [encR_cells, vc_ethou]
 have h1 := eFrac_ok (m := 1) (d := 1000) (by omega) (by omega) (by omega) (by omega) (by omega)
 have hs : Sz 3 (Rat.divInt 1 1000) := Sz.divInt (by omega) (by decide) (by decide)
 have h2 := uMul_ok partsOk (ha.sr (by omega)) (hs.sr (by omega))
 have e : a * Rat.divInt 1 1000 = a / 1000 := by
  rw [Rat.div_def, inv_thou]
 rw [e] at h2
 rw [encR_cells] at h1
 rw [encR_cells, encR_cells (Rat.divInt 1 1000), encR_cells (a / 1000)] at h2
 rw [encR_cells (a / 1000)]
 exact ⟨_, _, _, _, h1, _, _, _, _, h2, rfl⟩
theorem Sz.thou {a : Rat} (ha : Sz 54 a) : Sz 57 (a / 1000) := by
 have e : a / 1000 = Rat.divInt a.num (a.den * 1000) := by
  rw [Rat.div_def, inv_thou]
  conv => lhs; rw [← Rat.num_divInt_den a]
  rw [Rat.divInt_mul_divInt, Int.mul_one]
 rw [e]
 have := a.den_pos
 refine Sz.divInt (by omega) (Nat.le_trans ha.1 (by decide)) ?_
 rw [Int.natAbs_mul, Int.natAbs_natCast]
 have := ha.2
 show a.den * 1000 ≤ 10 ^ 57
 omega
def vr (x : Rw) : Option Rat := if x.ok = true then some x.val else none
theorem eLen_ok {x : Rw} (hf : x.few) : Gives CC 91 [.ag x.cs] [.c (.bool (okLenO (vr x)))] := by
 have hu := uValid_ok (p := x.p) (q := x.q) hf.1 hf.2
 refine wpF_ok (anns := fun _ => ⟨[], [], fun _ _ => True, fun _ => 0⟩) mixedT Tryz.func91 ?_
 have ec : (A.ag x.cs) = .ag [.bool x.p, .sl (raw x.l), .bool x.q, .sl (raw x.m)] := rfl
 rw [ec, vc_eLen]
 refine ⟨_, hu, ?_⟩
 have hok : okQ x.p x.l x.q x.m = x.ok := rfl
 rw [hok]
 unfold vr
 cases h : x.ok with
 | false => refine brb (fun _ => ?_) (fun h => by simp at h); simp [okLenO]
 | true =>
  refine brb (fun h => by simp at h) (fun _ => ?_)
  rw [if_pos rfl]
  obtain ⟨hc, hz⟩ := Rw.val_ok h hf
  have hsr := hz.sr (by omega)
  have hC : A.ag [.bool x.p, .sl (raw x.l), .bool x.q, .sl (raw x.m)] = encR x.val := by unfold encR; rw [← hc]; rfl
  generalize x.val = a at *
  have h1 := uFromInt64_ok (n := 10000000) (by omega) (by omega)
  have sM : Sz 8 ((10000000 : Int) : Rat) := Sz.int (by decide)
  have sMr := sM.sr (by omega)
  have hc1 := uCmp_ok hsr sMr
  have hn := uNeg_ok hsr
  have hc2 := uCmp_ok hsr.neg sMr
  have ht := ethou_ok hz
  have hx := eExact_ok hz.thou
  rw [← hC] at hc1 hn ht
  rw [encR_cells] at h1 hn
  rw [encR_cells] at hc1
  rw [encR_cells (-a), encR_cells ((10000000 : Int) : Rat)] at hc2
  rw [encR_cells] at ht hx
  have hval : okLenO (some a) = (decide (-10000000 ≤ a ∧ a ≤ 10000000) && (exq (a / 1000)).isSome) := rfl
  rw [hval]
  refine ⟨_, _, _, _, h1, _, hc1, brd (fun hgt => ?_) (fun hgt => ⟨_, _, _, _, hn, _, hc2, brd (fun hg2 => ?_) (fun hg2 => ⟨_, _, _, _, ht, _, _, hx, ?_⟩)⟩)⟩
  ·have := cmpR_gt.1 hgt
   rw [decide_eq_false (fun h => by have h := h.2; grind)]; rfl
  ·have := cmpR_gt.1 hg2
   rw [decide_eq_false (fun h => by have h := h.1; grind)]; rfl
  ·have g1 := fun h => hgt (cmpR_gt.2 h)
   have g2 := fun h => hg2 (cmpR_gt.2 h)
   rw [decide_eq_true (⟨by grind, by grind⟩ : -10000000 ≤ a ∧ a ≤ 10000000)]; rfl
end Eng
end
