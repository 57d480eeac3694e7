/- The verification conditions of functions, printed by a program (vcgen.py) and checked by the kernel. -/
import Derived.Test.YtkkodaemmgpgfaaGreatDoorCtxB
import Derived.Test.YtkkodaemmgpgfaaGreatDoorCdA
import Derived.Test.YtkkodaemmgpgfaaGreatDoorCdB
import Derived.KernelRfl
section
open Go Go.Proofs Eng
set_option maxRecDepth 1000000
namespace Eng
end Eng
end

section
namespace Eng
open Go Go.Proofs
set_option maxRecDepth 100000
def Rw.mid (x : Rw) : Prop := x.l.length ≤ 400 ∧ x.m.length ≤ 400
theorem Rw.few.mid {x : Rw} (h : x.few) : x.mid := ⟨Nat.le_trans h.1 (by omega), Nat.le_trans h.2 (by omega)⟩
theorem pow_le' {b n j k : Nat} (hb : 0 < b) (h : n ≤ j * k) : b ^ n ≤ (b ^ j) ^ k := by
 rw [← Nat.pow_mul]; exact Nat.pow_le_pow_right hb h
theorem pow_half {n : Nat} (h : n ≤ 100 * 4) : 1000000000 ^ n ≤ halfN := pow_le' (b := 1000000000) (j := 100) (k := 4) (by omega) h
theorem dec_half {p : Bool} {l : List Nat} (h : okZ p (raw l) = true) (hl : l.length ≤ 400) : Sq (decZ p (raw l)) := by
 unfold Sq
 rw [decZ_abs]
 exact Nat.lt_of_lt_of_le (val_lt (okZ_iff.1 h).1) (pow_half (by omega))
theorem rValid_mid {p q : Bool} {l m : List Nat} (hl : l.length ≤ 400) (hm : m.length ≤ 400) : Gives CC 85 [.ag [.bool p, .sl (raw l), .bool q, .sl (raw m)]] [.c (.bool (okQ p l q m))] := by
 refine wpF_ok (anns := fun _ => ⟨[], [], fun _ _ => True, fun _ => 0⟩) mixedT Tryz.func85 ?_
 rw [vc_rValid]
 refine ⟨_, iValid_ok (by omega), ?_⟩
 cases h1 : okZ p (raw l) with
 | false => refine brb (fun _ => ?_) (fun h => by simp at h); unfold okQ; rw [h1]; rfl
 | true =>
  refine brb (fun h => by simp at h) (fun _ => ⟨_, iValid_ok (by omega), ?_⟩)
  cases h2 : okZ q (raw m) with
  | false => refine brb (fun _ => ?_) (fun h => by simp at h); unfold okQ; rw [h1, h2]; rfl
  | true =>
   refine brb (fun h => by simp at h) (fun _ => ?_)
   have s1 := (dec_half h1 hl).sm
   have s2 := (dec_half h2 hm).sm
   have hs := up (iSign_ok (decZ q (raw m)))
   have hg := iGCD_ok divOk s1 s2
   have hu := runit_ok
   have hsm : Sm ((Nat.gcd (decZ p (raw l)).natAbs (decZ q (raw m)).natAbs : Nat) : Int) := by
    rw [smN]
    rcases Nat.eq_zero_or_pos (decZ p (raw l)).natAbs with h | h
    ·rw [h, Nat.gcd_zero_left]; exact s2
    ·exact Nat.lt_of_le_of_lt (Nat.gcd_le_left _ h) s1
   have hc := up (iCmp_ok hsm sm_one)
   have ho : okQ p l q m = (decide (0 < decZ q (raw m)) && (Nat.gcd (decZ p (raw l)).natAbs (decZ q (raw m)).natAbs == 1)) := by
    unfold okQ; rw [h1, h2]; simp
   rw [encI_dec h2] at hs
   rw [encI_dec h1, encI_dec h2] at hg
   rw [ho]
   clear ho
   generalize Nat.gcd (decZ p (raw l)).natAbs (decZ q (raw m)).natAbs = g at hg hsm hc ⊢
   generalize decZ q (raw m) = z at hs ⊢
   rw [encI_cells] at hg hu
   rw [encI_cells, encI_cells] at hc
   refine ⟨_, hs, brd (fun h => ?_) (fun h => ⟨_, _, hg, _, _, hu, _, hc, ?_⟩)⟩
   ·rw [decide_eq_false (by have := sgn_le.1 h; omega)]; rfl
   ·have e : decide (0 < z) = true := decide_eq_true (by have := mt sgn_le.2 h; omega)
    rw [e, Bool.true_and]
    have : (cmpZ (g : Int) 1 == 0) = (g == 1) := by
     rw [Bool.eq_iff_iff, beq_iff_eq, cmpZ_zero, beq_iff_eq]; omega
    rw [this]
theorem Rw.val_mid {x : Rw} (h : x.ok = true) (hf : x.mid) : x.cs = cR x.val ∧ Sr x.val := by
 obtain ⟨p, l, q, m⟩ := x
 simp only [Rw.ok, okQ, Bool.and_eq_true, decide_eq_true_eq, beq_iff_eq] at h
 obtain ⟨h1, h2, h3, h4⟩ := h
 have b1 := dec_half h1 hf.1
 have b2 := dec_half h2 hf.2
 obtain ⟨n1, n2⟩ := divInt_nd (n := decZ p (raw l)) h3
 have e2 : ∀ z : Int, z / ((1 : Nat) : Int) = z := fun z => by simp
 rw [h4, e2] at n1 n2
 have hs : Sr (Rat.divInt (decZ p (raw l)) (decZ q (raw m))) := ⟨by rw [n1]; exact b1, by rw [n2]; exact b2⟩
 refine ⟨?_, hs⟩
 have e := encR_divInt (n := decZ p (raw l)) h3
 rw [h4, e2, e2, okZ_ok h1, okZ_ok h2] at e
 unfold encR at e
 have e3 := A.ag.inj e
 show _ = cR (Rat.divInt (decZ p (raw l)) (decZ q (raw m)))
 rw [e3]; rfl
def ofR (r : Rat) : Rw := ⟨decide (r.num < 0), lim r.num.natAbs, decide ((r.den : Int) < 0), lim (r.den : Int).natAbs⟩
theorem ofR_cs (r : Rat) : (ofR r).cs = cR r := rfl
theorem okZ_cI (z : Int) : okZ (decide (z < 0)) (raw (lim z.natAbs)) = true ∧ decZ (decide (z < 0)) (raw (lim z.natAbs)) = z := by
 constructor
 ·refine okZ_iff.2 ⟨lim_limbs _, lim_last _, fun h => ?_⟩
  rw [lim_nil] at h
  exact decide_eq_false (by omega)
 ·unfold decZ
  rw [valD_raw, lim_val]
  by_cases h : z < 0
  ·rw [decide_eq_true h]; simp only; omega
  ·rw [decide_eq_false h]; simp only; omega
theorem ofR_ok (r : Rat) : (ofR r).ok = true ∧ (ofR r).val = r := by
 obtain ⟨a1, a2⟩ := okZ_cI r.num
 obtain ⟨b1, b2⟩ := okZ_cI (r.den : Int)
 constructor
 ·simp only [Rw.ok, ofR, okQ, Bool.and_eq_true, beq_iff_eq]
  have hq : decZ (ofR r).q (raw (ofR r).m) = (r.den : Int) := b2
  refine ⟨a1, b1, decide_eq_true (by have := den_pos r; omega), ?_⟩
  rw [a2, b2, Int.natAbs_natCast]
  exact r.reduced
 ·simp only [Rw.val, ofR]
  rw [a2, b2]
  exact Rat.num_divInt_den r
theorem ofR_mid {r : Rat} (h : Sr r) : (ofR r).mid := by
 constructor
 ·exact lim_len_mul (j := 100) (k := 4) h.1
 ·exact lim_len_mul (j := 100) (k := 4) h.2
structure Rb where
 a : Rw
 b : Rw
 c : Rw
 d : Rw
def Rb.cs (x : Rb) : List D := x.a.cs ++ (x.b.cs ++ (x.c.cs ++ x.d.cs))
def Rb.mid (x : Rb) : Prop := x.a.mid ∧ x.b.mid ∧ x.c.mid ∧ x.d.mid
theorem Rb.cs_eq (x : Rb) : x.cs = [.bool x.a.p, .sl (raw x.a.l), .bool x.a.q, .sl (raw x.a.m), .bool x.b.p, .sl (raw x.b.l), .bool x.b.q, .sl (raw x.b.m), .bool x.c.p, .sl (raw x.c.l), .bool x.c.q, .sl (raw x.c.m), .bool x.d.p, .sl (raw x.d.l), .bool x.d.q, .sl (raw x.d.m)] := rfl
def rbs (l : List Rb) : List (List D) := l.map Rb.cs
theorem seg_all : ∀ (l : List D), seg l 0 l.length = l := by
 have key : ∀ (n : Nat) (pre l : List D), l.length = n → seg (pre ++ l) pre.length n = l := by
  intro n
  induction n with
  | zero => intro pre l h; rw [List.eq_nil_of_length_eq_zero h]; rfl
  | succ n ih =>
   intro pre l h
   cases l with
   | nil => simp at h
   | cons x l =>
    have h1 := ih (pre ++ [x]) l (by simpa using h)
    rw [List.append_assoc] at h1
    simp only [seg]
    rw [nth_eq]
    simp only [List.length_append, List.length_cons, List.length_nil, Nat.zero_add, List.cons_append, List.nil_append] at h1
    rw [h1]; simp
 intro l
 have := key l.length [] l rfl
 simpa using this
theorem cut_all {l : List D} {n : Nat} (h : l.length = n) : cut l 0 n l := ⟨by rw [← h]; exact seg_all l, by omega⟩
end Eng
end

section
namespace Eng
open Go Go.Proofs
set_option maxRecDepth 100000
def rats (rs : List Rat) : List (List D) := rs.map cR
theorem rats_length (rs : List Rat) : (rats rs).length = rs.length := by simp [rats]
structure Bx where
 x0 : Rat
 y0 : Rat
 x1 : Rat
 y1 : Rat
structure St4 where
 a : Nat
 b : Nat
 c : Nat
 d : Nat
end Eng
end
