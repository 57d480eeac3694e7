/- A table of known results for closed runs: the integers and rationals of the program, and the library's functions. -/
import Derived.Test.YtbehlcfelmbmlaaGreatDoorRatA
import Derived.Test.YtbehlcfelmbmlaaGreatDoorDivA
section
namespace Eng
open Go Go.Proofs
set_option maxRecDepth 100000
def lastPos : List (List D) → Bool
 | [] => true
 | [e] => Nat.blt 0 (natD e)
 | _ :: r => lastPos r
theorem lastPos_ok : ∀ {l : List Nat}, lastPos (raw l) = true → l = [] ∨ l.getLast? ≠ some 0
 | [], _ => .inl rfl
 | [x], h => .inr (by
  simp only [raw, List.map_cons, List.map_nil, lastPos, natD, Int.toNat_natCast] at h
  rw [Nat.blt_eq] at h
  simp; omega)
 | x :: y :: l, h => .inr (by
  have h2 : lastPos (raw (y :: l)) = true := h
  rcases lastPos_ok h2 with h3 | h3
  ·simp at h3
  ·rw [List.getLast?_cons_cons]; exact h3)
def decZ (b : Bool) (es : List (List D)) : Int := match b with | true => -(valD es : Int) | false => (valD es : Int)
def okZ (b : Bool) (es : List (List D)) : Bool := limbsD es && (lastPos es && (match es with | [] => !b | _ => true))
theorem okZ_ok {b : Bool} {es : List (List D)} (h : okZ b es = true) : cI (decZ b es) = [.bool b, .sl es] := by
 unfold okZ at h
 simp only [Bool.and_eq_true] at h
 obtain ⟨h1, h2, h3⟩ := h
 obtain ⟨e1, e2, e3⟩ := limbsD_ok h1
 rw [e1] at h2
 have hu := lim_uniq e2 (lastPos_ok h2)
 rw [e3] at hu
 have hn : (decZ b es).natAbs = valD es := by
  unfold decZ; cases b
  ·simp
  ·simp
 have hb : decide (decZ b es < 0) = b := by
  cases b with
  | false => unfold decZ; exact decide_eq_false (by simp)
  | true =>
   unfold decZ
   refine decide_eq_true ?_
   have : valD es ≠ 0 := by
    intro h0
    rw [h0] at hu
    have h4 : natsD es = [] := by rw [← hu]; rfl
    rw [h4] at e1
    rw [e1] at h3
    simp [raw] at h3
   show -(valD es : Int) < 0
   omega
 unfold cI
 rw [hn, hb, hu, ← e1]
def rdI : A → Option Int
 | .ag [.bool b, .sl es] => match okZ b es with
  | true => some (decZ b es)
  | false => none
 | _ => none
theorem rdI_ok {a : A} {z : Int} (h : rdI a = some z) : a = encI z := by
 unfold rdI at h
 split at h
 ·split at h
  ·rename_i hz
   simp only [Option.some.injEq] at h
   subst h
   unfold encI; rw [okZ_ok hz]
  ·simp at h
 ·simp at h
def ratOf (n : Int) (d : Nat) : Option Rat :=
 if hd : d ≠ 0 then if h : Nat.gcd n.natAbs d = 1 then some ⟨n, d, hd, h⟩ else none else none
theorem ratOf_ok {n : Int} {d : Nat} {r : Rat} (h : ratOf n d = some r) : r.num = n ∧ r.den = d := by
 unfold ratOf at h
 split at h
 ·split at h
  ·simp only [Option.some.injEq] at h; subst h; exact ⟨rfl, rfl⟩
  ·simp at h
 ·simp at h
def smallZ (z : Int) : Bool := Nat.blt z.natAbs halfN
def rdR : A → Option Rat
 | .ag [.bool b, .sl es, .bool c, .sl fs] => match okZ b es && (okZ c fs && (!c && (smallZ (decZ b es) && Nat.blt (valD fs) halfN))) with
  | true => ratOf (decZ b es) (valD fs)
  | false => none
 | _ => none
theorem rdR_ok {a : A} {r : Rat} (h : rdR a = some r) : a = encR r ∧ Sr r := by
 unfold rdR at h
 split at h
 ·rename_i b es c fs
  split at h
  ·rename_i hz
   simp only [Bool.and_eq_true, Bool.not_eq_true'] at hz
   obtain ⟨h1, h2, rfl, h3, h4⟩ := hz
   obtain ⟨e1, e2⟩ := ratOf_ok h
   have hd : decZ false fs = (r.den : Int) := by rw [e2]; rfl
   refine ⟨?_, ?_, ?_⟩
   ·unfold encR cR
    rw [e1, okZ_ok h1, ← hd, okZ_ok h2]; rfl
   ·rw [e1]; unfold smallZ at h3; rw [Nat.blt_eq] at h3; exact h3
   ·rw [Nat.blt_eq] at h4
    show ((r.den : Int)).natAbs < halfN
    rw [Int.natAbs_natCast, e2]; exact h4
  ·simp at h
 ·simp at h
def rd2I (al : List A) : Option (Int × Int) := match al with
 | [a, b] => match rdI a, rdI b with
  | some x, some y => match Nat.blt x.natAbs topN && Nat.blt y.natAbs topN with
   | true => some (x, y)
   | false => none
  | _, _ => none
 | _ => none
theorem rd2I_ok {al : List A} {x y : Int} (h : rd2I al = some (x, y)) : al = [encI x, encI y] ∧ Sm x ∧ Sm y := by
 unfold rd2I at h
 split at h
 ·split at h
  ·rename_i x' y' h1 h2
   split at h
   ·rename_i h3
    simp only [Option.some.injEq, Prod.mk.injEq] at h
    obtain ⟨rfl, rfl⟩ := h
    simp only [Bool.and_eq_true, Nat.blt_eq] at h3
    rw [rdI_ok h1, rdI_ok h2]
    exact ⟨rfl, h3.1, h3.2⟩
   ·simp at h
  ·simp at h
 ·simp at h
def rd2R (al : List A) : Option (Rat × Rat) := match al with
 | [a, b] => match rdR a, rdR b with
  | some x, some y => some (x, y)
  | _, _ => none
 | _ => none
theorem rd2R_ok {al : List A} {x y : Rat} (h : rd2R al = some (x, y)) : al = [encR x, encR y] ∧ Sr x ∧ Sr y := by
 unfold rd2R at h
 split at h
 ·split at h
  ·rename_i x' y' h1 h2
   simp only [Option.some.injEq, Prod.mk.injEq] at h
   obtain ⟨rfl, rfl⟩ := h
   rw [(rdR_ok h1).1, (rdR_ok h2).1]
   exact ⟨rfl, (rdR_ok h1).2, (rdR_ok h2).2⟩
  ·simp at h
 ·simp at h
def ordZ (a b : Int) : Int := match decide (a < b) with | true => -1 | false => match decide (b < a) with | true => 1 | false => 0
theorem ordZ_eq (a b : Int) : ordZ a b = cmpZ a b := by
 unfold ordZ cmpZ
 by_cases h : a < b
 ·rw [decide_eq_true h, if_pos h]
 ·rw [decide_eq_false h, if_neg h]
  by_cases h2 : b < a
  ·rw [decide_eq_true h2, if_pos h2]
  ·rw [decide_eq_false h2, if_neg h2]
def quoR (n d : Int) : A := .ag (cI (n / (Nat.gcd n.natAbs d.natAbs : Nat)) ++ cI (d / (Nat.gcd n.natAbs d.natAbs : Nat)))
def tabR (f : Nat) (al : List A) : Option (List A) :=
 match f with
 | 50 => match rd2R al with | some (x, y) => some [quoR (x.num * y.num) (x.den * y.den)] | none => none
 | 180 => match rd2R al with | some (x, y) => some [quoR (x.num * y.den + y.num * x.den) (x.den * y.den)] | none => none
 | 97 => match rd2R al with | some (x, y) => some [quoR (x.num * y.den + (-y.num) * x.den) (x.den * y.den)] | none => none
 | 98 => match rd2R al with | some (x, y) => some [.c (.int .i64 (ordZ (x.num * y.den) (y.num * x.den)))] | none => none
 | 121 => match al with
  | [.c (.int .i64 n)] => match decide (-9223372036854775808 ≤ n) && decide (n < 9223372036854775808) with
   | true => some [.ag (cI n ++ cI 1)]
   | false => none
  | _ => none
 | 101 => match rd2I al with | some (x, y) => some [encI (x * y)] | none => none
 | 183 => match rd2I al with | some (x, y) => some [.c (.int .i64 (ordZ x y))] | none => none
 | 235 => match rd2I al with | some (x, y) => some [encI (x + y)] | none => none
 | 234 => match rd2I al with | some (x, y) => some [encI (x - y)] | none => none
 | 186 => match rd2I al with | some (x, y) => some [encI (Nat.gcd x.natAbs y.natAbs : Nat)] | none => none
 | 136 => match al with
  | [.c (.int .i64 n)] => match decide (-9223372036854775808 ≤ n) && decide (n < 9223372036854775808) with
   | true => some [encI n]
   | false => none
  | _ => none
 | _ => tabL f al
theorem quoR_ok {n d : Int} (hd : 0 < d) : quoR n d = encR (Rat.divInt n d) := (encR_divInt hd).symm
theorem tabR_ok (f : Nat) (al rs : List A) (h : tabR f al = some rs) : Gives CC f al rs := by
 unfold tabR at h
 split at h
 ·split at h
  ·rename_i x y h1
   obtain ⟨rfl, hx, hy⟩ := rd2R_ok h1
   simp only [Option.some.injEq] at h; subst h
   rw [quoR_ok (Int.mul_pos (den_pos x) (den_pos y))]
   have e : x * y = Rat.divInt (x.num * y.num) (x.den * y.den) := by
    rw [← Rat.divInt_mul_divInt, Rat.num_divInt_den, Rat.num_divInt_den]
   rw [← e]; exact rMul_ok divOk hx hy
  ·simp at h
 ·split at h
  ·rename_i x y h1
   obtain ⟨rfl, hx, hy⟩ := rd2R_ok h1
   simp only [Option.some.injEq] at h; subst h
   have px := den_pos x
   have py := den_pos y
   rw [quoR_ok (Int.mul_pos px py)]
   have e : x + y = Rat.divInt (x.num * y.den + y.num * x.den) (x.den * y.den) := by
    rw [← Rat.divInt_add_divInt _ _ (by omega) (by omega), Rat.num_divInt_den, Rat.num_divInt_den]
   rw [← e]; exact rAdd_ok divOk hx hy
  ·simp at h
 ·split at h
  ·rename_i x y h1
   obtain ⟨rfl, hx, hy⟩ := rd2R_ok h1
   simp only [Option.some.injEq] at h; subst h
   have px := den_pos x
   have py := den_pos y
   rw [quoR_ok (Int.mul_pos px py)]
   have e : x - y = Rat.divInt (x.num * y.den + (-y.num) * x.den) (x.den * y.den) := by
    rw [Rat.sub_eq_add_neg, ← Rat.divInt_add_divInt _ _ (by omega) (by omega), Rat.num_divInt_den]
    have : Rat.divInt (-y.num) y.den = -y := by rw [← Rat.neg_num]; exact Rat.num_divInt_den (-y)
    rw [this]
   rw [← e]; exact rSub_ok divOk hx hy
  ·simp at h
 ·split at h
  ·rename_i x y h1
   obtain ⟨rfl, hx, hy⟩ := rd2R_ok h1
   simp only [Option.some.injEq] at h; subst h
   rw [ordZ_eq, ← cmpR_eq]; exact rCmp_ok hx hy
  ·simp at h
 ·split at h
  ·split at h
   ·rename_i hb
    simp only [Option.some.injEq] at h; subst h
    simp only [Bool.and_eq_true, decide_eq_true_eq] at hb
    have g := rFromInt64_ok hb.1 hb.2
    unfold encR cR at g
    rw [Rat.num_intCast, Rat.den_intCast] at g
    exact g
   ·simp at h
  ·simp at h
 ·split at h
  ·rename_i x y h1
   obtain ⟨rfl, hx, hy⟩ := rd2I_ok h1
   simp only [Option.some.injEq] at h; subst h
   exact up (iMul_ok hx hy)
  ·simp at h
 ·split at h
  ·rename_i x y h1
   obtain ⟨rfl, hx, hy⟩ := rd2I_ok h1
   simp only [Option.some.injEq] at h; subst h
   rw [ordZ_eq]; exact up (iCmp_ok hx hy)
  ·simp at h
 ·split at h
  ·rename_i x y h1
   obtain ⟨rfl, hx, hy⟩ := rd2I_ok h1
   simp only [Option.some.injEq] at h; subst h
   exact up (iAdd_ok hx hy)
  ·simp at h
 ·split at h
  ·rename_i x y h1
   obtain ⟨rfl, hx, hy⟩ := rd2I_ok h1
   simp only [Option.some.injEq] at h; subst h
   exact up (iSub_ok hx hy)
  ·simp at h
 ·split at h
  ·rename_i x y h1
   obtain ⟨rfl, hx, hy⟩ := rd2I_ok h1
   simp only [Option.some.injEq] at h; subst h
   exact iGCD_ok divOk hx hy
  ·simp at h
 ·split at h
  ·split at h
   ·rename_i hb
    simp only [Option.some.injEq] at h; subst h
    simp only [Bool.and_eq_true, decide_eq_true_eq] at hb
    exact up (iFromInt64_ok hb.1 hb.2)
   ·simp at h
  ·simp at h
 ·exact tabL_ok f al rs h
end Eng
end

section
namespace Eng
open Go Go.Proofs
def eqL {α : Type} (e : α → α → Bool) : List α → List α → Bool
  | [], [] => true
  | a :: xs, b :: ys => e a b && eqL e xs ys
  | _, _ => false
theorem eqL_ok {α : Type} {e : α → α → Bool} (h : ∀ a b, e a b = true → a = b) : ∀ {xs ys : List α}, eqL e xs ys = true → xs = ys
  | [], [], _ => rfl
  | a :: xs, b :: ys, hh => by
    simp only [eqL, Bool.and_eq_true] at hh
    rw [h a b hh.1, eqL_ok h hh.2]
  | [], _ :: _, hh => by simp [eqL] at hh
  | _ :: _, [], hh => by simp [eqL] at hh
def eqB : UInt8 → UInt8 → Bool := fun a b => Nat.beq a.toNat b.toNat
def eqD : Nat → D → D → Bool
  | 0, _, _ => false
  | _ + 1, .undef, .undef => true
  | _ + 1, .bool a, .bool b => a == b
  | _ + 1, .int k a, .int k' b => decide (k = k') && decide (a = b)
  | _ + 1, .str s, .str t => eqL eqB s t
  | n + 1, .sl es, .sl fs => eqL (eqL (eqD n)) es fs
  | _ + 1, .ifc a, .ifc b => a == b
  | _ + 1, .fn a, .fn b => Nat.beq a b
  | _ + 1, .nilP, .nilP => true
  | n + 1, .ptr cs, .ptr ds => eqL (eqD n) cs ds
  | n + 1, .clo f ps, .clo g qs => Nat.beq f g && eqL (eqD n) ps qs
  | _ + 1, _, _ => false
theorem eqB_ok (a b : UInt8) (h : eqB a b = true) : a = b := UInt8.toNat_inj.1 (Nat.eq_of_beq_eq_true h)
theorem eqD_ok (n : Nat) : ∀ (a b : D), eqD n a b = true → a = b := by
  induction n with
  | zero => intro a b h; simp [eqD] at h
  | succ n ih =>
    intro a b h
    cases a <;> cases b <;> simp only [eqD, Bool.and_eq_true, decide_eq_true_eq, beq_iff_eq, Bool.false_eq_true] at h
    all_goals first
      | rfl
      | (rw [h]; done)
      | (rw [h.1, h.2]; done)
      | (rw [eqL_ok eqB_ok h]; done)
      | (rw [eqL_ok ih h]; done)
      | (rw [Nat.eq_of_beq_eq_true h.1, eqL_ok ih h.2]; done)
      | (rw [eqL_ok (fun a b hh => eqL_ok ih hh) h]; done)
      | rw [Nat.eq_of_beq_eq_true h]
def eqA : A → A → Bool
  | .c a, .c b => eqD 20 a b
  | .ag a, .ag b => eqL (eqD 20) a b
  | _, _ => false
theorem eqA_ok (a b : A) (h : eqA a b = true) : a = b := by
  unfold eqA at h
  split at h
  · rw [eqD_ok _ _ _ h]
  · rw [eqL_ok (eqD_ok 20) h]
  · simp at h
end Eng
end
