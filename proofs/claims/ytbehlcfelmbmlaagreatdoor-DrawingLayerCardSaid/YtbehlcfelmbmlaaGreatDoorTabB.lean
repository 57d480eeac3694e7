/- A table of known results with the document's numbers too. -/
import Derived.Test.YtbehlcfelmbmlaaGreatDoorTabA
import Derived.Test.YtbehlcfelmbmlaaGreatDoorRefC
import Derived.Test.YtbehlcfelmbmlaaGreatDoorRefB
import Derived.Test.YtbehlcfelmbmlaaGreatDoorEngG
section
namespace Eng
open Go Go.Proofs
set_option maxRecDepth 100000
theorem tmul (x y : Rat) : quoR (x.num * y.num) (x.den * y.den) = encR (x * y) := by
 rw [quoR_ok (Int.mul_pos (den_pos x) (den_pos y))]
 have e : x * y = Rat.divInt (x.num * y.num) (x.den * y.den) := by
  rw [← Rat.divInt_mul_divInt, Rat.num_divInt_den, Rat.num_divInt_den]
 rw [← e]
theorem tadd (x y : Rat) : quoR (x.num * y.den + y.num * x.den) (x.den * y.den) = encR (x + y) := by
 have px := den_pos x
 have py := den_pos y
 rw [quoR_ok (Int.mul_pos px py)]
 have e : x + y = Rat.divInt (x.num * y.den + y.num * x.den) (x.den * y.den) := by
  rw [← Rat.divInt_add_divInt _ _ (by omega) (by omega), Rat.num_divInt_den, Rat.num_divInt_den]
 rw [← e]
theorem tsub (x y : Rat) : quoR (x.num * y.den + (-y.num) * x.den) (x.den * y.den) = encR (x - y) := by
 have px := den_pos x
 have py := den_pos y
 rw [quoR_ok (Int.mul_pos px py)]
 have e : x - y = Rat.divInt (x.num * y.den + (-y.num) * x.den) (x.den * y.den) := by
  rw [Rat.sub_eq_add_neg, ← Rat.divInt_add_divInt _ _ (by omega) (by omega), Rat.num_divInt_den]
  have : Rat.divInt (-y.num) y.den = -y := by rw [← Rat.neg_num]; exact Rat.num_divInt_den (-y)
  rw [this]
 rw [← e]
theorem tneg (x : Rat) : A.ag (cI (-x.num) ++ cI x.den) = encR (-x) := by
 unfold encR cR
 rw [Rat.neg_num]
 rfl
def sgZ (a : Int) : Int := match decide (a < 0) with | true => -1 | false => match decide (0 < a) with | true => 1 | false => 0
theorem sgZ_eq (a : Int) : sgZ a = sgn a := by
 unfold sgZ sgn
 by_cases h : a < 0
 ·rw [decide_eq_true h, if_pos h]
 ·rw [decide_eq_false h, if_neg h]
  by_cases h2 : 0 < a
  ·rw [decide_eq_true h2]
   simp
   omega
  ·rw [decide_eq_false h2]
   simp
   omega
def rd1R (al : List A) : Option Rat := match al with
 | [a] => rdR a
 | _ => none
theorem rd1R_ok {al : List A} {x : Rat} (h : rd1R al = some x) : al = [encR x] ∧ Sr x := by
 unfold rd1R at h
 split at h
 ·rw [(rdR_ok h).1]; exact ⟨rfl, (rdR_ok h).2⟩
 ·simp at h
def rd1I (al : List A) : Option Int := match al with
 | [a] => rdI a
 | _ => none
theorem rd1I_ok {al : List A} {x : Int} (h : rd1I al = some x) : al = [encI x] := by
 unfold rd1I at h
 split at h
 ·rw [rdI_ok h]
 ·simp at h
def tabU (f : Nat) (al : List A) : Option (List A) :=
 match f with
 | 103 => match rd2R al with | some (x, y) => some [quoR (x.num * y.num) (x.den * y.den)] | none => none
 | 272 => match rd2R al with | some (x, y) => some [quoR (x.num * y.den + y.num * x.den) (x.den * y.den)] | none => none
 | 198 => match rd2R al with | some (x, y) => some [quoR (x.num * y.den + (-y.num) * x.den) (x.den * y.den)] | none => none
 | 171 => match rd2R al with | some (x, y) => some [.c (.int .i64 (ordZ (x.num * y.den) (y.num * x.den)))] | none => none
 | 172 => match rd1R al with | some x => some [.ag (cI (-x.num) ++ cI x.den)] | none => none
 | 181 => match rd1R al with | some x => some [.ag (cI (-x.num) ++ cI x.den)] | none => none
 | 92 => match rd1R al with | some x => some [.c (.int .i64 (sgZ x.num))] | none => none
 | 148 => match rd1R al with | some x => some [.c (.int .i64 (sgZ x.num))] | none => none
 | 27 => match al with
  | [.c (.int .i64 n)] => match decide (-9223372036854775808 ≤ n) && decide (n < 9223372036854775808) with
   | true => some [.ag (cI n ++ cI 1)]
   | false => none
  | _ => none
 | 193 => match rd2I al with | some (x, y) => some [encI (x * y)] | none => none
 | 314 => match rd2I al with | some (x, y) => some [encI (x + y)] | none => none
 | 313 => match rd2I al with | some (x, y) => some [encI (x - y)] | none => none
 | 263 => match rd2I al with | some (x, y) => some [.c (.int .i64 (ordZ x y))] | none => none
 | 201 => match rd2I al with | some (x, y) => some [encI (Nat.gcd x.natAbs y.natAbs : Nat)] | none => none
 | 240 => match rd2I al with
  | some (x, y) => match decide (0 < y) with
   | true => some [encI (x / y), encI (x % y), .c (.int .i64 0)]
   | false => none
  | none => none
 | 137 => match rd2I al with
  | some (x, y) => match decide (0 < y) with
   | true => some [encI (x / y), encI (x % y), .c (.int .i64 0)]
   | false => none
  | none => none
 | 173 => match rd1I al with | some x => some [.c (.int .i64 (sgZ x))] | none => none
 | 69 => match al with | [] => some [encI 1] | _ => none
 | 68 => match al with
  | [.c (.int .i64 n)] => match decide (-9223372036854775808 ≤ n) && decide (n < 9223372036854775808) with
   | true => some [encI n]
   | false => none
  | _ => none
 | _ => tabR f al
theorem tabU_ok (f : Nat) (al rs : List A) (h : tabU f al = some rs) : Gives CC f al rs := by
 unfold tabU at h
 split at h
 ·split at h
  ·rename_i x y h1
   obtain ⟨rfl, hx, hy⟩ := rd2R_ok h1
   simp only [Option.some.injEq] at h; subst h
   rw [tmul]; exact uMul_ok partsOk hx hy
  ·simp at h
 ·split at h
  ·rename_i x y h1
   obtain ⟨rfl, hx, hy⟩ := rd2R_ok h1
   simp only [Option.some.injEq] at h; subst h
   rw [tadd]; exact uAdd_ok partsOk hx hy
  ·simp at h
 ·split at h
  ·rename_i x y h1
   obtain ⟨rfl, hx, hy⟩ := rd2R_ok h1
   simp only [Option.some.injEq] at h; subst h
   rw [tsub]; exact uSub_ok partsOk hx hy
  ·simp at h
 ·split at h
  ·rename_i x y h1
   obtain ⟨rfl, hx, hy⟩ := rd2R_ok h1
   simp only [Option.some.injEq] at h; subst h
   rw [ordZ_eq, ← cmpR_eq]; exact uCmp_ok hx hy
  ·simp at h
 ·split at h
  ·rename_i x h1
   obtain ⟨rfl, hx⟩ := rd1R_ok h1
   simp only [Option.some.injEq] at h; subst h
   rw [tneg]; exact uNeg_ok hx
  ·simp at h
 ·split at h
  ·rename_i x h1
   obtain ⟨rfl, hx⟩ := rd1R_ok h1
   simp only [Option.some.injEq] at h; subst h
   rw [tneg]; exact rNeg_ok hx
  ·simp at h
 ·split at h
  ·rename_i x h1
   obtain ⟨rfl, hx⟩ := rd1R_ok h1
   simp only [Option.some.injEq] at h; subst h
   rw [sgZ_eq]; exact uSign_ok x
  ·simp at h
 ·split at h
  ·rename_i x h1
   obtain ⟨rfl, hx⟩ := rd1R_ok h1
   simp only [Option.some.injEq] at h; subst h
   rw [sgZ_eq]; exact rSign_ok x
  ·simp at h
 ·split at h
  ·split at h
   ·rename_i hb
    simp only [Option.some.injEq] at h; subst h
    simp only [Bool.and_eq_true, decide_eq_true_eq] at hb
    have g := uFromInt64_ok hb.1 hb.2
    unfold encR cR at g
    rw [Rat.num_intCast, Rat.den_intCast] at g
    exact g
   ·simp at h
  ·simp at h
 ·split at h
  ·rename_i x y h1
   obtain ⟨rfl, hx, hy⟩ := rd2I_ok h1
   simp only [Option.some.injEq] at h; subst h
   exact qMul_ok hx hy
  ·simp at h
 ·split at h
  ·rename_i x y h1
   obtain ⟨rfl, hx, hy⟩ := rd2I_ok h1
   simp only [Option.some.injEq] at h; subst h
   exact qAdd_ok hx hy
  ·simp at h
 ·split at h
  ·rename_i x y h1
   obtain ⟨rfl, hx, hy⟩ := rd2I_ok h1
   simp only [Option.some.injEq] at h; subst h
   exact qSub_ok hx hy
  ·simp at h
 ·split at h
  ·rename_i x y h1
   obtain ⟨rfl, hx, hy⟩ := rd2I_ok h1
   simp only [Option.some.injEq] at h; subst h
   rw [ordZ_eq]; exact qCmp_ok hx hy
  ·simp at h
 ·split at h
  ·rename_i x y h1
   obtain ⟨rfl, hx, hy⟩ := rd2I_ok h1
   simp only [Option.some.injEq] at h; subst h
   exact qGCD_ok partsOk hx hy
  ·simp at h
 ·split at h
  ·rename_i x y h1
   obtain ⟨rfl, hx, hy⟩ := rd2I_ok h1
   split at h
   ·rename_i h2
    simp only [Option.some.injEq] at h; subst h
    exact qDivMod_ok partsOk hx hy (of_decide_eq_true h2)
   ·simp at h
  ·simp at h
 ·split at h
  ·rename_i x y h1
   obtain ⟨rfl, hx, hy⟩ := rd2I_ok h1
   split at h
   ·rename_i h2
    simp only [Option.some.injEq] at h; subst h
    exact iDivMod_ok divOk hx hy (of_decide_eq_true h2)
   ·simp at h
  ·simp at h
 ·split at h
  ·rename_i x h1
   obtain rfl := rd1I_ok h1
   simp only [Option.some.injEq] at h; subst h
   rw [sgZ_eq]; exact qSign_ok x
  ·simp at h
 ·split at h
  ·simp only [Option.some.injEq] at h; subst h
   exact uunit_ok
  ·simp at h
 ·split at h
  ·split at h
   ·rename_i hb
    simp only [Option.some.injEq] at h; subst h
    simp only [Bool.and_eq_true, decide_eq_true_eq] at hb
    exact qFromInt64_ok hb.1 hb.2
   ·simp at h
  ·simp at h
 ·exact tabR_ok f al rs h
end Eng
end

section
namespace Eng
open Go Go.Proofs
def W (acc w : Nat) : Nat := acc * 4722366482869645213696 + w
def kindN : IntKind → Nat
 | .u8 => 0 | .u16 => 1 | .u32 => 2 | .u64 => 3 | .i8 => 4 | .i16 => 5 | .i32 => 6 | .i64 => 7
def encInt (acc : Nat) : Int → Nat
 | .ofNat n => W (W acc 0) n
 | .negSucc n => W (W acc 1) n
def encL {α : Type} (e : Nat → α → Nat) (acc : Nat) (l : List α) : Nat := l.foldl e (W acc l.length)
def encD : Nat → Nat → D → Nat
 | 0, acc, _ => W acc 99
 | _ + 1, acc, .undef => W acc 0
 | _ + 1, acc, .bool b => W (W acc 1) (match b with | true => 1 | false => 0)
 | _ + 1, acc, .int k n => encInt (W (W acc 2) (kindN k)) n
 | _ + 1, acc, .str s => encL (fun a (b : UInt8) => W a b.toNat) (W acc 3) s
 | n + 1, acc, .sl es => encL (encL (encD n)) (W acc 4) es
 | _ + 1, acc, .ifc b => W (W acc 5) (match b with | true => 1 | false => 0)
 | _ + 1, acc, .nilP => W acc 6
 | _ + 1, acc, .fn f => W (W acc 7) f
 | n + 1, acc, .ptr cs => encL (encD n) (W acc 8) cs
 | n + 1, acc, .clo f ps => encL (encD n) (W (W acc 9) f) ps
def encA (acc : Nat) : A → Nat
 | .c d => encD 20 (W acc 0) d
 | .ag cs => encL (encD 20) (W acc 1) cs
def keyA (al : List A) : Nat := encL encA (W 1 2) al % 2305843009213693951
abbrev EntH := Nat × Nat × List A × List A
def findH (f key : Nat) (al : List A) : List EntH → Option (List A)
 | [] => none
 | (f0, k0, al0, rs0) :: r => match Nat.beq f f0 with
  | true => match Nat.beq key k0 with
   | true => match eqL eqA al al0 with
    | true => some rs0
    | false => findH f key al r
   | false => findH f key al r
  | false => findH f key al r
def AllG (C : Cx) : List EntH → Prop
 | [] => True
 | (f0, _, al0, rs0) :: r => Gives C f0 al0 rs0 ∧ AllG C r
def hasF (f : Nat) : List EntH → Bool
 | [] => false
 | (f0, _) :: r => match Nat.beq f f0 with
  | true => true
  | false => hasF f r
def tabH (ents : List EntH) (tab : Nat → List A → Option (List A)) (f : Nat) (al : List A) : Option (List A) :=
 match hasF f ents with
 | true => match keyA al with
  | 0 => tab f al
  | k + 1 => match findH f (k + 1) al ents with
   | some rs => some rs
   | none => tab f al
 | false => tab f al
theorem findH_ok {C : Cx} {f key : Nat} {al rs : List A} : ∀ {ents : List EntH}, AllG C ents → findH f key al ents = some rs → Gives C f al rs
 | [], _, h => by simp [findH] at h
 | (f0, k0, al0, rs0) :: r, hg, h => by
  obtain ⟨h1, h2⟩ := hg
  unfold findH at h
  split at h
  ·rename_i hf
   split at h
   ·split at h
    ·rename_i ha
     obtain rfl := Nat.eq_of_beq_eq_true hf
     obtain rfl := eqL_ok eqA_ok ha
     simp only [Option.some.injEq] at h
     subst h; exact h1
    ·exact findH_ok h2 h
   ·exact findH_ok h2 h
  ·exact findH_ok h2 h
theorem tabH_ok {C : Cx} {ents : List EntH} {tab : Nat → List A → Option (List A)} (h0 : AllG C ents) (h : ∀ f al rs, tab f al = some rs → Gives C f al rs) (f : Nat) (al rs : List A) (hh : tabH ents tab f al = some rs) : Gives C f al rs := by
 unfold tabH at hh
 split at hh
 ·split at hh
  ·exact h _ _ _ hh
  ·split at hh
   ·rename_i rs' hf
    simp only [Option.some.injEq] at hh
    subst hh
    exact findH_ok h0 hf
   ·exact h _ _ _ hh
 ·exact h _ _ _ hh
end Eng
end

section
namespace Eng
open Go Go.Proofs
set_option maxRecDepth 100000
abbrev EffF := Option Nat → List V → List Obj → R
def keepX (t : TypeId) (d : Option Nat) : Bool :=
 match keepT t d with
 | true => true
 | false => match d with
  | some d => (Nat.beq t 242 && Nat.beq d 38) || (Nat.beq t 43 && Nat.beq d 85) || (Nat.beq t 25 && Nat.beq d 61) || (Nat.beq t 130 && Nat.beq d 19)
  | none => false
def findE (f : Nat) : List (Nat × EffF) → Option EffF
 | [] => none
 | (g, e) :: r => match Nat.beq f g with
  | true => some e
  | false => findE f r
def effX (ex : List (Nat × EffF)) (f : Nat) : Option EffF :=
 match findE f ex with
 | some e => some e
 | none => effM timesChk timesMk f
noncomputable def CX (ex : List (Nat × EffF)) : Cx := ⟨Tryz.prog, gvar, fun t => Nat.beq t 76, effX ex, keepX, fun f => Nat.beq f 63 || Nat.beq f 64⟩
def AllE (C : Cx) : List (Nat × EffF) → Prop
 | [] => True
 | (f, e) :: r => EffAt C f e ∧ AllE C r
theorem findE_ok {C : Cx} {f : Nat} {e : EffF} : ∀ {ex : List (Nat × EffF)}, AllE C ex → findE f ex = some e → EffAt C f e
 | [], _, h => by simp [findE] at h
 | (g, e0) :: r, ha, h => by
  obtain ⟨h1, h2⟩ := ha
  unfold findE at h
  split at h
  ·rename_i hb
   obtain rfl := Nat.eq_of_beq_eq_true hb
   simp only [Option.some.injEq] at h; subst h; exact h1
  ·exact findE_ok h2 h
theorem effX_ok {ex : List (Nat × EffF)} (ha : AllE (CX ex) ex) (f : Nat) (e : EffF) (h : (CX ex).eff f = some e) : EffAt (CX ex) f e := by
 replace h : effX ex f = some e := h
 unfold effX at h
 split at h
 ·rename_i e' he
  simp only [Option.some.injEq] at h
  subst h
  exact findE_ok ha he
 unfold effM at h
 split at h
 ·rename_i e' he
  simp only [Option.some.injEq] at h
  subst h
  exact effAt_bld (C := CX ex) bldK he
 ·split at h
  ·rename_i hb; obtain rfl := Nat.eq_of_beq_eq_true hb
   simp only [Option.some.injEq] at h; subst h
   exact effAt_idx extIdx
  ·split at h
   ·rename_i hb; obtain rfl := Nat.eq_of_beq_eq_true hb
    simp only [Option.some.injEq] at h; subst h
    exact effAt_cnt extCnt
   ·split at h
    ·rename_i hb; obtain rfl := Nat.eq_of_beq_eq_true hb
     simp only [Option.some.injEq] at h; subst h
     exact effAt_sub (C := CX ex) subK
    ·split at h
     ·rename_i hb; obtain rfl := Nat.eq_of_beq_eq_true hb
      simp only [Option.some.injEq] at h; subst h
      exact effAt_res (C := CX ex) subK
     ·split at h
      ·rename_i hb; obtain rfl := Nat.eq_of_beq_eq_true hb
       simp only [Option.some.injEq] at h; subst h
       exact effAt_ownC (C := CX ex) Tryz.func190 (by simp [Tryz.f190]) (by decide) fun al hc => givesOwn_cx (C := C0) (C' := CX ex) rfl rfl (times_chk al hc)
      ·simp at h
theorem upX {ex : List (Nat × EffF)} {f : Nat} {al rs : List A} (h : Gives CC f al rs) : Gives (CX ex) f al rs := gives_cx rfl rfl h
def isSm {α : Type} : Option α → Bool
 | some _ => true
 | none => false
noncomputable def CB : Cx := CX []
instance : EffOk CB := effOk_all (effX_ok trivial)
end Eng
end
