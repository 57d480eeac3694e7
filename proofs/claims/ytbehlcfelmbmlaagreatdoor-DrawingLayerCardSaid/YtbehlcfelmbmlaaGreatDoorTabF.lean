/- strings.Trim and TrimLeft with sets of ASCII characters. -/
import Derived.Test.YtbehlcfelmbmlaaGreatDoorShfA
import Derived.Test.YtbehlcfelmbmlaaGreatDoorCtxB
import Derived.Test.YtbehlcfelmbmlaaGreatDoorExA
section
namespace Eng
open Go Go.Proofs
set_option maxRecDepth 100000
theorem trim_ok {s cut : List UInt8} (hs : s.length ≤ 1073741824) (hc : cut.length ≤ 1000) (ha : ∀ (j : Nat) b, cut[j]? = some b → b.toNat < 128) : Gives CC 322 [.c (.str s), .c (.str cut)] [.c (.str (Lib.trimS s cut))] :=
 gives_flat rfl (fun _ _ => CD.str _) fun w F _ => Go.Proofs.Any.strings_Trim_laid Tryz.lays160 (by kernel_rfl) ⟨⟨s⟩⟩ ⟨⟨cut⟩⟩ w (by show s.length ≤ _; omega) (by show cut.length < _; omega) ha
theorem trimL_ok {s cut : List UInt8} (hc : cut.length ≤ 1000) (ha : ∀ (j : Nat) b, cut[j]? = some b → b.toNat < 128) : Gives CC 250 [.c (.str s), .c (.str cut)] [.c (.str (Lib.trimLeftS s cut))] :=
 gives_flat rfl (fun _ _ => CD.str _) fun w F _ => Go.Proofs.Any.strings_TrimLeft_laid Tryz.lays161 (by kernel_rfl) ⟨⟨s⟩⟩ ⟨⟨cut⟩⟩ w (by show cut.length < _; omega) ha
def ascB : List UInt8 → Bool
 | [] => true
 | b :: r => Nat.blt b.toNat 128 && ascB r
theorem ascB_ok : ∀ {l : List UInt8}, ascB l = true → ∀ (j : Nat) b, l[j]? = some b → b.toNat < 128
 | [], _, j, b, h => by simp at h
 | a :: r, hb, j, b, h => by
  simp only [ascB, Bool.and_eq_true] at hb
  rw [Nat.blt_eq] at hb
  cases j with
  | zero => simp only [List.getElem?_cons_zero, Option.some.injEq] at h; rw [← h]; exact hb.1
  | succ j => exact ascB_ok hb.2 j b (by simpa using h)
end Eng
end

section
namespace Eng
open Go Go.Proofs
def dropS (cs : List UInt8) : List UInt8 → List UInt8
 | [] => []
 | a :: l => match cs.any fun c => Nat.beq c.toNat a.toNat with
  | true => dropS cs l
  | false => a :: l
theorem dropS_eq (cs : List UInt8) : ∀ l, dropS cs l = Lib.trimLeftS l cs
 | [] => rfl
 | a :: l => by
  have e : (cs.any fun c => Nat.beq c.toNat a.toNat) = cs.contains a := by
   rw [Bool.eq_iff_iff, List.any_eq_true, List.contains_iff_exists_mem_beq]
   constructor
   ·rintro ⟨c, h1, h2⟩
    exact ⟨c, h1, by rw [beq_iff_eq]; exact (UInt8.toNat_inj.1 (Nat.eq_of_beq_eq_true h2)).symm⟩
   ·rintro ⟨c, h1, h2⟩
    rw [beq_iff_eq] at h2
    exact ⟨c, h1, by rw [h2]; exact Nat.beq_refl _⟩
  unfold dropS Lib.trimLeftS
  rw [List.dropWhile_cons, e]
  cases h : cs.contains a
  ·simp
  ·simp only [if_true]
   exact dropS_eq cs l
def tabF (f : Nat) (al : List A) : Option (List A) :=
 match Nat.beq f 322 with
 | true => match al with
  | [.c (.str s), .c (.str cs)] => match Nat.ble s.length 1073741824 && (Nat.ble cs.length 1000 && ascB cs) with
   | true => some [.c (.str (dropS cs (dropS cs s.reverse).reverse))]
   | false => none
  | _ => none
 | false => match Nat.beq f 250 with
  | true => match al with
   | [.c (.str s), .c (.str cs)] => match Nat.ble cs.length 1000 && ascB cs with
    | true => some [.c (.str (dropS cs s))]
    | false => none
   | _ => none
  | false => tabE f al
theorem tabF_ok (f : Nat) (al rs : List A) (h : tabF f al = some rs) : Gives CC f al rs := by
 unfold tabF at h
 split at h
 ·rename_i hf
  obtain rfl := Nat.eq_of_beq_eq_true hf
  split at h
  ·rename_i s cs
   split at h
   ·rename_i hb
    simp only [Bool.and_eq_true] at hb
    simp only [Option.some.injEq] at h; subst h
    rw [dropS_eq, dropS_eq]
    exact trim_ok (Nat.le_of_ble_eq_true hb.1) (Nat.le_of_ble_eq_true hb.2.1) (ascB_ok hb.2.2)
   ·simp at h
  ·simp at h
 ·split at h
  ·rename_i hf
   obtain rfl := Nat.eq_of_beq_eq_true hf
   split at h
   ·rename_i s cs
    split at h
    ·rename_i hb
     simp only [Bool.and_eq_true] at hb
     simp only [Option.some.injEq] at h; subst h
     rw [dropS_eq]
     exact trimL_ok (Nat.le_of_ble_eq_true hb.1) (ascB_ok hb.2)
    ·simp at h
   ·simp at h
  ·exact tabE_ok f al rs h
theorem tabF_okX {ex : List (Nat × EffF)} (f : Nat) (al rs : List A) (h : tabF f al = some rs) : Gives (CX ex) f al rs := upX (tabF_ok f al rs h)
end Eng
end
