/- A sign cut off a text. -/
import Derived.Test.YtbehlcfelmbmlaaGreatDoorTxP
import Derived.Test.YtbehlcfelmbmlaaGreatDoorCdA
section
namespace Eng
open Go
def cutSg : List UInt8 → List UInt8 × Bool
 | [] => ([], false)
 | c :: s => if c = 45 then (s, true) else (c :: s, false)
end Eng
end

section
namespace Eng
open Go
structure B4 where
 x0 : Rat
 y0 : Rat
 x1 : Rat
 y1 : Rat
structure Ce where
 b : B4
 k : Option V2
end Eng
end

section
namespace Eng
open Go
def wholeOk (w : List UInt8) : Bool := !w.isEmpty && (w.all isD && (decide (w.length ≤ 1) || decide (nth 0 w 0 ≠ 48)))
def partOk : Option (List UInt8) → Bool
 | none => true
 | some p => !p.isEmpty && (p.all isD && decide (p.length ≤ 30))
def decS (s : List UInt8) : Option (Int × Nat) :=
 let w := (cutAt 46 (cutSg s).1).1
 let p := (cutAt 46 (cutSg s).1).2
 let m := natT (w ++ p.getD [])
 if wholeOk w && (partOk p && (!(cutSg s).2 || decide (m ≠ 0))) then some (if (cutSg s).2 then -(m : Int) else (m : Int), (p.getD []).length) else none
end Eng
end

section
namespace Eng
open Go
def ltr (c : UInt8) : Bool := (decide (97 ≤ c.toNat) && decide (c.toNat ≤ 122)) || (decide (65 ≤ c.toNat) && decide (c.toNat ≤ 90))
def nmc (c : UInt8) : Bool := ltr c || (isD c || (decide (c = 95) || decide (c = 45)))
structure Tk where
 kind : Nat
 pos : Nat
 text : List UInt8
def lead (p : UInt8 → Bool) : List UInt8 → Nat
 | [] => 0
 | c :: s => match p c with
  | true => lead p s + 1
  | false => 0
inductive Sc where
 | blank
 | tok (kind n : Nat)
 | bad (e : Nat)
structure Li where
 number : Nat
 toks : List Tk
end Eng
end

section
namespace Eng
open Go
end Eng
end

section
namespace Eng
open Go
end Eng
end

section
namespace Eng
open Go
def exF (b : Rat) : Nat → Nat → Option (Int × Nat)
 | 0, _ => none
 | f + 1, k => if (b * ((10 ^ k : Nat) : Rat)).den = 1 then some ((b * ((10 ^ k : Nat) : Rat)).num, k) else exF b f (k + 1)
def exq (b : Rat) : Option (Int × Nat) := exF b 31 0
def valS (s : List UInt8) : Option Rat := match decS s with
 | none => none
 | some (m, k) => some ((m : Rat) / ((10 ^ k : Nat) : Rat))
def txtQ (b : Rat) : List UInt8 := match exq b with
 | none => []
 | some (z, n) => sgT z ++ shownU z.natAbs n
end Eng
end

section
namespace Eng
open Go
structure Ly where
 name : List UInt8
 kind : Int
 depth : Int
structure En where
 kind : Int
 layer : List UInt8
 pts : List V2
 rad : Rat
def okName (w : List UInt8) : Bool := decide (w.length ≤ 24) && (w.all nmc && match w with | [] => false | c :: _ => ltr c)
def okLy (l : Ly) : Bool := okName l.name && ((decide (l.kind = 1 ∨ l.kind = 3) && decide (1 ≤ l.depth ∧ l.depth ≤ 10000000)) || (decide (l.kind = 2 ∨ l.kind = 4) && decide (l.depth = 0)))
def okLen (a : Rat) : Bool := decide (-10000000 ≤ a ∧ a ≤ 10000000) && (exq (a / 1000)).isSome
def ptsN (k : Int) : Nat := if k = 1 then 2 else if k = 2 then 3 else if k = 3 then 1 else 0
end Eng
end

section
namespace Eng
open Go
def lastE (seen : List Ly) (l : Ly) : Nat := if okLy l = true then (if l.name ∈ seen.map (·.name) then 5 else 0) else 1
def errLs : List Ly → List Ly → Nat
 | _, [] => 0
 | seen, l :: r => match lastE seen l with
  | 0 => errLs (seen ++ [l]) r
  | e => e
end Eng
end

section
namespace Eng
open Go
end Eng
end

section
namespace Eng
open Go
end Eng
end

section
namespace Eng
open Go
end Eng
end

section
namespace Eng
open Go
end Eng
end

section
namespace Eng
open Go
end Eng
end

section
namespace Eng
open Go
theorem drop_nth {s : List UInt8} {i : Nat} (h : i < s.length) : s.drop i = nth 0 s i :: s.drop (i + 1) := by
 induction s generalizing i with
 | nil => simp at h
 | cons c s ih =>
  match i with
  | 0 => rfl
  | i + 1 =>
   simp only [List.length_cons] at h
   exact ih (by omega)
end Eng
end

section
namespace Eng
open Go
theorem lead_step {p : UInt8 → Bool} {s : List UInt8} {i : Nat} (h : i < s.length) (hp : p (nth 0 s i) = true) : lead p (s.drop i) = lead p (s.drop (i + 1)) + 1 := by
 rw [drop_nth h, lead, hp]
theorem lead_stop {p : UInt8 → Bool} {s : List UInt8} {i : Nat} (h : s.length ≤ i ∨ p (nth 0 s i) = false) : lead p (s.drop i) = 0 := by
 by_cases hi : s.length ≤ i
 ·rw [List.drop_eq_nil_of_le hi]; rfl
 ·rw [drop_nth (by omega), lead]
  rcases h with h | h
  ·omega
  ·rw [h]
theorem lead_all {p : UInt8 → Bool} : ∀ {s : List UInt8}, lead p s = s.length ↔ s.all p = true
 | [] => by simp [lead]
 | c :: s => by
  have ih := lead_all (p := p) (s := s)
  rw [lead, List.all_cons, List.length_cons]
  cases hp : p c with
  | false => simp
  | true => simp [ih]
theorem okName_iff (w : List UInt8) : okName w = (!w.isEmpty && (decide (w.length ≤ 24) && (ltr (nth 0 w 0) && decide (lead nmc w = w.length)))) := by
 unfold okName
 match w with
 | [] => rfl
 | c :: t =>
  have e : nth 0 (c :: t) 0 = c := rfl
  rw [e]
  have ha : decide (lead nmc (c :: t) = (c :: t).length) = (c :: t).all nmc := by
   rw [Bool.eq_iff_iff]
   simp only [decide_eq_true_eq]
   exact lead_all
  rw [ha]
  simp only [List.isEmpty_cons, Bool.not_false, Bool.true_and]
  cases (c :: t).all nmc <;> cases ltr c <;> rfl
end Eng
end

section
namespace Eng
open Go
end Eng
end

section
namespace Eng
open Go
end Eng
end

section
namespace Eng
open Go
end Eng
end

section
namespace Eng
open Go
structure EnO where
 kind : Int
 layer : List UInt8
 pts : List (Option Rat × Option Rat)
 rad : Option Rat
def okLenO : Option Rat → Bool
 | none => false
 | some a => okLen a
def posO : Option Rat → Bool
 | none => false
 | some a => decide (0 < a)
def okEnO (e : EnO) : Bool := decide (1 ≤ e.kind ∧ e.kind ≤ 3) && (decide (e.pts.length = ptsN e.kind) && (e.pts.all (fun p => okLenO p.1 && okLenO p.2) && (decide (e.kind ≠ 3) || (okLenO e.rad && posO e.rad))))
theorem okLenO_some {a : Option Rat} (h : okLenO a = true) : a = some (a.getD 0) ∧ okLen (a.getD 0) = true := by
 match a, h with
 | some q, h => exact ⟨rfl, h⟩
def knownEO (ls : List Ly) (e : EnO) : Nat := if e.layer ∈ ls.map (·.name) then (if okEnO e = true then 0 else 1) else 4
def errEsO (ls : List Ly) : List EnO → Nat
 | [] => 0
 | e :: r => match knownEO ls e with
  | 0 => errEsO ls r
  | x => x
def validDO (ls : List Ly) (es : List EnO) : Nat :=
 if 20 < ls.length ∨ 200 < es.length then 3 else match errLs [] ls with
  | 0 => errEsO ls es
  | e => e
end Eng
end
