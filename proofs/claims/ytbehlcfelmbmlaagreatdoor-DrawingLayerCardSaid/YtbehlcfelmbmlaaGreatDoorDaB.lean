/- Chapter 22's reference: names, layers, entities, a drawing's error. -/
import Derived.Test.YtbehlcfelmbmlaaGreatDoorDaA
import Derived.Test.YtbehlcfelmbmlaaGreatDoorCtxB
import Derived.KernelRfl
section
namespace Eng
open Go Go.Proofs
set_option maxRecDepth 100000
theorem qletter_ok (c : UInt8) : Gives CC 162 [.c (.int .u8 c.toNat)] [.c (.bool (ltr c))] := by
 refine wpF_ok (anns := fun _ => ⟨[], [], fun _ _ => True, fun _ => 0⟩) mixedT Tryz.func162 ?_
 rw [vc_qletter]
 unfold ltr
 have e1 : (decide ((c.toNat : Int) ≥ 97)) = decide (97 ≤ c.toNat) := decide_eq_decide.2 (by omega)
 have e2 : (decide ((c.toNat : Int) ≤ 122)) = decide (c.toNat ≤ 122) := decide_eq_decide.2 (by omega)
 have e3 : (decide ((c.toNat : Int) ≥ 65)) = decide (65 ≤ c.toNat) := decide_eq_decide.2 (by omega)
 have e4 : (decide ((c.toNat : Int) ≤ 90)) = decide (c.toNat ≤ 90) := decide_eq_decide.2 (by omega)
 rw [e1, e2, e3, e4]
 cases decide (97 ≤ c.toNat) <;> cases decide (c.toNat ≤ 122) <;> cases decide (65 ≤ c.toNat) <;> cases decide (c.toNat ≤ 90) <;> rfl
theorem qdigit_ok (c : UInt8) : Gives CC 257 [.c (.int .u8 c.toNat)] [.c (.bool (isD c))] := by
 refine wpF_ok (anns := fun _ => ⟨[], [], fun _ _ => True, fun _ => 0⟩) mixedT Tryz.func257 ?_
 rw [vc_qdigit]
 unfold isD
 have e1 : (decide ((c.toNat : Int) ≥ 48)) = decide (48 ≤ c.toNat) := decide_eq_decide.2 (by omega)
 have e2 : (decide ((c.toNat : Int) ≤ 57)) = decide (c.toNat ≤ 57) := decide_eq_decide.2 (by omega)
 rw [e1, e2]
 cases decide (48 ≤ c.toNat) <;> cases decide (c.toNat ≤ 57) <;> rfl
theorem u8b (c : UInt8) (n : Nat) (hn : n < 256) : (((c.toNat : Nat) : Int) == (n : Int)) = decide (c = UInt8.ofNat n) := u8_eq c n hn
theorem qname_ok {s : List UInt8} (hs : s.length ≤ 1073741824) : Gives CC 163 [.c (.str s)] [.c (.int .i64 ((lead nmc s : Nat) : Int))] := by
 refine wpF_ok (anns := fun _ => ⟨[.slot 3 (.int .i64 0)], [], fun _ ds => ∃ k : Nat, k ≤ s.length ∧ ds = [.int .i64 (k : Int)] ∧ lead nmc s = k + lead nmc (s.drop k), fun ds => (s.length - toI (nth .undef ds 0)).toNat⟩) mixedT Tryz.func163 ?_
 rw [vc_qname]
 simp only [Int.ofNat_eq_natCast]
 refine ⟨⟨0, by omega, rfl, by simp⟩, ?_⟩
 rintro n ⟨k, hk, he, hl⟩
 simp only [List.cons.injEq, D.int.injEq, true_and, and_true] at he
 subst he
 refine brd (fun h => ?_) (fun h => ?_)
 ·have hkl : k < s.length := by omega
  rw [Int.toNat_natCast]
  have hstep : nmc (nth 0 s k) = true → (∃ k' : Nat, k' ≤ s.length ∧ [D.int .i64 (IntKind.wrap .i64 ((k : Int) + 1))] = [.int .i64 (k' : Int)] ∧ lead nmc s = k' + lead nmc (s.drop k')) ∧ (s.length - toI (nth .undef [D.int .i64 (IntKind.wrap .i64 ((k : Int) + 1))] 0)).toNat < (s.length - toI (nth .undef [D.int .i64 (k : Int)] 0)).toNat := fun hc => by
   have hw : IntKind.wrap .i64 ((k : Int) + 1) = ((k + 1 : Nat) : Int) := by rw [i64w (by omega) (by omega)]; omega
   rw [hw]
   refine ⟨⟨k + 1, by omega, rfl, ?_⟩, by simp only [nth, toI]; omega⟩
   rw [hl, lead_step hkl hc]; omega
  have hb : (0 : Int) ≤ (k : Int) ∧ (k : Int) < (s.length : Int) := ⟨by omega, by omega⟩
  have hor : ltr (nth 0 s k) = true ∨ isD (nth 0 s k) = true ∨ nth 0 s k = 95 ∨ nth 0 s k = 45 → nmc (nth 0 s k) = true := fun h => by
   unfold nmc
   rcases h with h | h | h | h
   ·rw [h]; rfl
   ·rw [h]; simp
   ·rw [h]; decide
   ·rw [h]; decide
  have e95 := u8b (nth 0 s k) 95 (by omega)
  have e45 := u8b (nth 0 s k) 45 (by omega)
  refine ⟨hb, _, qletter_ok _, brb' (fun h1 => hstep (hor (.inl h1))) (fun h1 => ⟨hb, _, qdigit_ok _, brb' (fun h2 => hstep (hor (.inr (.inl h2)))) (fun h2 => ⟨hb, brb (fun h3 => hstep (hor (.inr (.inr (.inl ?_))))) (fun h3 => ⟨hb, brb (fun h4 => hstep (hor (.inr (.inr (.inr ?_))))) (fun h4 => ?_)⟩)⟩)⟩)⟩
  ·rw [show (95 : Int) = ((95 : Nat) : Int) from rfl, e95] at h3; exact of_decide_eq_true h3
  ·rw [show (45 : Int) = ((45 : Nat) : Int) from rfl, e45] at h4; exact of_decide_eq_true h4
  ·rw [show (95 : Int) = ((95 : Nat) : Int) from rfl, e95] at h3
   rw [show (45 : Int) = ((45 : Nat) : Int) from rfl, e45] at h4
   have h3 : ¬ nth 0 s k = 95 := of_decide_eq_false h3
   have h4 : ¬ nth 0 s k = 45 := of_decide_eq_false h4
   have hno : nmc (nth 0 s k) = false := by
    unfold nmc
    rw [h1, h2, decide_eq_false h3, decide_eq_false h4]; rfl
   rw [hl, lead_stop (.inr hno)]; simp
 ·rw [hl, lead_stop (.inl (by omega))]; simp
theorem qIsName_ok {s : List UInt8} (hs : s.length ≤ 1073741824) : Gives CC 90 [.c (.str s)] [.c (.bool (okName s))] := by
 refine wpF_ok (anns := fun _ => ⟨[], [], fun _ _ => True, fun _ => 0⟩) mixedT Tryz.func90 ?_
 rw [vc_qIsName, okName_iff]
 simp only [Int.ofNat_eq_natCast]
 have hz : Int.toNat 0 = 0 := rfl
 refine brd (fun h => brd (fun h2 => ⟨⟨by omega, by omega⟩, _, by rw [hz]; exact qletter_ok _, brb' (fun h3 => ⟨_, qname_ok hs, ?_⟩) (fun h3 => ?_)⟩) (fun h2 => ?_)) (fun h => ?_)
 ·have hne : s.isEmpty = false := by cases s with | nil => simp at h | cons _ _ => rfl
  rw [hne, decide_eq_true (by omega : s.length ≤ 24), h3]
  have : (((lead nmc s : Nat) : Int) == (s.length : Int)) = decide (lead nmc s = s.length) := by rw [Bool.eq_iff_iff]; simp only [beq_iff_eq, decide_eq_true_eq]; omega
  rw [this]; rfl
 ·have hne : s.isEmpty = false := by cases s with | nil => simp at h | cons _ _ => rfl
  rw [hne, decide_eq_true (by omega : s.length ≤ 24), h3]; rfl
 ·have hne : s.isEmpty = false := by cases s with | nil => simp at h | cons _ _ => rfl
  rw [hne, decide_eq_false (by omega : ¬ s.length ≤ 24)]; rfl
 ·have hne : s.isEmpty = true := by cases s with | nil => rfl | cons _ _ => simp only [List.length_cons] at h; omega
  rw [hne]; rfl
def rowL (l : Ly) : List D := [.str l.name, .int .i64 l.kind, .int .i64 l.depth]
theorem elayer_ok {l : Ly} (hs : l.name.length ≤ 1073741824) : Gives CC 44 [.ag (rowL l)] [.c (.bool (okLy l))] := by
 have hn := qIsName_ok hs
 refine wpF_ok (anns := fun _ => ⟨[], [], fun _ _ => True, fun _ => 0⟩) mixedT Tryz.func44 ?_
 have er : A.ag (rowL l) = .ag [.str l.name, .int .i64 l.kind, .int .i64 l.depth] := rfl
 rw [er, vc_elayer]
 unfold okLy
 generalize okName l.name = N at *
 generalize l.kind = k at *
 generalize l.depth = d at *
 by_cases k1 : k = 1
 ·subst k1; refine brb (fun h => ?_) (fun h => ?_) <;> (refine brb (fun _ => ?_) (fun h => by simp at h); refine brb (fun _ => ?_) (fun h => by simp at h); refine ⟨_, hn, brb' (fun hN => ?_) (fun hN => ?_)⟩ <;> (congr 3; first | (simp_all; done) | (simp_all; omega) | (simp_all; rw [Bool.eq_iff_iff]; simp)))
 ·refine brb (fun h => ?_) (fun h => ?_) <;> (refine brb (fun h1 => by simp at h1; exact absurd h1 k1) (fun _ => ?_); by_cases k3 : k = 3) <;> first
   | (subst k3; refine brb (fun _ => ?_) (fun h => by simp at h); refine ⟨_, hn, brb' (fun hN => ?_) (fun hN => ?_)⟩ <;> (congr 3; first | (simp_all; done) | (simp_all; omega) | (simp_all; rw [Bool.eq_iff_iff]; simp)))
   | (refine brb (fun h1 => by simp at h1; exact absurd h1 k3) (fun _ => ?_)
      by_cases k2 : k = 2
      ·subst k2; refine brb (fun _ => ?_) (fun h => by simp at h); refine brb (fun _ => ?_) (fun h => by simp at h); refine ⟨_, hn, brb' (fun hN => ?_) (fun hN => ?_)⟩ <;> (congr 3; first | (simp_all; done) | (simp_all; omega) | (simp_all; rw [Bool.eq_iff_iff]; simp))
      ·refine brb (fun h1 => by simp at h1; exact absurd h1 k2) (fun _ => ?_)
       by_cases k4 : k = 4
       ·subst k4; refine brb (fun _ => ?_) (fun h => by simp at h); refine ⟨_, hn, brb' (fun hN => ?_) (fun hN => ?_)⟩ <;> (congr 3; first | (simp_all; done) | (simp_all; omega) | (simp_all; rw [Bool.eq_iff_iff]; simp))
       ·refine brb (fun h1 => by simp at h1; exact absurd h1 k4) (fun _ => ?_)
        congr 3; first | (simp_all; done) | (simp_all; omega))
def fndF (s : List UInt8) : List Ly → Nat → Int
 | [], _ => -1
 | l :: r, i => if l.name = s then (i : Int) else fndF s r (i + 1)
def fndZ (ls : List Ly) (s : List UInt8) : Int := fndF s ls 0
theorem nth_rows {α : Type} {f : α → List D} {l : List α} {i : Nat} (h : i < l.length) : nth [] (l.map f) i = f l[i] := by
 rw [nth_of_lt _ (by rw [List.length_map]; exact h), List.getElem_map]
theorem fndF_at {s : List UInt8} {ls : List Ly} {k : Nat} (h : k < ls.length) : fndF s (ls.drop k) k = if ls[k].name = s then (k : Int) else fndF s (ls.drop (k + 1)) (k + 1) := by
 rw [List.drop_eq_getElem_cons h]; rfl
theorem fndF_neg {s : List UInt8} : ∀ {ls : List Ly} {k : Nat}, fndF s ls k < 0 ↔ s ∉ ls.map (·.name)
 | [], k => by simp [fndF]
 | l :: r, k => by
  rw [fndF, List.map_cons, List.mem_cons]
  by_cases h : l.name = s
  ·rw [if_pos h]; simp [h]
  ·rw [if_neg h, fndF_neg]
   simp [Ne.symm h]
theorem fndF_first {s : List UInt8} : ∀ {ls : List Ly} {i k : Nat} (h : i < ls.length), ls[i].name = s → (fndF s ls k < ((k + i : Nat) : Int) ↔ s ∈ (ls.take i).map (·.name))
 | [], i, k, h, _ => by simp at h
 | l :: r, 0, k, h, hs => by
  have : l.name = s := hs
  rw [fndF, if_pos this]; simp
 | l :: r, i + 1, k, h, hs => by
  rw [fndF, List.take_succ_cons, List.map_cons, List.mem_cons]
  by_cases hl : l.name = s
  ·rw [if_pos hl]
   exact ⟨fun _ => .inl hl.symm, fun _ => by omega⟩
  ·rw [if_neg hl]
   have := fndF_first (k := k + 1) (ls := r) (i := i) (by simpa using h) (by simpa using hs)
   rw [show k + 1 + i = k + (i + 1) by omega] at this
   rw [this]
   exact ⟨fun h => .inr h, fun h => h.resolve_left (Ne.symm hl)⟩
theorem efind_ok {ls : List Ly} {s : List UInt8} (hl : ls.length ≤ 1073741824) : Gives CC 45 [.c (.sl (ls.map rowL)), .c (.str s)] [.c (.int .i64 (fndZ ls s))] := by
 refine wpF_ok (anns := fun _ => ⟨[.slot 5 (.int .i64 0)], [], fun _ ds => ∃ k : Nat, k ≤ ls.length ∧ ds = [.int .i64 (k : Int)] ∧ fndF s (ls.drop k) k = fndZ ls s, fun ds => (ls.length - toI (nth .undef ds 0)).toNat⟩) mixedT Tryz.func45 ?_
 rw [vc_efind]
 simp only [Int.ofNat_eq_natCast, List.length_map]
 refine ⟨⟨0, by omega, rfl, rfl⟩, ?_⟩
 rintro n ⟨k, hk, he, hf⟩
 simp only [List.cons.injEq, D.int.injEq, true_and, and_true] at he
 subst he
 refine brd (fun h => ?_) (fun h => ?_)
 ·have hkl : k < ls.length := by omega
  rw [Int.toNat_natCast, nth_rows hkl]
  rw [fndF_at hkl] at hf
  refine ⟨⟨by omega, by omega, rfl⟩, _, ⟨rfl, by simp [rowL]⟩, brb (fun h2 => ?_) (fun h2 => ?_)⟩
  ·have h2 : ls[k].name = s := by simpa using h2
   rw [if_pos h2] at hf
   rw [hf]
  ·have h2 : ¬ ls[k].name = s := by simpa using h2
   rw [if_neg h2] at hf
   have hw : IntKind.wrap .i64 ((k : Int) + 1) = ((k + 1 : Nat) : Int) := by rw [i64w (by omega) (by omega)]; omega
   rw [hw]
   exact ⟨⟨k + 1, by omega, rfl, hf⟩, by simp only [nth, toI]; omega⟩
 ·have : k = ls.length := by omega
  subst this
  rw [List.drop_length] at hf
  rw [← hf]; rfl
structure Er where
 kind : Int
 layer : List UInt8
 pts : List (Rw × Rw)
 rad : Rw
def rowP (p : Rw × Rw) : List D := p.1.cs ++ p.2.cs
def rowE (e : Er) : List D := [.int .i64 e.kind, .str e.layer, .sl (e.pts.map rowP)] ++ e.rad.cs
def Er.o (e : Er) : EnO := ⟨e.kind, e.layer, e.pts.map fun p => (vr p.1, vr p.2), vr e.rad⟩
def Er.few (e : Er) : Prop := (∀ p ∈ e.pts, p.1.few ∧ p.2.few) ∧ e.rad.few
def okPt (p : Rw × Rw) : Bool := okLenO (vr p.1) && okLenO (vr p.2)
theorem Er.ok_eq (e : Er) : okEnO e.o = (decide (1 ≤ e.kind ∧ e.kind ≤ 3) && (decide (e.pts.length = ptsN e.kind) && (e.pts.all okPt && (decide (e.kind ≠ 3) || (okLenO (vr e.rad) && posO (vr e.rad)))))) := by
 unfold okEnO Er.o
 simp only [List.length_map, List.all_map]
 rfl
theorem ptsN_cases (k : Int) : (1 ≤ k ∧ k ≤ 3 ∧ 0 < ptsN k ∧ ptsN k ≤ 3 ∧ (ptsN k = 1 ↔ k = 3)) ∨ (¬ (1 ≤ k ∧ k ≤ 3) ∧ ptsN k = 0) := by
 unfold ptsN
 by_cases h1 : k = 1
 ·subst h1; simp
 ·by_cases h2 : k = 2
  ·subst h2; simp
  ·by_cases h3 : k = 3
   ·subst h3; simp
   ·rw [if_neg h1, if_neg h2, if_neg h3]
    exact .inr ⟨by omega, rfl⟩
theorem all_take_bad {α : Type} {p : α → Bool} {l : List α} {k : Nat} (hk : k < l.length) (h : p l[k] = false) : l.all p = false := by
 rw [← Bool.not_eq_true]
 intro h2
 have := List.all_eq_true.1 h2 l[k] (List.getElem_mem hk)
 rw [h] at this; simp at this
theorem num_iff (x : Rat) : 0 < x.num ↔ 0 < x := by
 constructor
 ·intro h
  have h1 : 0 ≤ x := Rat.num_nonneg.1 (by omega)
  have h2 : x ≠ 0 := fun h0 => by
   rw [h0] at h
   exact absurd h (by decide)
  grind
 ·exact num_pos
set_option maxHeartbeats 1000000 in
theorem eentity_ok {e : Er} (hf : e.few) (hl : e.pts.length ≤ 1073741824) : Gives CC 46 [.ag (rowE e)] [.c (.bool (okEnO e.o))] := by
 have hE := e.ok_eq
 have hlen := fun (p : Rw × Rw) (hp : p ∈ e.pts) => And.intro (eLen_ok (hf.1 p hp).1) (eLen_ok (hf.1 p hp).2)
 have hrad := eLen_ok hf.2
 refine wpF_ok (anns := annJ (fun _ => ⟨[.slot 4 (.int .i64 0)], [], fun _ ds => ∃ j : Nat, j ≤ e.pts.length ∧ ds = [.int .i64 (j : Int)] ∧ (e.pts.take j).all okPt = true, fun ds => (e.pts.length - toI (nth .undef ds 0)).toNat⟩)
  9 ⟨[.slot 3 (.int .i64 0)], [], fun _ ds => ds = [.int .i64 ((ptsN e.kind : Nat) : Int)], fun _ => 0⟩) mixedT Tryz.func46 ?_
 have er : A.ag (rowE e) = .ag [.int .i64 e.kind, .str e.layer, .sl (e.pts.map rowP), .bool e.rad.p, .sl (raw e.rad.l), .bool e.rad.q, .sl (raw e.rad.m)] := rfl
 rw [er, vc_eentity]
 have erad : A.ag e.rad.cs = .ag [.bool e.rad.p, .sl (raw e.rad.l), .bool e.rad.q, .sl (raw e.rad.m)] := rfl
 rw [erad] at hrad
 simp only [Int.ofNat_eq_natCast, List.length_map]
 generalize okEnO e.o = R at *
 refine ⟨?_, ?_⟩
 ·by_cases h1 : e.kind = 1
  ·rw [h1]; refine brb (fun _ => rfl) (fun h => by simp at h)
  ·refine brb (fun h => by simp at h; exact absurd h h1) (fun _ => ?_)
   by_cases h2 : e.kind = 2
   ·rw [h2]; refine brb (fun _ => rfl) (fun h => by simp at h)
   ·refine brb (fun h => by simp at h; exact absurd h h2) (fun _ => ?_)
    by_cases h3 : e.kind = 3
    ·rw [h3]; refine brb (fun _ => rfl) (fun h => by simp at h)
    ·refine brb (fun h => by simp at h; exact absurd h h3) (fun _ => ?_)
     unfold ptsN; rw [if_neg h1, if_neg h2, if_neg h3]; rfl
 intro n he
 simp only [List.cons.injEq, D.int.injEq, true_and, and_true] at he
 subst he
 have hc := ptsN_cases e.kind
 refine brb (fun h => ?_) (fun h => brb (fun h2 => ?_) (fun h2 => brb (fun h3 => ?_) (fun h3 => ?_)))
 ·have h : ptsN e.kind = 0 := by simp at h; omega
  have hk : ¬ (1 ≤ e.kind ∧ e.kind ≤ 3) := by rcases hc with h' | h'; · omega
                                              ·exact h'.1
  rw [hE, decide_eq_false hk]; rfl
 ·have h2 : ¬ e.pts.length = ptsN e.kind := by simp at h2; omega
  rw [hE, decide_eq_false h2]; simp
 ·have h2 : e.pts.length = ptsN e.kind := by simp at h2; omega
  have h3 : ptsN e.kind = 1 := by simp at h3; omega
  have hk : 1 ≤ e.kind ∧ e.kind ≤ 3 := by rcases hc with h' | h'; · exact ⟨h'.1, h'.2.1⟩
                                          ·omega
  have hk3 : e.kind = 3 := by rcases hc with h' | h'; · exact h'.2.2.2.2.1 h3
                              ·omega
  rw [decide_eq_true hk, decide_eq_true h2, hk3] at hE
  simp only [Bool.true_and, ne_eq, not_true_eq_false, decide_false, Bool.false_or] at hE
  refine ⟨_, hrad, ?_⟩
  cases hr : okLenO (vr e.rad) with
  | false => refine brb (fun _ => ?_) (fun h => by simp at h); rw [hE, hr]; simp
  | true =>
   refine brb (fun h => by simp at h) (fun _ => ?_)
   obtain ⟨ha, _⟩ := okLenO_some hr
   have hok : e.rad.ok = true := by
    unfold vr at ha
    by_cases h : e.rad.ok = true
    ·exact h
    ·rw [if_neg h] at ha; simp at ha
   have hv : vr e.rad = some e.rad.val := by unfold vr; rw [if_pos hok]
   obtain ⟨hcs, _⟩ := Rw.val_ok hok hf.2
   have hsg := uSign_ok e.rad.val
   have hC : encR e.rad.val = A.ag [.bool e.rad.p, .sl (raw e.rad.l), .bool e.rad.q, .sl (raw e.rad.m)] := by unfold encR; rw [← hcs]; rfl
   rw [hC] at hsg
   have hpos : posO (vr e.rad) = decide (sgn e.rad.val.num = 1) := by
    rw [hv]
    show decide (0 < e.rad.val) = _
    rw [decide_eq_decide, sgn_one]
    exact (num_iff _).symm
   rw [hr, hpos, Bool.true_and] at hE
   refine ⟨_, hsg, brb (fun h => ?_) (fun h => ?_)⟩
   ·have h : ¬ sgn e.rad.val.num = 1 := by simpa using h
    rw [hE, decide_eq_false h]; simp
   ·have h : sgn e.rad.val.num = 1 := by simpa using h
    rw [decide_eq_true h, Bool.and_true] at hE
    clear h hsg hpos hr
    refine ⟨⟨0, by omega, rfl, by simp⟩, ?_⟩
    rintro n ⟨j, hj, he, hall⟩
    simp only [List.cons.injEq, D.int.injEq, true_and, and_true] at he
    subst he
    refine brd (fun h => ?_) (fun h => ?_)
    ·have hjl : j < e.pts.length := by omega
     obtain ⟨hx, hy⟩ := hlen e.pts[j] (List.getElem_mem hjl)
     rw [Int.toNat_natCast, nth_rows hjl]
     refine ⟨⟨by omega, by omega, by simp [rowP, Rw.cs]⟩, _, _, _, _, ⟨rfl, by simp [rowP, Rw.cs]⟩, _, hx, brb (fun h4 => ?_) (fun h4 => ⟨⟨by omega, by omega, by simp [rowP, Rw.cs]⟩, _, _, _, _, ⟨rfl, by simp [rowP, Rw.cs]⟩, _, hy, brb (fun h5 => ?_) (fun h5 => ?_)⟩)⟩
     ·rw [hE, all_take_bad hjl (by unfold okPt; simp at h4; rw [h4]; rfl)]
     ·rw [hE, all_take_bad hjl (by unfold okPt; simp at h5; rw [h5]; simp)]
     ·have hw : IntKind.wrap .i64 ((j : Int) + 1) = ((j + 1 : Nat) : Int) := by rw [i64w (by omega) (by omega)]; omega
      rw [hw]
      refine ⟨⟨j + 1, by omega, rfl, ?_⟩, by simp only [nth, toI]; omega⟩
      rw [List.take_succ_eq_append_getElem hjl, List.all_append, hall]
      simp at h4 h5
      simp [okPt, h4, h5]
    ·have : j = e.pts.length := by omega
     subst this
     rw [List.take_length] at hall
     rw [hE, hall]
 ·have h2 : e.pts.length = ptsN e.kind := by simp at h2; omega
  have h3 : ptsN e.kind ≠ 1 := by simp at h3; omega
  have h0 : ptsN e.kind ≠ 0 := by simp at h; omega
  have hk : 1 ≤ e.kind ∧ e.kind ≤ 3 := by rcases hc with h' | h'; · exact ⟨h'.1, h'.2.1⟩
                                          ·exact absurd h'.2 h0
  have hk3 : e.kind ≠ 3 := by rcases hc with h' | h'; · exact fun h => h3 (h'.2.2.2.2.2 h)
                              ·exact absurd h'.2 h0
  rw [decide_eq_true hk, decide_eq_true h2, decide_eq_true hk3] at hE
  simp only [Bool.true_and, Bool.true_or, Bool.and_true] at hE
  clear h
  refine ⟨⟨0, by omega, rfl, by simp⟩, ?_⟩
  rintro n ⟨j, hj, he, hall⟩
  simp only [List.cons.injEq, D.int.injEq, true_and, and_true] at he
  subst he
  refine brd (fun h => ?_) (fun h => ?_)
  ·have hjl : j < e.pts.length := by omega
   obtain ⟨hx, hy⟩ := hlen e.pts[j] (List.getElem_mem hjl)
   rw [Int.toNat_natCast, nth_rows hjl]
   refine ⟨⟨by omega, by omega, by simp [rowP, Rw.cs]⟩, _, _, _, _, ⟨rfl, by simp [rowP, Rw.cs]⟩, _, hx, brb (fun h4 => ?_) (fun h4 => ⟨⟨by omega, by omega, by simp [rowP, Rw.cs]⟩, _, _, _, _, ⟨rfl, by simp [rowP, Rw.cs]⟩, _, hy, brb (fun h5 => ?_) (fun h5 => ?_)⟩)⟩
   ·rw [hE, all_take_bad hjl (by unfold okPt; simp at h4; rw [h4]; rfl)]
   ·rw [hE, all_take_bad hjl (by unfold okPt; simp at h5; rw [h5]; simp)]
   ·have hw : IntKind.wrap .i64 ((j : Int) + 1) = ((j + 1 : Nat) : Int) := by rw [i64w (by omega) (by omega)]; omega
    rw [hw]
    refine ⟨⟨j + 1, by omega, rfl, ?_⟩, by simp only [nth, toI]; omega⟩
    rw [List.take_succ_eq_append_getElem hjl, List.all_append, hall]
    simp at h4 h5
    simp [okPt, h4, h5]
  ·have : j = e.pts.length := by omega
   subst this
   rw [List.take_length] at hall
   rw [hE, hall]
def drA (ls : List Ly) (es : List Er) : A := .ag [.sl (ls.map rowL), .sl (es.map rowE)]
def vldR (ls : List Ly) (es : List Er) : Nat := validDO ls (es.map Er.o)
theorem errLs_at {ls : List Ly} {k : Nat} (h : k < ls.length) : errLs (ls.take k) (ls.drop k) = match lastE (ls.take k) ls[k] with
 | 0 => errLs (ls.take (k + 1)) (ls.drop (k + 1))
 | e => e := by
 rw [List.drop_eq_getElem_cons h, errLs, ← List.take_succ_eq_append_getElem h]
 generalize lastE (ls.take k) ls[k] = x
 cases x <;> rfl
theorem errEsO_at {ls : List Ly} {es : List EnO} {k : Nat} (h : k < es.length) : errEsO ls (es.drop k) = match knownEO ls es[k] with
 | 0 => errEsO ls (es.drop (k + 1))
 | e => e := by
 rw [List.drop_eq_getElem_cons h, errEsO]
 generalize knownEO ls es[k] = x
 cases x <;> rfl
theorem eValid_ok {ls : List Ly} {es : List Er} (hn : ∀ l ∈ ls, l.name.length ≤ 1000) (hf : ∀ e ∈ es, e.few ∧ e.pts.length ≤ 1000) : Gives CC 16 [drA ls es] [.c (.int .i64 ((vldR ls es : Nat) : Int))] := by
 refine wpF_ok (anns := ann2
  ⟨[.slot 3 (.int .i64 0)], [], fun _ ds => ∃ k : Nat, k ≤ ls.length ∧ ds = [.int .i64 (k : Int)] ∧ errLs (ls.take k) (ls.drop k) = errLs [] ls, fun ds => (ls.length - toI (nth .undef ds 0)).toNat⟩
  ⟨[.slot 4 (.int .i64 0)], [], fun _ ds => ∃ k : Nat, k ≤ es.length ∧ ds = [.int .i64 (k : Int)] ∧ errEsO ls ((es.map Er.o).drop k) = errEsO ls (es.map Er.o), fun ds => (es.length - toI (nth .undef ds 0)).toNat⟩) mixedT Tryz.func16 ?_
 unfold drA
 rw [vc_eValid]
 simp only [Int.ofNat_eq_natCast, List.length_map]
 have hv : vldR ls es = if 20 < ls.length ∨ 200 < es.length then 3 else match errLs [] ls with | 0 => errEsO ls (es.map Er.o) | e => e := by
  unfold vldR validDO
  rw [List.length_map]
  generalize errLs [] ls = x
  cases x <;> rfl
 refine brd (fun h => ?_) (fun h => brd (fun h2 => ?_) (fun h2 => ?_))
 ·rw [hv, if_pos (.inl (by omega))]; rfl
 ·rw [hv, if_pos (.inr (by omega))]; rfl
 rw [if_neg (by omega)] at hv
 generalize vldR ls es = V at *
 refine ⟨⟨0, by omega, rfl, rfl⟩, ?_⟩
 rintro n ⟨k, hk, he, hek⟩
 simp only [List.cons.injEq, D.int.injEq, true_and, and_true] at he
 subst he
 refine brd (fun h3 => ?_) (fun h3 => ?_)
 ·have hkl : k < ls.length := by omega
  rw [Int.toNat_natCast, nth_rows hkl]
  rw [errLs_at hkl] at hek
  have hly := elayer_ok (l := ls[k]) (by have := hn _ (List.getElem_mem hkl); omega)
  have hfd := efind_ok (ls := ls) (s := ls[k].name) (by omega)
  refine ⟨⟨by omega, by omega, rfl⟩, _, _, _, ⟨rfl, by simp [rowL]⟩, _, hly, ?_⟩
  have hl1 : ∀ x, x = lastE (ls.take k) ls[k] → x ≠ 0 → V = x := fun x hx h0 => by
   rw [hv]
   rw [← hx] at hek
   cases x with
   | zero => exact absurd rfl h0
   | succ x => simp only at hek; rw [← hek]; rfl
  cases hok : okLy ls[k] with
  | false =>
   refine brb (fun _ => ?_) (fun h => by simp at h)
   rw [hl1 1 (by unfold lastE; rw [hok]; rfl) (by omega)]; rfl
  | true =>
   refine brb (fun h => by simp at h) (fun _ => ⟨⟨by omega, by omega, rfl⟩, _, ⟨rfl, by simp [rowL]⟩, _, hfd, ?_⟩)
   have hff := fndF_first (s := ls[k].name) (k := 0) hkl rfl
   rw [Nat.zero_add] at hff
   refine brd (fun h4 => ?_) (fun h4 => ?_)
   ·rw [hl1 5 (by unfold lastE; rw [if_pos hok, if_pos (hff.1 h4)]) (by omega)]; rfl
   ·have hl0 : lastE (ls.take k) ls[k] = 0 := by unfold lastE; rw [if_pos hok, if_neg (fun h => h4 (hff.2 h))]
    rw [hl0] at hek
    have hw : IntKind.wrap .i64 ((k : Int) + 1) = ((k + 1 : Nat) : Int) := by rw [i64w (by omega) (by omega)]; omega
    rw [hw]
    exact ⟨⟨k + 1, by omega, rfl, hek⟩, by simp only [nth, toI]; omega⟩
 ·have hkl : k = ls.length := by omega
  subst hkl
  rw [List.take_length, List.drop_length] at hek
  have hek : 0 = errLs [] ls := hek
  rw [← hek] at hv
  simp only at hv
  clear h3 hek
  refine ⟨⟨0, by omega, rfl, rfl⟩, ?_⟩
  rintro n ⟨k, hk, he, hek⟩
  simp only [List.cons.injEq, D.int.injEq, true_and, and_true] at he
  subst he
  refine brd (fun h3 => ?_) (fun h3 => ?_)
  ·have hkl : k < es.length := by omega
   have hkm : k < (es.map Er.o).length := by rw [List.length_map]; exact hkl
   rw [Int.toNat_natCast, nth_rows hkl]
   rw [errEsO_at hkm, List.getElem_map] at hek
   have hfe := hf _ (List.getElem_mem hkl)
   have hen := eentity_ok hfe.1 (by omega)
   have hfd := efind_ok (ls := ls) (s := es[k].layer) (by omega)
   have hneg := fndF_neg (s := es[k].layer) (ls := ls) (k := 0)
   have hl1 : ∀ x, x = knownEO ls es[k].o → x ≠ 0 → V = x := fun x hx h0 => by
    rw [hv]
    rw [← hx] at hek
    cases x with
    | zero => exact absurd rfl h0
    | succ x => simp only at hek; rw [← hek]
   have hlay : es[k].o.layer = es[k].layer := rfl
   refine ⟨⟨by omega, by omega, by simp [rowE, Rw.cs]⟩, _, ⟨rfl, by simp [rowE, Rw.cs]⟩, _, hfd, brd (fun h4 => ?_) (fun h4 => ⟨⟨by omega, by omega, by simp [rowE, Rw.cs]⟩, _, _, _, _, _, _, _, ⟨rfl, by simp [rowE, Rw.cs]⟩, _, hen, ?_⟩)⟩
   ·rw [hl1 4 (by unfold knownEO; rw [hlay, if_neg (hneg.1 h4)]) (by omega)]; rfl
   ·have hin : es[k].layer ∈ ls.map (·.name) := by
     by_cases h : es[k].layer ∈ ls.map (·.name)
     ·exact h
     ·exact absurd (hneg.2 h) h4
    cases hok : okEnO es[k].o with
    | false =>
     refine brb (fun _ => ?_) (fun h => by simp at h)
     rw [hl1 1 (by unfold knownEO; rw [hlay, if_pos hin, hok]; rfl) (by omega)]; rfl
    | true =>
     refine brb (fun h => by simp at h) (fun _ => ?_)
     have hl0 : knownEO ls es[k].o = 0 := by unfold knownEO; rw [hlay, if_pos hin, if_pos hok]
     rw [hl0] at hek
     have hw : IntKind.wrap .i64 ((k : Int) + 1) = ((k + 1 : Nat) : Int) := by rw [i64w (by omega) (by omega)]; omega
     rw [hw]
     exact ⟨⟨k + 1, by omega, rfl, hek⟩, by simp only [nth, toI]; omega⟩
  ·have hkl : k = es.length := by omega
   subst hkl
   rw [List.drop_eq_nil_of_le (by rw [List.length_map]; exact Nat.le_refl _)] at hek
   have hek : 0 = errEsO ls (es.map Er.o) := hek
   rw [hv, ← hek]; rfl
end Eng
end

section
open Go Go.Proofs Eng
set_option maxRecDepth 1000000
namespace Eng
theorem vc_eSmall2 (Gv : Nat → List A → List A → Prop) (I0 : List D → List D → Prop) (M0 : List D → Nat) (I1 : List D → List D → Prop) (M1 : List D → Nat) (I2 : List D → List D → Prop) (M2 : List D → Nat) (J3 : List D → List D → Prop) (ls es : List (List D)) (Q : List A → Prop) :
 wpF CC Gv (annJ (ann3 ⟨[.slot 3 (.int .i64 0)], [], I0, M0⟩ ⟨[.slot 4 (.int .i64 0)], [], I1, M1⟩ ⟨[.slot 6 (.int .i64 0)], [.slot 4 (.int .i64 0)], I2, M2⟩) 3 ⟨[], [], J3, fun _ => 0⟩) Tryz.f9 [.ag [.sl ls, .sl es]] Q = (
 br (toB (D.bool (decide ((Int.ofNat (List.length ls)) > (25 : Int))))) (Q [A.c (D.bool false)])
 (br (toB (D.bool (decide ((Int.ofNat (List.length es)) > (12 : Int)))))
 (br (toB (D.bool (decide ((Int.ofNat (List.length es)) < (199 : Int))))) (Q [A.c (D.bool false)])
 (br (toB (D.bool (decide ((Int.ofNat (List.length es)) > (203 : Int))))) (Q [A.c (D.bool false)]) (J3 [] [])))
 (br (toB (D.bool (decide ((Int.ofNat (List.length es)) > (203 : Int))))) (Q [A.c (D.bool false)]) (J3 [] []))) ∧
 (J3 [] [] →
 I0 [] [D.int .i64 (0 : Int)] ∧
 ∀ (n : Int),
 I0 [] [D.int .i64 n] →
 br (toB (D.bool (decide (n < (Int.ofNat (List.length ls))))))
 (((0 : Int) ≤ n ∧ n < (Int.ofNat (List.length ls)) ∧ List.length (nth [] ls (Int.toNat n)) = 3) ∧
 ∃ s,
 cut (nth [] ls (Int.toNat n)) 0 1 [D.str s] ∧
 br (toB (D.bool (decide ((Int.ofNat (List.length s)) > (60 : Int))))) (Q [A.c (D.bool false)])
 (I0 [] [D.int .i64 (IntKind.wrap .i64 (n + (1 : Int)))] ∧
 M0 [D.int .i64 (IntKind.wrap .i64 (n + (1 : Int)))] < M0 [D.int .i64 n]))
 (I1 [] [D.int .i64 (0 : Int)] ∧
 ∀ (n : Int),
 I1 [] [D.int .i64 n] →
 br (toB (D.bool (decide (n < (Int.ofNat (List.length es))))))
 (((0 : Int) ≤ n ∧ n < (Int.ofNat (List.length es)) ∧ List.length (nth [] es (Int.toNat n)) = 7) ∧
 ∃ n_1 s es_1 b es_2 b_1 es_3,
 cut (nth [] es (Int.toNat n)) 0 7
 [D.int .i64 n_1, D.str s, D.sl es_1, D.bool b, D.sl es_2, D.bool b_1, D.sl es_3] ∧
 br (toB (D.bool (decide ((Int.ofNat (List.length es_1)) > (5 : Int))))) (Q [A.c (D.bool false)])
 (br (toB (D.bool (decide ((Int.ofNat (List.length s)) > (60 : Int))))) (Q [A.c (D.bool false)])
 (∃ b_2,
 Gv 28 [A.ag [D.bool b, D.sl es_2, D.bool b_1, D.sl es_3]] [A.c (D.bool b_2)] ∧
 br (toB (D.bool !b_2)) (Q [A.c (D.bool false)])
 (I2 [D.int .i64 n] [D.int .i64 (0 : Int)] ∧
 ∀ (n_2 : Int),
 I2 [D.int .i64 n] [D.int .i64 n_2] →
 br (toB (D.bool (decide (n_2 < (Int.ofNat (List.length es_1))))))
 (((0 : Int) ≤ n_2 ∧ n_2 < (Int.ofNat (List.length es_1)) ∧ List.length (nth [] es_1 (Int.toNat n_2)) = 8) ∧
 ∃ b es b_3 es_4,
 cut (nth [] es_1 (Int.toNat n_2)) 0 4 [D.bool b, D.sl es, D.bool b_3, D.sl es_4] ∧
 ∃ b_4,
 Gv 28 [A.ag [D.bool b, D.sl es, D.bool b_3, D.sl es_4]] [A.c (D.bool b_4)] ∧
 br (toB (D.bool !b_4)) (Q [A.c (D.bool false)])
 (((0 : Int) ≤ n_2 ∧ n_2 < (Int.ofNat (List.length es_1)) ∧ List.length (nth [] es_1 (Int.toNat n_2)) = 8) ∧
 ∃ b es b_5 es_5,
 cut (nth [] es_1 (Int.toNat n_2)) 4 4 [D.bool b, D.sl es, D.bool b_5, D.sl es_5] ∧
 ∃ b_6,
 Gv 28 [A.ag [D.bool b, D.sl es, D.bool b_5, D.sl es_5]] [A.c (D.bool b_6)] ∧
 br (toB (D.bool !b_6)) (Q [A.c (D.bool false)])
 (I2 [D.int .i64 n] [D.int .i64 (IntKind.wrap .i64 (n_2 + (1 : Int)))] ∧
 M2 [D.int .i64 (IntKind.wrap .i64 (n_2 + (1 : Int)))] <
 M2 [D.int .i64 n_2])))
 (I1 [] [D.int .i64 (IntKind.wrap .i64 (n + (1 : Int)))] ∧
 M1 [D.int .i64 (IntKind.wrap .i64 (n + (1 : Int)))] < M1 [D.int .i64 n])))))
 (Q [A.c (D.bool true)])))) := by kernel_rfl
end Eng
end

section
namespace Eng
open Go Go.Proofs
set_option maxRecDepth 100000
def shN (x : Rw) : Bool := decide (x.l.length ≤ 6) && decide (x.m.length ≤ 6)
theorem shN_few {x : Rw} : shN x = true ↔ x.few := by
 unfold shN Rw.few
 rw [Bool.and_eq_true, decide_eq_true_eq, decide_eq_true_eq]
theorem eshort_ok (x : Rw) : Gives CC 28 [.ag x.cs] [.c (.bool (shN x))] := by
 obtain ⟨p, l, q, m⟩ := x
 refine wpF_ok (anns := fun _ => ⟨[], [], fun _ _ => True, fun _ => 0⟩) mixedT Tryz.func28 ?_
 simp only [Rw.cs]
 rw [vc_eshort]
 simp only [Int.ofNat_eq_natCast, raw_length, shN]
 have e1 : decide ((l.length : Int) ≤ 6) = decide (l.length ≤ 6) := decide_eq_decide.2 (by omega)
 have e2 : decide ((m.length : Int) ≤ 6) = decide (m.length ≤ 6) := decide_eq_decide.2 (by omega)
 rw [e1, e2]
 cases decide (l.length ≤ 6) <;> rfl
def smE (e : Er) : Bool := decide (e.pts.length ≤ 5) && (decide (e.layer.length ≤ 60) && (shN e.rad && e.pts.all fun p => shN p.1 && shN p.2))
def smR (ls : List Ly) (es : List Er) : Bool := decide (ls.length ≤ 25) && (decide (es.length ≤ 12 ∨ (199 ≤ es.length ∧ es.length ≤ 203)) && ((ls.all fun l => decide (l.name.length ≤ 60)) && es.all smE))
set_option maxHeartbeats 1000000 in
theorem eSmall_ok (ls : List Ly) (es : List Er) : Gives CC 9 [drA ls es] [.c (.bool (smR ls es))] := by
 refine wpF_ok (anns := annJ (ann3
  ⟨[.slot 3 (.int .i64 0)], [], fun _ ds => ∃ k : Nat, k ≤ ls.length ∧ ds = [.int .i64 (k : Int)] ∧ ((ls.take k).all fun l => decide (l.name.length ≤ 60)) = true, fun ds => (ls.length - toI (nth .undef ds 0)).toNat⟩
  ⟨[.slot 4 (.int .i64 0)], [], fun _ ds => ∃ k : Nat, k ≤ es.length ∧ ds = [.int .i64 (k : Int)] ∧ (es.take k).all smE = true, fun ds => (es.length - toI (nth .undef ds 0)).toNat⟩
  ⟨[.slot 6 (.int .i64 0)], [.slot 4 (.int .i64 0)], fun gs ds => ∃ j : Nat, j ≤ 5 ∧ ds = [.int .i64 (j : Int)] ∧ ∀ e, es[(toI (nth .undef gs 0)).toNat]? = some e → j ≤ e.pts.length ∧ ((e.pts.take j).all fun p => shN p.1 && shN p.2) = true, fun ds => (100 - toI (nth .undef ds 0)).toNat⟩)
  3 ⟨[], [], fun _ _ => ls.length ≤ 25 ∧ (es.length ≤ 12 ∨ (199 ≤ es.length ∧ es.length ≤ 203)), fun _ => 0⟩) mixedT Tryz.func9 ?_
 unfold drA
 rw [vc_eSmall2]
 simp only [Int.ofNat_eq_natCast, List.length_map]
 have hbad : ¬ (ls.length ≤ 25 ∧ (es.length ≤ 12 ∨ (199 ≤ es.length ∧ es.length ≤ 203))) → [A.c (D.bool false)] = [A.c (D.bool (smR ls es))] := fun h => by
  unfold smR
  by_cases h1 : ls.length ≤ 25
  ·rw [decide_eq_true h1, decide_eq_false (fun h2 => h ⟨h1, h2⟩)]; rfl
  ·rw [decide_eq_false h1]; rfl
 refine ⟨brd (fun h => hbad (by omega)) (fun h => brd (fun h2 => brd (fun h3 => hbad (by omega)) (fun h3 => brd (fun h4 => hbad (by omega)) (fun h4 => ⟨by omega, by omega⟩))) (fun h2 => brd (fun h4 => hbad (by omega)) (fun h4 => ⟨by omega, by omega⟩))), ?_⟩
 rintro ⟨hl, he⟩
 have hR : smR ls es = ((ls.all fun l => decide (l.name.length ≤ 60)) && es.all smE) := by unfold smR; rw [decide_eq_true hl, decide_eq_true he]; rfl
 rw [hR]
 clear hbad hR
 refine ⟨⟨0, by omega, rfl, rfl⟩, ?_⟩
 rintro n ⟨k, hk, hds, hall⟩
 simp only [List.cons.injEq, D.int.injEq, true_and, and_true] at hds
 subst hds
 refine brd (fun h => ?_) (fun h => ?_)
 ·have hkl : k < ls.length := by omega
  rw [Int.toNat_natCast, nth_rows hkl]
  refine ⟨⟨by omega, by omega, rfl⟩, _, ⟨rfl, by simp [rowL]⟩, brd (fun h2 => ?_) (fun h2 => ?_)⟩
  ·rw [all_take_bad hkl (decide_eq_false (by omega))]; rfl
  ·have hw : IntKind.wrap .i64 ((k : Int) + 1) = ((k + 1 : Nat) : Int) := by rw [i64w (by omega) (by omega)]; omega
   rw [hw]
   refine ⟨⟨k + 1, by omega, rfl, ?_⟩, by simp only [nth, toI]; omega⟩
   rw [List.take_succ_eq_append_getElem hkl, List.all_append, hall]
   simp only [Bool.true_and, List.all_cons, List.all_nil, Bool.and_true]
   exact decide_eq_true (by omega)
 ·have hkl : k = ls.length := by omega
  subst hkl
  rw [List.take_length] at hall
  rw [hall, Bool.true_and]
  clear h hall
  refine ⟨⟨0, by omega, rfl, rfl⟩, ?_⟩
  rintro n ⟨k, hk, hds, hall⟩
  simp only [List.cons.injEq, D.int.injEq, true_and, and_true] at hds
  subst hds
  refine brd (fun h => ?_) (fun h => ?_)
  ·have hkl : k < es.length := by omega
   rw [Int.toNat_natCast, nth_rows hkl]
   have hbad : smE es[k] = false → [A.c (D.bool false)] = [A.c (D.bool (es.all smE))] := fun h => by rw [all_take_bad hkl h]
   have hget : es[k]? = some es[k] := List.getElem?_eq_getElem hkl
   generalize hE : es[k] = e at *
   have hrad := eshort_ok e.rad
   refine ⟨⟨by omega, by omega, by simp [rowE, Rw.cs]⟩, _, _, _, _, _, _, _, ⟨rfl, by simp [rowE, Rw.cs]⟩, ?_⟩
   simp only [List.length_map]
   refine brd (fun h2 => hbad ?_) (fun h2 => brd (fun h3 => hbad ?_) (fun h3 => ⟨_, hrad, brb (fun h4 => hbad ?_) (fun h4 => ?_)⟩))
   ·unfold smE; rw [decide_eq_false (by omega)]; rfl
   ·unfold smE; rw [decide_eq_false (by omega : ¬ e.layer.length ≤ 60)]; simp
   ·unfold smE; simp at h4; rw [h4]; simp
   have h4 : shN e.rad = true := by simpa using h4
   have hI : (toI (nth D.undef [D.int .i64 (k : Int)] 0)).toNat = k := by simp [nth, toI]
   simp only [hI, hget, Option.some.injEq, forall_eq']
   refine ⟨⟨0, by omega, rfl, by omega, rfl⟩, ?_⟩
   rintro n ⟨j, hj, hds, hjl, hja⟩
   simp only [List.cons.injEq, D.int.injEq, true_and, and_true] at hds
   subst hds
   refine brd (fun h5 => ?_) (fun h5 => ?_)
   ·have hjl2 : j < e.pts.length := by omega
    have hx := eshort_ok e.pts[j].1
    have hy := eshort_ok e.pts[j].2
    have hbp : (shN e.pts[j].1 && shN e.pts[j].2) = false → smE e = false := fun h => by
     unfold smE
     rw [all_take_bad (p := fun p => shN p.1 && shN p.2) hjl2 h]; simp
    rw [Int.toNat_natCast, nth_rows hjl2]
    refine ⟨⟨by omega, by omega, by simp [rowP, Rw.cs]⟩, _, _, _, _, ⟨rfl, by simp [rowP, Rw.cs]⟩, _, hx, brb (fun h6 => hbad (hbp ?_)) (fun h6 => ⟨⟨by omega, by omega, by simp [rowP, Rw.cs]⟩, _, _, _, _, ⟨rfl, by simp [rowP, Rw.cs]⟩, _, hy, brb (fun h7 => hbad (hbp ?_)) (fun h7 => ?_)⟩)⟩
    ·simp at h6; rw [h6]; rfl
    ·simp at h7; rw [h7]; simp
    ·have hw : IntKind.wrap .i64 ((j : Int) + 1) = ((j + 1 : Nat) : Int) := by rw [i64w (by omega) (by omega)]; omega
     rw [hw]
     refine ⟨⟨j + 1, by omega, rfl, by omega, ?_⟩, by simp only [nth, toI]; omega⟩
     rw [List.take_succ_eq_append_getElem hjl2, List.all_append, hja]
     simp at h6 h7
     simp [h6, h7]
   ·have : j = e.pts.length := by omega
    subst this
    rw [List.take_length] at hja
    have hw : IntKind.wrap .i64 ((k : Int) + 1) = ((k + 1 : Nat) : Int) := by rw [i64w (by omega) (by omega)]; omega
    rw [hw]
    refine ⟨⟨k + 1, by omega, rfl, ?_⟩, by simp only [nth, toI]; omega⟩
    rw [List.take_succ_eq_append_getElem hkl, List.all_append, hall, hE]
    simp only [Bool.true_and, List.all_cons, List.all_nil, Bool.and_true]
    unfold smE
    rw [decide_eq_true (by omega : e.pts.length ≤ 5), decide_eq_true (by omega : e.layer.length ≤ 60), h4, hja]; rfl
  ·have : k = es.length := by omega
   subst this
   rw [List.take_length] at hall
   rw [hall]
theorem pfind1_ok (l : Ly) (s : List UInt8) : Gives CC 116 [.ag (rowL l), .c (.ptr [.str s])] [.c (.bool (l.name == s))] := by
 refine wpF_ok (anns := fun _ => ⟨[], [], fun _ _ => True, fun _ => 0⟩) mixedT Tryz.func116 ?_
 unfold rowL
 rw [vc_pfind1]
 exact ⟨_, ⟨rfl, by simp⟩, rfl⟩
theorem pIdxF_ok {ls : List Ly} {s : List UInt8} (hl : ls.length ≤ 1073741824) : Gives CC 115 [.c (.sl (ls.map rowL)), .c (.clo 116 [.ptr [.str s]])] [.c (.int .i64 (fndZ ls s))] := by
 refine wpF_ok (anns := fun _ => ⟨[.slot 8 (.int .i64 0)], [], fun _ ds => ∃ k : Nat, k ≤ ls.length ∧ ds = [.int .i64 (k : Int)] ∧ fndF s (ls.drop k) k = fndZ ls s, fun ds => (ls.length - toI (nth .undef ds 0)).toNat⟩) mixedT Tryz.func115 ?_
 rw [vc_pIdxF]
 simp only [Int.ofNat_eq_natCast, List.length_map]
 refine ⟨⟨0, by omega, rfl, rfl⟩, ?_⟩
 rintro n ⟨k, hk, he, hf⟩
 simp only [List.cons.injEq, D.int.injEq, true_and, and_true] at he
 subst he
 refine brd (fun h => ?_) (fun h => ?_)
 ·have hkl : k < ls.length := by omega
  rw [Int.toNat_natCast, nth_rows hkl]
  rw [fndF_at hkl] at hf
  refine ⟨⟨by omega, by omega, rfl⟩, _, _, _, ⟨rfl, by simp [rowL]⟩, _, pfind1_ok ls[k] s, brb' (fun h2 => ?_) (fun h2 => ?_)⟩
  ·have h2 : ls[k].name = s := by simpa using h2
   rw [if_pos h2] at hf
   rw [hf]
  ·have h2 : ¬ ls[k].name = s := by simpa using h2
   rw [if_neg h2] at hf
   have hw : IntKind.wrap .i64 ((k : Int) + 1) = ((k + 1 : Nat) : Int) := by rw [i64w (by omega) (by omega)]; omega
   rw [hw]
   exact ⟨⟨k + 1, by omega, rfl, hf⟩, by simp only [nth, toI]; omega⟩
 ·have : k = ls.length := by omega
  subst this
  rw [List.drop_length] at hf
  rw [← hf]; rfl
theorem pfind_ok {ls : List Ly} {s : List UInt8} (hl : ls.length ≤ 1073741824) : Gives CC 61 [.c (.sl (ls.map rowL)), .c (.str s)] [.c (.int .i64 (fndZ ls s))] := by
 refine wpF_ok (anns := fun _ => ⟨[], [], fun _ _ => True, fun _ => 0⟩) mixedT Tryz.func61 ?_
 rw [vc_pfind]
 exact ⟨_, pIdxF_ok hl, rfl⟩
def idxE (s : List UInt8) : List Er → Nat → List Nat
 | [], _ => []
 | e :: r, i => if e.layer = s then i :: idxE s r (i + 1) else idxE s r (i + 1)
def rowI (l : List Nat) : List (List D) := List.map (fun i : Nat => [D.int .i64 (i : Int)]) l
def layO (ls : List Ly) (es : List Er) (s : List UInt8) : List A := if fndZ ls s < 0 then [.c (.sl []), .c (.int .i64 4)] else [.c (.sl (rowI (idxE s es 0))), .c (.int .i64 0)]
theorem idxE_len (s : List UInt8) : ∀ (es : List Er) (i : Nat), (idxE s es i).length ≤ es.length
 | [], _ => by simp [idxE]
 | e :: r, i => by
  rw [idxE]
  have := idxE_len s r (i + 1)
  split <;> simp only [List.length_cons] <;> omega
theorem idxE_snoc (s : List UInt8) (e : Er) : ∀ (es : List Er) (i : Nat), idxE s (es ++ [e]) i = idxE s es i ++ (if e.layer = s then [i + es.length] else [])
 | [], i => by simp [idxE]
 | x :: r, i => by
  rw [List.cons_append, idxE, idxE, idxE_snoc s e r (i + 1)]
  simp only [List.length_cons]
  rw [show i + 1 + r.length = i + (r.length + 1) by omega]
  split <;> simp
theorem idxE_take {s : List UInt8} {es : List Er} {k : Nat} (h : k < es.length) : idxE s (es.take (k + 1)) 0 = idxE s (es.take k) 0 ++ (if es[k].layer = s then [k] else []) := by
 rw [List.take_succ_eq_append_getElem h, idxE_snoc, List.length_take, Nat.min_eq_left (by omega), Nat.zero_add]
theorem rowI_snoc (l : List Nat) (k : Nat) : rowI (l ++ [k]) = rowI l ++ [[.int .i64 (k : Int)]] := by simp [rowI]
theorem lens_one (n : Int) : lens 1 [[D.int .i64 n]] := fun e he => by
 simp only [List.mem_cons, List.not_mem_nil, or_false] at he
 rw [he]; rfl
theorem pLayer_ok {ls : List Ly} {es : List Er} {s : List UInt8} (hl : ls.length ≤ 1000000) (he : es.length ≤ 1000000) : Gives CC 22 [drA ls es, .c (.str s)] (layO ls es s) := by
 have hf := pfind_ok (ls := ls) (s := s) (by omega)
 refine wpF_ok (anns := fun _ => ⟨[.slot 17 (.int .i64 0), .own 6 32 1], [], fun _ ds => ∃ k : Nat, k ≤ es.length ∧ ds = [.int .i64 (k : Int), .sl (rowI (idxE s (es.take k) 0))], fun ds => (es.length - toI (nth .undef ds 0)).toNat⟩) mixedT Tryz.func22 ?_
 unfold drA
 rw [vc_pLayer]
 unfold layO
 simp only [Int.ofNat_eq_natCast, List.length_map]
 refine ⟨_, hf, brd (fun h => by rw [if_pos h]) (fun h => ?_)⟩
 rw [if_neg h]
 refine ⟨⟨0, by omega, rfl⟩, ?_⟩
 rintro n xs ⟨k, hk, hds⟩
 simp only [List.cons.injEq, D.int.injEq, D.sl.injEq, true_and, and_true] at hds
 obtain ⟨rfl, rfl⟩ := hds
 refine brd (fun h2 => ?_) (fun h2 => ?_)
 ·have hkl : k < es.length := by omega
  have hw : IntKind.wrap .i64 ((k : Int) + 1) = ((k + 1 : Nat) : Int) := by rw [i64w (by omega) (by omega)]; omega
  have hlen := idxE_len s (es.take k) 0
  rw [List.length_take] at hlen
  rw [Int.toNat_natCast, nth_rows hkl, hw]
  refine ⟨⟨by omega, by omega, by simp [rowE, Rw.cs]⟩, _, _, _, _, _, _, _, ⟨rfl, by simp [rowE, Rw.cs]⟩, brb (fun h3 => ?_) (fun h3 => ?_)⟩
  ·have h3 : es[k].layer = s := by simpa using h3
   refine ⟨⟨by unfold room rowI; rw [List.length_map]; omega, lens_one _⟩, ⟨k + 1, by omega, ?_⟩, by simp only [nth, toI]; omega⟩
   rw [idxE_take hkl, if_pos h3, rowI_snoc]
  ·have h3 : ¬ es[k].layer = s := by simpa using h3
   refine ⟨⟨k + 1, by omega, ?_⟩, by simp only [nth, toI]; omega⟩
   rw [idxE_take hkl, if_neg h3, List.append_nil]
 ·have : k = es.length := by omega
  subst this
  rw [List.take_length]
theorem eLayer_ok {ls : List Ly} {es : List Er} {s : List UInt8} (hl : ls.length ≤ 1000000) (he : es.length ≤ 1000000) : Gives CC 23 [drA ls es, .c (.str s)] (layO ls es s) := by
 have hf := efind_ok (ls := ls) (s := s) (by omega)
 refine wpF_ok (anns := fun _ => ⟨[.slot 7 (.int .i64 0), .own 6 33 1], [], fun _ ds => ∃ k : Nat, k ≤ es.length ∧ ds = [.int .i64 (k : Int), .sl (rowI (idxE s (es.take k) 0))], fun ds => (es.length - toI (nth .undef ds 0)).toNat⟩) mixedT Tryz.func23 ?_
 unfold drA
 rw [vc_eLayer]
 unfold layO
 simp only [Int.ofNat_eq_natCast, List.length_map]
 refine ⟨_, hf, brd (fun h => by rw [if_pos h]) (fun h => ?_)⟩
 rw [if_neg h]
 refine ⟨⟨0, by omega, rfl⟩, ?_⟩
 rintro n xs ⟨k, hk, hds⟩
 simp only [List.cons.injEq, D.int.injEq, D.sl.injEq, true_and, and_true] at hds
 obtain ⟨rfl, rfl⟩ := hds
 refine brd (fun h2 => ?_) (fun h2 => ?_)
 ·have hkl : k < es.length := by omega
  have hw : IntKind.wrap .i64 ((k : Int) + 1) = ((k + 1 : Nat) : Int) := by rw [i64w (by omega) (by omega)]; omega
  have hlen := idxE_len s (es.take k) 0
  rw [List.length_take] at hlen
  rw [Int.toNat_natCast, nth_rows hkl, hw]
  refine ⟨⟨by omega, by omega, by simp [rowE, Rw.cs]⟩, _, ⟨rfl, by simp [rowE, Rw.cs]⟩, brb (fun h3 => ?_) (fun h3 => ?_)⟩
  ·have h3 : es[k].layer = s := by simpa using h3
   refine ⟨⟨by unfold room rowI; rw [List.length_map]; omega, lens_one _⟩, ⟨k + 1, by omega, ?_⟩, by simp only [nth, toI]; omega⟩
   rw [idxE_take hkl, if_pos h3, rowI_snoc]
  ·have h3 : ¬ es[k].layer = s := by simpa using h3
   refine ⟨⟨k + 1, by omega, ?_⟩, by simp only [nth, toI]; omega⟩
   rw [idxE_take hkl, if_neg h3, List.append_nil]
 ·have : k = es.length := by omega
  subst this
  rw [List.take_length]
theorem smR_parts {ls : List Ly} {es : List Er} (h : smR ls es = true) : ls.length ≤ 25 ∧ es.length ≤ 203 ∧ (∀ l ∈ ls, l.name.length ≤ 60) ∧ ∀ e ∈ es, e.few ∧ e.pts.length ≤ 5 ∧ e.layer.length ≤ 60 := by
 simp only [smR, Bool.and_eq_true, decide_eq_true_eq, List.all_eq_true] at h
 obtain ⟨h1, h2, h3, h4⟩ := h
 refine ⟨h1, by omega, h3, fun e he => ?_⟩
 have := h4 e he
 simp only [smE, Bool.and_eq_true, decide_eq_true_eq, List.all_eq_true] at this
 obtain ⟨g1, g2, g3, g4⟩ := this
 exact ⟨⟨fun p hp => ⟨shN_few.1 (g4 p hp).1, shN_few.1 (g4 p hp).2⟩, shN_few.1 g3⟩, g1, g2⟩
def rightB (ls : List Ly) (es : List Er) : Bool := decide (es.length ≤ 12) && (smR ls es && decide (vldR ls es = 0))
theorem lright_ok (ls : List Ly) (es : List Er) : Gives CC 17 [drA ls es] [.c (.bool (rightB ls es))] := by
 have hs := eSmall_ok ls es
 refine wpF_ok (anns := fun _ => ⟨[], [], fun _ _ => True, fun _ => 0⟩) mixedT Tryz.func17 ?_
 have ed : drA ls es = .ag [.sl (ls.map rowL), .sl (es.map rowE)] := rfl
 rw [ed, vc_lright]
 simp only [Int.ofNat_eq_natCast, List.length_map]
 unfold rightB
 refine brd (fun h => ⟨_, hs, brb' (fun h2 => ?_) (fun h2 => ?_)⟩) (fun h => ?_)
 ·obtain ⟨h3, h4, h5, h6⟩ := smR_parts h2
  have hv := eValid_ok (ls := ls) (es := es) (fun l hl => by have := h5 l hl; omega) (fun e he => ⟨(h6 e he).1, by have := (h6 e he).2.1; omega⟩)
  refine ⟨_, hv, ?_⟩
  rw [decide_eq_true (by omega : es.length ≤ 12), h2]
  have : (((vldR ls es : Nat) : Int) == 0) = decide (vldR ls es = 0) := by rw [Bool.eq_iff_iff]; simp
  rw [this]; rfl
 ·rw [decide_eq_true (by omega : es.length ≤ 12), h2]; rfl
 ·rw [decide_eq_false (by omega : ¬ es.length ≤ 12)]; rfl
theorem nth_rowI {l : List Nat} {i : Nat} (h : i < l.length) : nth [] (rowI l) i = [.int .i64 (l[i] : Int)] := nth_rows h
theorem lLayer_ok (hA : Gives CC 8 [] [.c (.bool true)]) (ls : List Ly) (es : List Er) (s : List UInt8) : Gives CC 7 [drA ls es, .c (.str s)] [.c (.bool true)] := by
 have hr := lright_ok ls es
 refine wpF_ok (anns := fun _ => ⟨[.slot 47 (.int .i64 0)], [], fun _ ds => ∃ k : Nat, k ≤ (idxE s es 0).length ∧ ds = [.int .i64 (k : Int)], fun ds => ((idxE s es 0).length - toI (nth .undef ds 0)).toNat⟩) mixedT Tryz.func7 ?_
 have ed : drA ls es = .ag [.sl (ls.map rowL), .sl (es.map rowE)] := rfl
 have hp := fun h1 h2 => pLayer_ok (ls := ls) (es := es) (s := s) h1 h2
 have he := fun h1 h2 => eLayer_ok (ls := ls) (es := es) (s := s) h1 h2
 rw [ed] at hr hp he ⊢
 rw [vc_lLayer]
 simp only [Int.ofNat_eq_natCast]
 refine ⟨_, hA, brb (fun h => by simp at h) (fun _ => ⟨_, hr, brb (fun _ => ⟨_, hA, rfl⟩) (fun h => brd (fun _ => ⟨_, hA, rfl⟩) (fun _ => ?_))⟩)⟩
 have h : rightB ls es = true := by simpa using h
 simp only [rightB, Bool.and_eq_true, decide_eq_true_eq] at h
 obtain ⟨h1, h2, _⟩ := h
 obtain ⟨h3, _⟩ := smR_parts h2
 replace hp := hp (by omega) (by omega)
 replace he := he (by omega) (by omega)
 unfold layO at hp he
 by_cases hn : fndZ ls s < 0
 ·rw [if_pos hn] at hp he
  refine ⟨_, _, hp, _, _, he, brb (fun h => by simp at h) (fun _ => brb (fun h => by simp at h) (fun _ => ?_))⟩
  refine ⟨⟨0, by omega, rfl⟩, ?_⟩
  rintro n ⟨k, _, hds⟩
  simp only [List.cons.injEq, D.int.injEq, true_and, and_true] at hds
  subst hds
  refine brd (fun h => ?_) (fun _ => trivial)
  simp only [List.length_nil] at h
  omega
 ·rw [if_neg hn] at hp he
  have hil := idxE_len s es 0
  generalize idxE s es 0 = l at *
  have hll : (rowI l).length = l.length := List.length_map ..
  refine ⟨_, _, hp, _, _, he, brb (fun h => by simp at h) (fun _ => brb (fun h => by simp at h) (fun _ => ?_))⟩
  refine ⟨⟨0, by omega, rfl⟩, ?_⟩
  rintro n ⟨k, hk, hds⟩
  simp only [List.cons.injEq, D.int.injEq, true_and, and_true] at hds
  subst hds
  rw [hll]
  refine brd (fun h => ?_) (fun _ => trivial)
  have hkl : k < l.length := by omega
  have hw : IntKind.wrap .i64 ((k : Int) + 1) = ((k + 1 : Nat) : Int) := by rw [i64w (by omega) (by omega)]; omega
  rw [Int.toNat_natCast, nth_rowI hkl, hw]
  refine ⟨⟨by omega, by omega, rfl⟩, _, ⟨rfl, by simp⟩, ⟨by omega, by omega, rfl⟩, _, ⟨rfl, by simp⟩, brb (fun h => by simp at h) (fun _ => ⟨⟨k + 1, by omega, rfl⟩, by simp only [nth, toI]; omega⟩)⟩
end Eng
end
